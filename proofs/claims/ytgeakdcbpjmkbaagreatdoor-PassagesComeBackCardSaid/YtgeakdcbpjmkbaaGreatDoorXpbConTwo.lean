/- PassagesComeBack is proved: for every input the law returns true, and its argument reads afterwards as it read before. Conditions: those of the given row alone. -/
import Derived.Test.YtgeakdcbpjmkbaaGreatDoorXpbConOne
import Derived.Test.YtgeakdcbpjmkbaaGreatDoorXpbEngTwo
import Derived.Lib.ItoaNum
import Derived.Lib.AtoiAll
import Derived.Lib.Strings
import Derived.Shelf.Small.Strs
import Derived.Test.YtgeakdcbpjmkbaaGreatDoorProg
import Derived.Shelf.Strings.Search3
import Derived.Shelf.Spec.SlicesGrow
set_option linter.unusedVariables false
set_option linter.unusedSimpArgs false
set_option maxRecDepth 20000
namespace Go.Proofs.YtgeakdcbpjmkbaaGreatDoor
open Go Go.Eng Go.RowKit
def oXCqC111_6 : List (Nat × List Nat) := [(0, []), (1, [0]), (2, []), (3, []), (4, [0, 1, 2, 3]), (5, [0, 1, 2, 3, 4]), (6, [0, 1, 2, 3, 4]), (7, [0, 1, 2, 3]), (8, [0, 1, 2, 3]), (9, [])]
def oXCqC111_11 : List (Nat × List Nat) := [(0, []), (1, [0]), (2, []), (3, []), (4, [0, 1, 2, 3]), (5, [0, 1, 2, 3, 4]), (6, [0, 1, 2, 3, 4]), (7, [0, 1, 2, 3]), (8, [0, 1, 2, 3]), (9, [])]
def oXCqC32_10 : List (Nat × List Nat) := [(0, []), (1, [0]), (2, [0]), (3, []), (4, []), (5, [0, 1, 2, 3, 4]), (6, [0, 1, 2, 3, 4, 5]), (7, [0, 1, 2, 3, 4]), (8, [0, 1, 2, 3, 4]), (9, []), (10, [])]
theorem s151 (l : List Pas) (hl : l.length ≤ 2^20) :
 FSpec Tryz.prog 111 [.buf 1000001] [(1000001, seqB 51 4 paF pa0 l)]
  (fun y r => ∃ d, (d = 1000001 ∨ d = 59) ∧ y = .buf d ∧ r = [(d, seqB 51 4 paF pa0 (cptN l l.length))]) := by
 refine spec_of hT (C := []) Tryz.func111 rfl Tryz.call111 rfl rfl rfl ?_
 conv => whnf
 repeat' (first | (refine br_intro ?_ ?_ <;> intro hb <;> (try simp only [brs] at hb) <;> conv => whnf) | (refine RegX.rule (id := 6) hT rfl [] oXCqC111_6 (by decide +kernel) ?_; conv => whnf) | (refine RegX.rule (id := 11) hT rfl [] oXCqC111_11 (by decide +kernel) ?_; conv => whnf) | omega | (refine And.intro ?_ ?_; ((try dsimp only); first | omega | (refine szA rfl ?_; omega) | (refine szB rfl ?_; omega) | (unfold inI64; omega) | exact rfl | (simp only [List.toList_toArray, List.length_cons, List.length_nil]; omega) | (simp only [lns] at *; omega) | decide | (unfold inI64; decide)); conv => whnf) | decide | assumption)
 · have e : cptN l l.length = l := by
    match l, hb with
    | [], _ => rfl
    | [x], _ => rfl
    | _ :: _ :: _, h => simp at h; omega
   refine .ret _ ?_
   conv => whnf
   rw [e]
   exact ⟨_, ⟨1000001, .inl rfl, rfl, rfl⟩, rr, trivial⟩
 refine LoopX.rule hT (C := []) (ι := Nat) (fun k => 1 ≤ k ∧ k ≤ l.length ∧ cptN l k = l.take k) (fun k => mkSt [(0, .buf 1000001), (3, .d (.int .i64 k))] [(1000001, seqB 51 4 paF pa0 l)]) (fun k => l.length - k) 1 ⟨by omega, by omega, ?_⟩ (by (refine Entails.mk' [(1000001, 1000001)] rfl rfl ?_ ?_ <;> repeat' (first | exact True.intro | exact lr | exact rr | exact SV.le_int (by omega) | exact SV.le_any _ | refine And.intro ?_ ?_)); done) ?_
 · cases l with
   | nil => simp at hb
   | cons x l => rfl
 rintro k ⟨p1, p2, p3⟩
 have e1 : (k : Int).toNat = k := Int.toNat_natCast k
 conv => whnf
 repeat' (first | (refine SliceX.first (lo := none) rfl ?_; conv => whnf) | (refine SliceX.look (lo := some _) rfl ?_; conv => whnf) | (refine br_intro ?_ ?_ <;> intro hb <;> (try simp only [brs] at hb) <;> conv => whnf) | (refine RegX.rule (id := 6) hT rfl [] oXCqC111_6 (by decide +kernel) ?_; conv => whnf) | (refine RegX.rule (id := 11) hT rfl [] oXCqC111_11 (by decide +kernel) ?_; conv => whnf) | omega | (refine And.intro ?_ ?_; ((try dsimp only); first | omega | (refine szA rfl ?_; omega) | (refine szB rfl ?_; omega) | (unfold inI64; omega) | exact rfl | (simp only [List.toList_toArray, List.length_cons, List.length_nil]; omega) | (simp only [lns] at *; omega) | decide | (unfold inI64; decide)); conv => whnf) | decide | assumption)
 · have hsub : SV.le (SV.sub 1000001 4 (k : Int).toNat (((l.length : Nat) : Int) - (k : Int)).toNat) (SV.sub 1000001 4 k (l.length - k)) := by
    rw [show (k : Int).toNat = k by omega, show (((l.length : Nat) : Int) - (k : Int)).toNat = l.length - k by omega]; exact lr
   have hdup : l.getD k pa0 = l.getD (k - 1) pa0 := by
    rw [toNat_pred] at hb
    exact pas_eq.2 ⟨hb.1, hb.2.1, hb.2.2.1, hb.2.2.2.1⟩
   refine LoopX.rule hT (C := []) (ι := Nat × Nat × List Pas) (fun (q, m, c) => k ≤ q ∧ q < k + m ∧ 1 ≤ m ∧ k + m ≤ l.length ∧ c.length = l.length ∧ c.take q = cptN l (k + m) ∧ ∀ j, k + m ≤ j + 1 → c.getD j pa0 = l.getD j pa0)
    (fun (q, m, c) => mkSt [(0, .buf 1000001), (3, .d (.int .i64 q)), (4, .sub 1000001 4 k (l.length - k)), (5, .d (.int .i64 m))] [(1000001, seqB 51 4 paF pa0 c)])
    (fun (_, m, _) => l.length - m) (k, 1, l) ⟨by omega, by omega, by omega, by omega, rfl, ?_, fun _ _ => rfl⟩ (by (refine Entails.mk' [(1000001, 1000001)] rfl rfl ?_ ?_ <;> repeat' (first | exact True.intro | exact lr | exact rr | (exact hsub) | exact SV.le_int (by omega) | exact SV.le_any _ | refine And.intro ?_ ?_)); done) ?_
   · rw [cptN, if_pos ⟨by omega, hdup⟩, List.append_nil, p3]
   rintro ⟨q, m, c⟩ ⟨r1, r2, r3, r4, hc0, r5, r6⟩
   conv => whnf
   repeat' (first | (refine SliceX.first (lo := none) rfl ?_; conv => whnf) | (refine SliceX.look (lo := some _) rfl ?_; conv => whnf) | (refine br_intro ?_ ?_ <;> intro hb <;> (try simp only [brs] at hb) <;> conv => whnf) | (refine RegX.rule (id := 6) hT rfl [] oXCqC111_6 (by decide +kernel) ?_; conv => whnf) | (refine RegX.rule (id := 11) hT rfl [] oXCqC111_11 (by decide +kernel) ?_; conv => whnf) | omega | (refine And.intro ?_ ?_; ((try dsimp only); first | omega | (refine szA rfl ?_; omega) | (refine szB rfl ?_; omega) | (unfold inI64; omega) | exact rfl | (simp only [List.toList_toArray, List.length_cons, List.length_nil]; omega) | (simp only [lns] at *; omega) | decide | (unfold inI64; decide)); conv => whnf) | decide | assumption)
   · have g1 := r6 (k + m) (by omega)
     have g2 := r6 (k + m - 1) (by omega)
     rw [show k + ((m : Int) - 1).toNat = k + m - 1 by omega, g1, g2] at hb
     have hne : ¬ l.getD (k + m) pa0 = l.getD (k + m - 1) pa0 := by
      intro h
      rw [h] at hb
      simp at hb
     have eq' : (q : Int).toNat = q := Int.toNat_natCast q
     have em : k + (m : Int).toNat = k + m := by rw [Int.toNat_natCast]
     refine ⟨(q + 1, m + 1, c.set (q : Int).toNat (c.getD (k + (m : Int).toNat) pa0)), ⟨by omega, by omega, by omega, by omega, by rw [List.length_set]; exact hc0, ?_, fun j hj => ?_⟩, by show l.length - (m + 1) < l.length - m; omega, Entails.mk' [(1000001, 1000001)] rfl rfl ⟨lr, SV.le_int (by omega), lr, SV.le_int (by omega), trivial⟩ ⟨Res.le_putF (fun _ _ => rfl), trivial⟩⟩
     · rw [eq', em, g1, ← Nat.add_assoc, cptN, if_neg (fun h => hne h.2), ← r5, take_snocD (d := pa0) (by rw [List.length_set]; omega)]
       rw [List.take_set_of_le (Nat.le_refl _), List.getD_eq_getElem?_getD, List.getElem?_set_self (by omega)]; rfl
     · rw [eq', List.getD_eq_getElem?_getD, List.getElem?_set_ne (by omega), ← List.getD_eq_getElem?_getD]
       exact r6 j (by omega)
   · have g1 := r6 (k + m) (by omega)
     have g2 := r6 (k + m - 1) (by omega)
     rw [show k + ((m : Int) - 1).toNat = k + m - 1 by omega, g1, g2] at hb
     have hdup2 : l.getD (k + m) pa0 = l.getD (k + m - 1) pa0 := pas_eq.2 ⟨hb.1, hb.2.1, hb.2.2.1, hb.2.2.2.1⟩
     refine ⟨(q, m + 1, c), ⟨by omega, by omega, by omega, by omega, hc0, ?_, fun j hj => r6 j (by omega)⟩, by show l.length - (m + 1) < l.length - m; omega, (by (refine Entails.mk' [(1000001, 1000001)] rfl rfl ?_ ?_ <;> repeat' (first | exact True.intro | exact lr | exact rr | exact SV.le_int (by omega) | exact SV.le_any _ | refine And.intro ?_ ?_)); done)⟩
     rw [← Nat.add_assoc, cptN, if_pos ⟨by omega, hdup2⟩, List.append_nil]; exact r5
   · have hkm : k + m = l.length := by omega
     refine .ret _ ?_
     conv => whnf
     refine ⟨_, ⟨59, .inr rfl, rfl, rfl⟩, Res.le_buf (by rw [← hkm, ← r5, List.length_take]; omega) (fun i hi => ?_), trivial⟩
     have hi : i < q := by
      have : i < (q : Int).toNat := hi
      omega
     have h1 : Nat.ble (q : Int).toNat i = false := by
      rw [← Bool.not_eq_true, Nat.ble_eq]; omega
     show (bif Nat.ble (q : Int).toNat i && _ then _ else rowF paF pa0 c i) = _
     rw [h1, ← hkm, ← r5]
     simp only [Bool.false_and, cond_false, rowF]
     rw [List.getD_eq_getElem?_getD, List.getD_eq_getElem?_getD, List.getElem?_take_of_lt hi]
 · have hne : ¬ l.getD k pa0 = l.getD (k - 1) pa0 := by
    rw [toNat_pred] at hb
    intro h
    rw [h] at hb
    simp at hb
   refine ⟨k + 1, ⟨by omega, by omega, ?_⟩, by omega, (by (refine Entails.mk' [(1000001, 1000001)] rfl rfl ?_ ?_ <;> repeat' (first | exact True.intro | exact lr | exact rr | exact SV.le_int (by omega) | exact SV.le_any _ | refine And.intro ?_ ?_)); done)⟩
   rw [cptN, if_neg (fun h => hne h.2), p3, take_snocD (d := pa0) (by omega)]
 · have hk : k = l.length := by omega
   have e : cptN l l.length = l := by rw [← hk, p3, hk, List.take_length]
   refine .ret _ ?_
   conv => whnf
   rw [e]
   exact ⟨_, ⟨1000001, .inl rfl, rfl, rfl⟩, rr, trivial⟩
theorem s87 (g : List Gate) (a b : List Pas) (hg : gOk g) (ha : pOk a) (hb' : pOk b) (hn : a.length + b.length < 20) :
 FSpec Tryz.prog 32 [.d (gates g), .d (pass a), .d (pass b)] [] (fun x r => x = .tup [.d (if mergeE g a b = 0 then pass (mrgL a b) else .nilsl), .d (.int .i64 (mergeE g a b))] ∧ r = []) := by
 have hml := mrg_len a b
 have hfl : [a, b].flatten = a ++ b := by simp
 have h149 := s149 [a, b] (by simp) (by simp [lens]; omega)
 rw [hfl] at h149
 have h126 := s126f 110 pasCmp (a ++ b) (by rw [List.length_append]; exact hn) (fun p q _ _ => s150 p q)
 have h151 := s151 (isort pasCmp (a ++ b)) (by rw [isort_len, List.length_append]; omega)
 rw [show cptN (isort pasCmp (a ++ b)) (isort pasCmp (a ++ b)).length = mrgL a b from rfl] at h151
 refine spec_of hT (C := []) Tryz.func32 rfl Tryz.call32 rfl rfl rfl ?_
 conv => whnf
 repeat' (first | (refine CallX.exact (s90 g a hg ha) rfl rfl ?_; rotate_right; conv => whnf) | (refine CallX.exact (s90 g b hg hb') rfl rfl ?_; rotate_right; conv => whnf) | (refine CallX.pure (s105 [_, _] (by simp)) ⟨SV.le_lit (by rfl) (by rfl), trivial⟩ rfl ?_; conv => whnf) | (refine br_intro ?_ ?_ <;> intro hb <;> (try simp only [brs] at hb) <;> conv => whnf) | (refine RegX.rule (id := 10) hT rfl [] oXCqC32_10 (by decide +kernel) ?_; conv => whnf) | omega | (refine And.intro ?_ ?_; ((try dsimp only); first | omega | (refine szA rfl ?_; omega) | (refine szB rfl ?_; omega) | (unfold inI64; omega) | exact rfl | (simp only [List.toList_toArray, List.length_cons, List.length_nil]; omega) | (simp only [lns] at *; omega) | decide | (unfold inI64; decide)); conv => whnf) | decide | assumption)
 · have hE : mergeE g a b = firstE [chkE g a, chkE g b] := by unfold mergeE; rw [if_pos hb]
   rw [hE, if_neg hb]
   refine .ret _ ?_
   conv => whnf
   refine ⟨[], ⟨congrArg SV.tup ?_, rfl⟩, trivial⟩
   repeat' (refine cons_eq ?_ ?_)
   all_goals (conv => lhs; whnf)
   all_goals try (with_reducible rfl)
   all_goals rfl
 have hE : mergeE g a b = mrgE a b := by unfold mergeE; rw [if_neg (fun h => h hb)]
 rw [hE]
 refine CallX.of h149 [(6, 25)] rfl ⟨SV.le_lit (l := [a, b]) rfl rfl, trivial⟩ trivial rfl rfl ?_
 rintro x rout ⟨rfl, rfl⟩
 refine ⟨rfl, ?_⟩
 conv => whnf
 repeat' (first | (refine br_intro ?_ ?_ <;> intro hb <;> (try simp only [brs] at hb) <;> conv => whnf) | (refine RegX.rule (id := 10) hT rfl [] oXCqC32_10 (by decide +kernel) ?_; conv => whnf) | omega | (refine And.intro ?_ ?_; ((try dsimp only); first | omega | (refine szA rfl ?_; omega) | (refine szB rfl ?_; omega) | (unfold inI64; omega) | exact rfl | (simp only [List.toList_toArray, List.length_cons, List.length_nil]; omega) | (simp only [lns] at *; omega) | decide | (unfold inI64; decide)); conv => whnf) | decide | assumption)
 refine CallX.of h126 [(1000001, 25)] rfl ⟨lr, lr, trivial⟩ ⟨rr, trivial⟩ rfl rfl ?_
 rintro x rout ⟨rfl, rfl⟩
 refine ⟨rfl, ?_⟩
 conv => whnf
 repeat' (first | (refine br_intro ?_ ?_ <;> intro hb <;> (try simp only [brs] at hb) <;> conv => whnf) | (refine RegX.rule (id := 10) hT rfl [] oXCqC32_10 (by decide +kernel) ?_; conv => whnf) | omega | (refine And.intro ?_ ?_; ((try dsimp only); first | omega | (refine szA rfl ?_; omega) | (refine szB rfl ?_; omega) | (unfold inI64; omega) | exact rfl | (simp only [List.toList_toArray, List.length_cons, List.length_nil]; omega) | (simp only [lns] at *; omega) | decide | (unfold inI64; decide)); conv => whnf) | decide | assumption)
 refine CallX.of h151 [(1000001, 25), (59, 100)] rfl ⟨lr, trivial⟩ ⟨rr, trivial⟩ rfl rfl ?_
 rintro x rout ⟨d, hd, rfl, rfl⟩
 rcases hd with rfl | rfl
 · refine ⟨rfl, ?_⟩
   conv => whnf
   repeat' (first | (refine br_intro ?_ ?_ <;> intro hb <;> (try simp only [brs] at hb) <;> conv => whnf) | (refine RegX.rule (id := 10) hT rfl [] oXCqC32_10 (by decide +kernel) ?_; conv => whnf) | omega | (refine And.intro ?_ ?_; ((try dsimp only); first | omega | (refine szA rfl ?_; omega) | (refine szB rfl ?_; omega) | (unfold inI64; omega) | exact rfl | (simp only [List.toList_toArray, List.length_cons, List.length_nil]; omega) | (simp only [lns] at *; omega) | decide | (unfold inI64; decide)); conv => whnf) | decide | assumption)
   refine LoopX.rule hT (C := []) (ι := Nat) (fun i => 1 ≤ i ∧ (i ≤ (mrgL a b).length ∨ i = 1) ∧ ∀ j, j < i → nbE (mrgL a b) j = 0) (fun i => mkSt [(9, .buf 9), (10, .d (.int .i64 i))] [(9, seqB 51 4 paF pa0 (mrgL a b))]) (fun i => (mrgL a b).length - i) 1 ⟨by omega, by omega, nb_zero _⟩ ?_ ?_
   · exact (by (refine Entails.mk' [(9, 25)] rfl rfl ?_ ?_ <;> repeat' (first | exact True.intro | exact lr | exact rr | exact SV.le_int (by omega) | exact SV.le_any _ | refine And.intro ?_ ?_)); done)
   rintro i ⟨p0, p1, p2⟩
   have e1 : (i : Int).toNat = i := Int.toNat_natCast i
   conv => whnf
   repeat' (first | (refine CallX.exact (s150 ((mrgL a b).getD ((i : Int) - 1).toNat pa0) ((mrgL a b).getD (i : Int).toNat pa0)) rfl rfl ?_; rotate_right; conv => whnf) | (refine br_intro ?_ ?_ <;> intro hb <;> (try simp only [brs] at hb) <;> conv => whnf) | (refine RegX.rule (id := 10) hT rfl [] oXCqC32_10 (by decide +kernel) ?_; conv => whnf) | omega | (refine And.intro ?_ ?_; ((try dsimp only); first | omega | (refine szA rfl ?_; omega) | (refine szB rfl ?_; omega) | (unfold inI64; omega) | exact rfl | (simp only [List.toList_toArray, List.length_cons, List.length_nil]; omega) | (simp only [lns] at *; omega) | decide | (unfold inI64; decide)); conv => whnf) | decide | assumption)
   · have h13 : nbE (mrgL a b) i = 13 := by
      rw [toNat_pred] at hb
      unfold nbE; rw [if_pos ⟨by omega, hb⟩]
     have hE : mrgE a b = 13 := by
      unfold mrgE; rw [firstAt_eq (e := 13) (by omega) p2 (by decide) h13]; rfl
     rw [hE]
     refine .ret _ ?_
     conv => whnf
     refine ⟨[], ⟨congrArg SV.tup ?_, rfl⟩, trivial⟩
     repeat' (refine cons_eq ?_ ?_)
     all_goals (conv => lhs; whnf)
     all_goals try (with_reducible rfl)
     all_goals rfl
   · refine ⟨i + 1, ⟨by omega, by omega, first_step p2 ?_⟩, by omega, (by (refine Entails.mk' [(9, 9)] rfl rfl ?_ ?_ <;> repeat' (first | exact True.intro | exact lr | exact rr | exact SV.le_int (by omega) | exact SV.le_any _ | refine And.intro ?_ ?_)); done)⟩
     rw [toNat_pred] at hb
     unfold nbE; rw [if_neg (fun h => hb h.2)]
   · have hE : mrgE a b = 0 := by
      unfold mrgE; rw [firstAt_zero (fun j hj => p2 j (by omega)), if_neg (by decide), if_neg (by omega)]
     rw [hE, if_pos rfl]
     refine .freeze _ 9 51 4 _ _ rfl ?_
     refine .ret _ ?_
     conv => whnf
     refine ⟨[], ⟨congrArg SV.tup ?_, rfl⟩, trivial⟩
     repeat' (refine cons_eq ?_ ?_)
     all_goals (conv => lhs; whnf)
     all_goals try (with_reducible rfl)
 · refine ⟨rfl, ?_⟩
   conv => whnf
   repeat' (first | (refine br_intro ?_ ?_ <;> intro hb <;> (try simp only [brs] at hb) <;> conv => whnf) | (refine RegX.rule (id := 10) hT rfl [] oXCqC32_10 (by decide +kernel) ?_; conv => whnf) | omega | (refine And.intro ?_ ?_; ((try dsimp only); first | omega | (refine szA rfl ?_; omega) | (refine szB rfl ?_; omega) | (unfold inI64; omega) | exact rfl | (simp only [List.toList_toArray, List.length_cons, List.length_nil]; omega) | (simp only [lns] at *; omega) | decide | (unfold inI64; decide)); conv => whnf) | decide | assumption)
   refine LoopX.rule hT (C := []) (ι := Nat) (fun i => 1 ≤ i ∧ (i ≤ (mrgL a b).length ∨ i = 1) ∧ ∀ j, j < i → nbE (mrgL a b) j = 0) (fun i => mkSt [(9, .buf 9), (10, .d (.int .i64 i))] [(9, seqB 51 4 paF pa0 (mrgL a b))]) (fun i => (mrgL a b).length - i) 1 ⟨by omega, by omega, nb_zero _⟩ ?_ ?_
   · exact (by (refine Entails.mk' [(9, 100)] rfl rfl ?_ ?_ <;> repeat' (first | exact True.intro | exact lr | exact rr | exact SV.le_int (by omega) | exact SV.le_any _ | refine And.intro ?_ ?_)); done)
   rintro i ⟨p0, p1, p2⟩
   have e1 : (i : Int).toNat = i := Int.toNat_natCast i
   conv => whnf
   repeat' (first | (refine CallX.exact (s150 ((mrgL a b).getD ((i : Int) - 1).toNat pa0) ((mrgL a b).getD (i : Int).toNat pa0)) rfl rfl ?_; rotate_right; conv => whnf) | (refine br_intro ?_ ?_ <;> intro hb <;> (try simp only [brs] at hb) <;> conv => whnf) | (refine RegX.rule (id := 10) hT rfl [] oXCqC32_10 (by decide +kernel) ?_; conv => whnf) | omega | (refine And.intro ?_ ?_; ((try dsimp only); first | omega | (refine szA rfl ?_; omega) | (refine szB rfl ?_; omega) | (unfold inI64; omega) | exact rfl | (simp only [List.toList_toArray, List.length_cons, List.length_nil]; omega) | (simp only [lns] at *; omega) | decide | (unfold inI64; decide)); conv => whnf) | decide | assumption)
   · have h13 : nbE (mrgL a b) i = 13 := by
      rw [toNat_pred] at hb
      unfold nbE; rw [if_pos ⟨by omega, hb⟩]
     have hE : mrgE a b = 13 := by
      unfold mrgE; rw [firstAt_eq (e := 13) (by omega) p2 (by decide) h13]; rfl
     rw [hE]
     refine .ret _ ?_
     conv => whnf
     refine ⟨[], ⟨congrArg SV.tup ?_, rfl⟩, trivial⟩
     repeat' (refine cons_eq ?_ ?_)
     all_goals (conv => lhs; whnf)
     all_goals try (with_reducible rfl)
     all_goals rfl
   · refine ⟨i + 1, ⟨by omega, by omega, first_step p2 ?_⟩, by omega, (by (refine Entails.mk' [(9, 9)] rfl rfl ?_ ?_ <;> repeat' (first | exact True.intro | exact lr | exact rr | exact SV.le_int (by omega) | exact SV.le_any _ | refine And.intro ?_ ?_)); done)⟩
     rw [toNat_pred] at hb
     unfold nbE; rw [if_neg (fun h => hb h.2)]
   · have hE : mrgE a b = 0 := by
      unfold mrgE; rw [firstAt_zero (fun j hj => p2 j (by omega)), if_neg (by decide), if_neg (by omega)]
     rw [hE, if_pos rfl]
     refine .freeze _ 9 51 4 _ _ rfl ?_
     refine .ret _ ?_
     conv => whnf
     refine ⟨[], ⟨congrArg SV.tup ?_, rfl⟩, trivial⟩
     repeat' (refine cons_eq ?_ ?_)
     all_goals (conv => lhs; whnf)
     all_goals try (with_reducible rfl)
def su (F : Nat → Int) : Nat → Int
 | 0 => 0
 | n + 1 => su F n + F n
theorem su_congr {F H : Nat → Int} : ∀ {n : Nat}, (∀ k, k < n → F k = H k) → su F n = su H n
 | 0, _ => rfl
 | n + 1, h => by rw [su, su, su_congr (fun k hk => h k (by omega)), h n (by omega)]
theorem su_le {F H : Nat → Int} : ∀ {n : Nat}, (∀ k, k < n → F k ≤ H k) → su F n ≤ su H n
 | 0, _ => Int.le_refl _
 | n + 1, h => by
   have h1 := su_le (n := n) (fun k hk => h k (by omega))
   have h2 := h n (by omega)
   rw [su, su]; omega
theorem su_zero {F : Nat → Int} {n : Nat} (h : ∀ k, k < n → F k = 0) : su F n = 0 := by
 have : ∀ m, su (fun _ => 0) m = 0 := fun m => by
  induction m with
  | zero => rfl
  | succ m ih => rw [su, ih]; rfl
 rw [su_congr (H := fun _ => 0) h, this]
theorem su_nn {F : Nat → Int} {n : Nat} (h : ∀ k, k < n → 0 ≤ F k) : 0 ≤ su F n := by
 have := su_le (F := fun _ => 0) (H := F) (n := n) h
 rwa [su_zero (fun _ _ => rfl)] at this
structure Nw where
 K : Nat
 N : Nat
 fr : Nat → Nat
 to : Nat → Nat
 c : Nat → Int
structure Nw.Ok (G : Nw) : Prop where
 fr : ∀ k, k < G.K → G.fr k < G.N
 to : ∀ k, k < G.K → G.to k < G.N
 c0 : ∀ k, k < G.K → 0 ≤ G.c k
def Nw.net (G : Nw) (f : Nat → Int) (v : Nat) : Int := su (fun k => (if G.fr k = v then f k else 0) - (if G.to k = v then f k else 0)) G.K
def Nw.cost (G : Nw) (f : Nat → Int) : Int := su (fun k => f k * G.c k) G.K
def Nw.Fills (G : Nw) (have_ want : Nat → Int) (g : Nat → Int) : Prop := (∀ k, k < G.K → 0 ≤ g k) ∧ ∀ v, v < G.N → - want v ≤ G.net g v ∧ G.net g v ≤ have_ v - want v
structure Nw.St (G : Nw) (have_ want f left lack : Nat → Int) : Prop where
 f0 : ∀ k, k < G.K → 0 ≤ f k
 left0 : ∀ v, v < G.N → 0 ≤ left v ∧ left v ≤ have_ v
 lack0 : ∀ v, v < G.N → 0 ≤ lack v ∧ lack v ≤ want v
 net : ∀ v, v < G.N → G.net f v = (have_ v - left v) - (want v - lack v)
structure Nw.Pot (G : Nw) (have_ f left p : Nat → Int) : Prop where
 p0 : ∀ v, v < G.N → 0 ≤ p v
 ar : ∀ k, k < G.K → p (G.to k) ≤ p (G.fr k) + G.c k
 tight : ∀ k, k < G.K → 0 < f k → p (G.fr k) + G.c k ≤ p (G.to k)
 left : ∀ v, v < G.N → 0 < left v → p v ≤ 0
def farD : Int := 1125899906842624
def upd {α : Type} (f : Nat → α) (a : Nat) (x : α) : Nat → α := fun v => if v = a then x else f v
def Nw.hd (G : Nw) (e : Nat × Bool) : Nat := if e.2 = true then G.fr e.1 else G.to e.1
def Nw.tl (G : Nw) (e : Nat × Bool) : Nat := if e.2 = true then G.to e.1 else G.fr e.1
def Nw.cc (G : Nw) (e : Nat × Bool) : Int := if e.2 = true then - G.c e.1 else G.c e.1
def Nw.Re (G : Nw) (f : Nat → Int) (e : Nat × Bool) : Prop := e.1 < G.K ∧ (e.2 = true → 0 < f e.1)
inductive Nw.Ch (G : Nw) (b : Nat → Option (Nat × Bool)) (Q : Nat × Bool → Prop) : Nat → Nat → Nat → Prop
 | root (v : Nat) (h : b v = none) : Nw.Ch G b Q v 0 v
 | step (v n r : Nat) (e : Nat × Bool) (h : b v = some e) (hq : Q e) (hc : Nw.Ch G b Q (G.tl e) n r) : Nw.Ch G b Q v (n + 1) r
structure Nw.Wy (G : Nw) (f left p dist : Nat → Int) (b : Nat → Option (Nat × Bool)) : Prop where
 d1 : ∀ v, v < G.N → dist v ≤ farD ∧ (dist v < farD → p v ≤ dist v)
 src : ∀ v, v < G.N → 0 < left v → dist v = 0 ∧ b v = none
 root : ∀ v, v < G.N → b v = none → dist v < farD → 0 < left v
 st : ∀ v e, v < G.N → b v = some e → G.Re f e ∧ G.hd e = v ∧ dist (G.tl e) < farD ∧ dist (G.tl e) + G.cc e ≤ dist v ∧ dist v < farD
 rt : ∀ v, v < G.N → dist v < farD → ∃ n r, G.Ch b (fun _ => True) v n r
def Nw.Fin (G : Nw) (f dist : Nat → Int) : Prop := ∀ e, G.Re f e → dist (G.tl e) < farD → dist (G.hd e) ≤ dist (G.tl e) + G.cc e
theorem Nw.Wy.tight {G : Nw} {f left p dist : Nat → Int} {b : Nat → Option (Nat × Bool)} (hw : G.Wy f left p dist b) (hf : G.Fin f dist) {v : Nat} {e : Nat × Bool} (hv : v < G.N) (he : b v = some e) : dist v = dist (G.tl e) + G.cc e := by
 obtain ⟨s1, s2, s3, s4, s5⟩ := hw.st v e hv he
 have := hf e s1 s3
 rw [s2] at this
 omega
structure Nw.Bot (G : Nw) (f dist : Nat → Int) (b : Nat → Option (Nat × Bool)) (t : Nat) (lk : Int) (a : Nat) (m : Int) : Prop where
 ch : ∀ m' n' r, m' ≤ m → G.Ch b (fun e => e.2 = true → m' ≤ f e.1) a n' r → ∃ n, G.Ch b (fun e => e.2 = true → m' ≤ f e.1) t n r
 aN : a < G.N
 dn : dist a < farD
 m1 : 1 ≤ m ∧ m ≤ lk
theorem Nw.Bot.done {G : Nw} {f dist : Nat → Int} {b : Nat → Option (Nat × Bool)} {t a : Nat} {lk m : Int} (h : G.Bot f dist b t lk a m) (ha : b a = none) {m' : Int} (hm : m' ≤ m) : ∃ n, G.Ch b (fun e => e.2 = true → m' ≤ f e.1) t n a :=
 h.ch m' 0 a hm (.root a ha)
structure Nw.Aug (G : Nw) (f dist : Nat → Int) (b : Nat → Option (Nat × Bool)) (t : Nat) (m : Int) (g : Nat → Int) (a n r : Nat) : Prop where
 ch : G.Ch b (fun e => e.2 = true → m ≤ f e.1) a n r
 aN : a < G.N
 dn : dist a < farD
 fl : ∀ k, k < G.K → f k ≤ g k ∨ ∃ j s, G.Ch b (fun _ => True) (G.fr k) j s ∧ n < j ∧ f k ≤ g k + m ∧ m ≤ f k
 net : ∀ v, G.net g v = G.net f v - (if v = t then m else 0) + (if v = a then m else 0)
 cost : G.cost g = G.cost f + m * (dist t - dist a)
 pos : ∀ k, k < G.K → 0 < g k → 0 < f k ∨ (dist (G.fr k) < farD ∧ dist (G.to k) = dist (G.fr k) + G.c k)
structure Nw.Op (G : Nw) (R : Nat × Bool → Prop) (p : Nat → Int) : Prop where
 lt : ∀ e, R e → e.1 < G.K
 le : ∀ e, R e → p (G.hd e) ≤ p (G.tl e) + G.cc e
structure Nw.Pw (G : Nw) (R : Nat × Bool → Prop) (p : Nat → Int) (P : Int) (dist : Nat → Int) (b : Nat → Option (Nat × Bool)) : Prop where
 low : ∀ v, v < G.N → p v - P ≤ dist v ∧ dist v ≤ 0
 root : ∀ v, v < G.N → b v = none → dist v = 0
 st : ∀ v e, v < G.N → b v = some e → R e ∧ G.hd e = v ∧ dist (G.tl e) + G.cc e ≤ dist v
 rt : ∀ v, v < G.N → ∃ n r, G.Ch b (fun _ => True) v n r
structure Nw.Prc (G : Nw) (have_ f gone y : Nat → Int) : Prop where
 ar : ∀ k, k < G.K → y (G.to k) ≤ y (G.fr k) + G.c k
 tight : ∀ k, k < G.K → 0 < f k → y (G.to k) = y (G.fr k) + G.c k
 lo : ∀ v, v < G.N → 0 < have_ v → gone v < have_ v → y v ≤ 0
 hi : ∀ v, v < G.N → 0 < have_ v → 0 < gone v → 0 ≤ y v
structure Nw.Bip (G : Nw) (B : Nat → Bool) : Prop where
 fr : ∀ k, k < G.K → G.fr k < G.N ∧ B (G.fr k) = true
 to : ∀ k, k < G.K → G.to k < G.N ∧ B (G.to k) = false
structure Nw.Fl (G : Nw) (B : Nat → Bool) (h w g : Nat → Int) : Prop where
 g0 : ∀ k, k < G.K → 0 ≤ g k
 src : ∀ v, v < G.N → B v = true → G.net g v ≤ h v
 dst : ∀ v, v < G.N → B v = false → G.net g v = - w v
theorem Nw.Bip.net_src {G : Nw} {B : Nat → Bool} (hb : G.Bip B) {g : Nat → Int} (h0 : ∀ k, k < G.K → 0 ≤ g k) {v : Nat} (hv : B v = true) : 0 ≤ G.net g v := by
 refine su_nn fun k hk => ?_
 have := (hb.to k hk).2
 have h1 : ¬ G.to k = v := fun q => by rw [q, hv] at this; cases this
 have := h0 k hk
 rw [if_neg h1]
 split <;> omega
theorem Nw.Bip.net_dst {G : Nw} {B : Nat → Bool} (hb : G.Bip B) {g : Nat → Int} (h0 : ∀ k, k < G.K → 0 ≤ g k) {v : Nat} (hv : B v = false) : G.net g v ≤ 0 := by
 have h : G.net g v ≤ su (fun _ => 0) G.K := su_le fun k hk => by
  have := (hb.fr k hk).2
  have h1 : ¬ G.fr k = v := fun q => by rw [q, hv] at this; cases this
  have := h0 k hk
  simp only [if_neg h1]
  split <;> omega
 rwa [su_zero (fun _ _ => rfl)] at h
theorem Nw.Bip.fl {G : Nw} {B : Nat → Bool} (hb : G.Bip B) {h w : Nat → Int} (hh : ∀ v, v < G.N → B v = false → h v = 0) (hw : ∀ v, v < G.N → B v = true → w v = 0) (g : Nat → Int) : G.Fills h w g ↔ G.Fl B h w g := by
 constructor
 · rintro ⟨h0, h1⟩
   refine ⟨h0, fun v hv q => ?_, fun v hv q => ?_⟩
   · have := h1 v hv; have := hw v hv q; omega
   · have := h1 v hv; have := hh v hv q; omega
 · intro hg
   refine ⟨hg.g0, fun v hv => ?_⟩
   cases q : B v
   · have := hg.dst v hv q; have := hh v hv q; omega
   · have := hg.src v hv q; have := hw v hv q; have := hb.net_src hg.g0 q; omega
def Nw.sh (G : Nw) (a : Nat) : Nw := ⟨G.K - a, G.N, fun k => G.fr (a + k), fun k => G.to (a + k), fun k => G.c (a + k)⟩
theorem Nw.Bip.sh {G : Nw} {B : Nat → Bool} (h : G.Bip B) (a : Nat) : (G.sh a).Bip B :=
 ⟨fun k hk => h.fr (a + k) (by have hk : k < G.K - a := hk; omega), fun k hk => h.to (a + k) (by have hk : k < G.K - a := hk; omega)⟩
def vtl (x : Nat → Int) : Nat → Int := fun k => x (k + 1)
theorem su_cons (F : Nat → Int) : ∀ n, su F (n + 1) = F 0 + su (fun k => F (k + 1)) n
 | 0 => by simp [su]
 | n + 1 => by rw [su, su_cons F n, su]; omega
theorem Nw.net_cons {G : Nw} {a : Nat} (ha : a < G.K) (x : Nat → Int) (v : Nat) : (G.sh a).net x v = (if G.fr a = v then x 0 else 0) - (if G.to a = v then x 0 else 0) + (G.sh (a + 1)).net (vtl x) v := by
 unfold Nw.net
 have e : (G.sh a).K = (G.sh (a + 1)).K + 1 := by show G.K - a = G.K - (a + 1) + 1; omega
 rw [e, su_cons]
 congr 1
 refine su_congr fun k _ => ?_
 show (if G.fr (a + (k + 1)) = v then x (k + 1) else 0) - (if G.to (a + (k + 1)) = v then x (k + 1) else 0) = (if G.fr (a + 1 + k) = v then x (k + 1) else 0) - (if G.to (a + 1 + k) = v then x (k + 1) else 0)
 rw [show a + (k + 1) = a + 1 + k by omega]
def les (h : Nat → Int) (v : Nat) (u : Int) : Nat → Int := upd h v (h v - u)
theorem les_at (h : Nat → Int) (v i : Nat) (u : Int) : les h v u i = h i - (if v = i then u else 0) := by
 unfold les upd
 by_cases q : i = v
 · rw [if_pos q, if_pos q.symm, q]
 · rw [if_neg q, if_neg (fun z => q z.symm)]; omega
theorem Nw.fl_cons {G : Nw} {B : Nat → Bool} (hb : G.Bip B) {a : Nat} (ha : a < G.K) {h w x : Nat → Int} : (G.sh a).Fl B h w x ↔ 0 ≤ x 0 ∧ (G.sh (a + 1)).Fl B (les h (G.fr a) (x 0)) (les w (G.to a) (x 0)) (vtl x) := by
 have hf := hb.fr a ha
 have ht := hb.to a ha
 constructor
 · intro hx
   refine ⟨hx.g0 0 (by show 0 < G.K - a; omega), fun k hk => hx.g0 (k + 1) (by have hk : k < G.K - (a + 1) := hk; show k + 1 < G.K - a; omega), fun v hv q => ?_, fun v hv q => ?_⟩
   · have h1 := hx.src v hv q
     rw [Nw.net_cons ha] at h1
     have : ¬ G.to a = v := fun z => by rw [z, q] at ht; cases ht.2
     rw [if_neg this] at h1
     rw [les_at]; omega
   · have h1 := hx.dst v hv q
     rw [Nw.net_cons ha] at h1
     have : ¬ G.fr a = v := fun z => by rw [z, q] at hf; cases hf.2
     rw [if_neg this] at h1
     rw [les_at]; omega
 · rintro ⟨h0, hx⟩
   refine ⟨fun k hk => ?_, fun v hv q => ?_, fun v hv q => ?_⟩
   · cases k with
     | zero => exact h0
     | succ k => exact hx.g0 k (by have hk : k + 1 < G.K - a := hk; show k < G.K - (a + 1); omega)
   · have h1 := hx.src v hv q
     rw [les_at] at h1
     rw [Nw.net_cons ha]
     have : ¬ G.to a = v := fun z => by rw [z, q] at ht; cases ht.2
     rw [if_neg this]; omega
   · have h1 := hx.dst v hv q
     rw [les_at] at h1
     rw [Nw.net_cons ha]
     have : ¬ G.fr a = v := fun z => by rw [z, q] at hf; cases hf.2
     rw [if_neg this]; omega
theorem Nw.Fl.first {G : Nw} {B : Nat → Bool} (hb : G.Bip B) {a : Nat} (ha : a < G.K) {h w x : Nat → Int} (hx : (G.sh a).Fl B h w x) : 0 ≤ x 0 ∧ x 0 ≤ h (G.fr a) ∧ x 0 ≤ w (G.to a) := by
 obtain ⟨h0, hx2⟩ := (Nw.fl_cons hb ha).1 hx
 have hf := hb.fr a ha
 have ht := hb.to a ha
 have h1 := hx2.src _ hf.1 hf.2
 have h2 := hx2.dst _ ht.1 ht.2
 have h3 := (hb.sh (a + 1)).net_src hx2.g0 hf.2
 have h4 := (hb.sh (a + 1)).net_dst hx2.g0 ht.2
 rw [les_at, if_pos rfl] at h1 h2
 omega
def Bef (n : Nat) (x y : Nat → Int) : Prop := ∃ k, k < n ∧ (∀ j, j < k → x j = y j) ∧ 1 ≤ x k ∧ (y k = 0 ∨ x k < y k)
structure Nw.Best (G : Nw) (B : Nat → Bool) (h w : Nat → Int) (c : Int) (x : Nat → Int) : Prop where
 fl : G.Fl B h w x
 cost : G.cost x = c
 le : ∀ y, G.Fl B h w y → c ≤ G.cost y
 bef : ∀ y, G.Fl B h w y → G.cost y = c → (∀ k, k < G.K → y k = x k) ∨ Bef G.K x y
def cmpF {α : Type} (c : α → α → Int) : List α → List α → Int
 | [], [] => 0
 | [], _ :: _ => -1
 | _ :: _, [] => 1
 | a :: l, b :: m => if c a b = 0 then cmpF c l m else c a b
structure COrd {α : Type} (c : α → α → Int) : Prop where
 eq : ∀ a b, c a b = 0 ↔ a = b
 sw : ∀ a b, c a b < 0 ↔ 0 < c b a
 tr : ∀ a b d, c a b < 0 → c b d < 0 → c a d < 0
theorem COrd.refl {α : Type} {c : α → α → Int} (h : COrd c) (a : α) : c a a = 0 := (h.eq a a).2 rfl
theorem COrd.list {α : Type} {c : α → α → Int} (h : COrd c) : COrd (cmpF c) := by
 refine ⟨?_, ?_, ?_⟩
 · intro a
   induction a with
   | nil => intro b; cases b <;> simp [cmpF]
   | cons x a ih =>
     intro b
     cases b with
     | nil => simp [cmpF]
     | cons y b =>
       rw [cmpF]
       by_cases q : c x y = 0
       · rw [if_pos q, ih]
         have := (h.eq x y).1 q
         subst this
         simp
       · rw [if_neg q]
         have : ¬ x = y := fun z => q ((h.eq x y).2 z)
         simp [q, this]
 · intro a
   induction a with
   | nil => intro b; cases b <;> simp [cmpF]
   | cons x a ih =>
     intro b
     cases b with
     | nil => simp [cmpF]
     | cons y b =>
       rw [cmpF, cmpF]
       by_cases q : c x y = 0
       · have := (h.eq x y).1 q
         subst this
         rw [if_pos q, if_pos q]; exact ih b
       · have : ¬ c y x = 0 := fun z => q ((h.eq x y).2 ((h.eq y x).1 z).symm)
         rw [if_neg q, if_neg this]; exact h.sw x y
 · intro a
   induction a with
   | nil =>
     intro b d
     cases b with
     | nil => simp [cmpF]
     | cons y b => cases d <;> simp [cmpF]
   | cons x a ih =>
     intro b d
     cases b with
     | nil => simp [cmpF]
     | cons y b =>
       cases d with
       | nil =>
         intro _ h2
         simp [cmpF] at h2
       | cons z d =>
         rw [cmpF, cmpF, cmpF]
         by_cases q : c x y = 0
         · have := (h.eq x y).1 q
           subst this
           rw [if_pos q]
           by_cases w : c x z = 0
           · rw [if_pos w, if_pos w]; exact ih b d
           · rw [if_neg w, if_neg w]; exact fun _ h2 => h2
         · rw [if_neg q]
           by_cases w : c y z = 0
           · have := (h.eq y z).1 w
             subst this
             rw [if_pos w, if_neg q]; exact fun h1 _ => h1
           · rw [if_neg w]
             intro h1 h2
             have h3 := h.tr x y z h1 h2
             rw [if_neg (by omega)]; exact h3
structure Pla (μ : Type) where
 l : List μ
 cost : Int
structure Stn (μ : Type) where
 way : Nat → Option Int
 mv : Nat → Int → μ
 many : Int
def stL (st : List UInt8) (k : Nat) (n : Int) : List UInt8 := st.set k (UInt8.ofNat ((st.getD k 0).toNat - n.toNat))
inductive Cd {μ : Type} (s : Stn μ) : Nat → Nat → List UInt8 → Int → List UInt8 → List μ → Int → Prop
 | fin (k : Nat) (st : List UInt8) (left : Int) : Cd s 0 k st left st [] 0
 | skip (d k : Nat) (st : List UInt8) (left : Int) (st' : List UInt8) (suf : List μ) (dc : Int) (h : Cd s d (k + 1) st left st' suf dc) : Cd s (d + 1) k st left st' suf dc
 | some (d k : Nat) (st : List UInt8) (left : Int) (st' : List UInt8) (suf : List μ) (dc n car : Int) (hw : s.way k = some car) (h1 : 1 ≤ n) (h2 : n ≤ left) (h3 : n ≤ (st.getD k 0).toNat) (h : Cd s d (k + 1) (stL st k n) (left - n) st' suf dc) : Cd s (d + 1) k st left st' (s.mv k n :: suf) (n * car + dc)
structure Lay {μ : Type} (G : Nw) (B : Nat → Bool) (S J : Nat) (ns nw : Nat → Nat) (stn : Nat → Stn μ) (m : Nat → Int → μ) (pos : Nat → Nat → Nat) : Prop where
 pend : pos S 0 = G.K
 pnext : ∀ i, i < S → pos (i + 1) 0 = pos i J
 pnone : ∀ i k, i < S → k < J → (stn i).way k = none → pos i (k + 1) = pos i k
 psome : ∀ i k car, i < S → k < J → (stn i).way k = some car → pos i (k + 1) = pos i k + 1 ∧ pos i k < G.K ∧ G.fr (pos i k) = ns i ∧ G.to (pos i k) = nw k ∧ G.c (pos i k) = car ∧ ∀ n, m (pos i k) n = (stn i).mv k n
 ns1 : ∀ i, i < S → ns i < G.N ∧ B (ns i) = true
 ns2 : ∀ i j, i < S → j < S → ns i = ns j → i = j
 nw1 : ∀ k, k < J → nw k < G.N ∧ B (nw k) = false
 nw2 : ∀ k j, k < J → j < J → nw k = nw j → k = j
 all : ∀ v, v < G.N → B v = false → ∃ k, k < J ∧ v = nw k
structure Rel {μ : Type} (G : Nw) (B : Nat → Bool) (S J : Nat) (ns nw : Nat → Nat) (stn : Nat → Stn μ) (i : Nat) (st : List UInt8) (left : Int) (h w : Nat → Int) : Prop where
 l0 : 0 ≤ left
 hi : i < S → h (ns i) = left
 later : ∀ j, i < j → j < S → h (ns j) = (stn j).many
 other : ∀ v, v < G.N → B v = true → (∀ j, i ≤ j → j < S → v ≠ ns j) → 0 ≤ h v
 want : ∀ k, k < J → w (nw k) = (st.getD k 0).toNat
structure Slt where
 day : Int
 many : Int
structure Wnt where
 v : List UInt8
 fr : Int
 to : Int
def wn0 : Wnt := ⟨[], 0, 0⟩
structure Plc where
 v : List UInt8
 day : Int
def pl0 : Plc := ⟨[], 0⟩
structure Bsy where
 v : List UInt8
 fr : Int
 to : Int
 cents : Int
def namesB (w : List Wnt) (l : List Plc) : Prop := w.length = l.length ∧ ∀ i, i < w.length → (w.getD i wn0).v = (l.getD i pl0).v
instance (w : List Wnt) (l : List Plc) : Decidable (namesB w l) := inferInstanceAs (Decidable (_ ∧ _))
def oXShG213_8 : List (Nat × List Nat) := [(0, []), (1, []), (2, []), (3, []), (4, []), (5, [3, 4]), (6, [3, 4, 5]), (7, [3, 4, 5]), (8, [3, 4]), (9, [3, 4]), (10, [3, 4]), (11, []), (12, []), (13, [])]
def oXShG214_10 : List (Nat × List Nat) := [(0, []), (1, []), (2, []), (3, []), (4, [3]), (5, [3]), (6, []), (7, []), (8, []), (9, [3, 4, 5, 6, 7, 8]), (10, [3, 4, 5, 6, 7, 8, 9]), (11, [3, 4, 5, 6, 7, 8, 9]), (12, [3, 4, 5, 6, 7, 8]), (13, [3, 4, 5, 6, 7, 8]), (14, [3, 4, 5, 6, 7, 8]), (15, [3, 4, 5, 6, 7, 8, 9, 10, 11, 12, 13, 14]), (16, [3, 4, 5, 6, 7, 8, 9, 10, 11, 12, 13, 14]), (17, [3, 4, 5, 6, 7, 8, 9, 10, 11, 12, 13, 14, 15, 16]), (18, [3, 4, 5, 6, 7, 8, 9, 10, 11, 12, 13, 14, 15, 16]), (19, []), (20, []), (21, []), (22, [])]
structure Ned where
 st : List UInt8
 many : Int
def ndF : Ned → List DV := fun s => [.str s.st, .int .i64 s.many]
def nd0 : Ned := ⟨[], 0⟩
abbrev neds (l : List Ned) : DV := seqD 2 ndF nd0 l
structure Roa where
 a : List UInt8
 b : List UInt8
 car : Int
 ride : Int
def rdF : Roa → List DV := fun s => [.str s.a, .str s.b, .int .i64 s.car, .int .i64 s.ride]
def rd0 : Roa := ⟨[], [], 0, 0⟩
abbrev roas (l : List Roa) : DV := seqD 4 rdF rd0 l
structure Mov where
 a : List UInt8
 b : List UInt8
 many : Int
def mvF : Mov → List DV := fun s => [.str s.a, .str s.b, .int .i64 s.many]
def mv0 : Mov := ⟨[], [], 0⟩
abbrev movs (l : List Mov) : DV := seqD 3 mvF mv0 l
def ndE (l : List Ned) (i : Nat) : Int :=
 let x := l.getD i nd0
 if isKeyB x.st = false then 5 else if 0 < i ∧ strLe x.st (l.getD (i - 1) nd0).st = true then 7 else if ¬ (-20 ≤ x.many ∧ x.many ≤ 20) then 1 else 0
def ndsE (l : List Ned) : Int := if 10 < l.length then 2 else firstAt (ndE l) l.length
def ndK (x : Ned) : Prop := x.st.length ≤ 2^40
def ndOk (l : List Ned) : Prop := l.length ≤ 2^40 ∧ ∀ x ∈ l, ndK x
def endsC (a b c d : List UInt8) : Int := firstE [cmpS a c, cmpS b d]
def rdE (l : List Roa) (i : Nat) : Int :=
 let x := l.getD i rd0
 if isKeyB x.a = false ∨ isKeyB x.b = false then 5 else if x.a = x.b then 14 else if 0 < i ∧ 0 ≤ endsC (l.getD (i - 1) rd0).a (l.getD (i - 1) rd0).b x.a x.b then 7 else if ¬ ((0 ≤ x.car ∧ x.car ≤ 1000000) ∧ (0 ≤ x.ride ∧ x.ride ≤ 1000000)) then 1 else 0
def rdsE (l : List Roa) : Int := if 2500 < l.length then 2 else firstAt (rdE l) l.length
def rdK (x : Roa) : Prop := x.a.length ≤ 2^40 ∧ x.b.length ≤ 2^40
def rdOk (l : List Roa) : Prop := l.length ≤ 2^40 ∧ ∀ x ∈ l, rdK x
theorem s204 (a b c d : List UInt8) : FSpec Tryz.prog 188 [.d (.str a), .d (.str b), .d (.str c), .d (.str d)] [] (fun x r => x = .d (.int .i64 (endsC a b c d)) ∧ r = []) := by
 refine spec_of hT (C := []) Tryz.func188 rfl Tryz.call188 rfl rfl rfl ?_
 conv => whnf
 repeat' (first | (refine CallX.exact (s184 _ _) rfl rfl ?_; rotate_right; conv => whnf) | (refine CallX.pure (s182 [_, _] (by simp)) ⟨SV.le_lit (by rfl) (by rfl), trivial⟩ rfl ?_; conv => whnf) | (refine br_intro ?_ ?_ <;> intro hb <;> (try simp only [brs] at hb) <;> conv => whnf) | omega | (refine And.intro ?_ ?_; ((try dsimp only); first | omega | (refine szA rfl ?_; omega) | (refine szB rfl ?_; omega) | (unfold inI64; omega) | exact rfl | (simp only [List.toList_toArray, List.length_cons, List.length_nil]; omega) | (simp only [lns] at *; omega) | decide | (unfold inI64; decide)); conv => whnf) | decide | assumption)
 refine .ret _ ?_
 conv => whnf
 refine ⟨[], ⟨?_, rfl⟩, trivial⟩
 conv => lhs; whnf
 rfl
theorem s163 (l : List Ned) (hk : ndOk l) : FSpec Tryz.prog 213 [.d (neds l)] [] (fun x r => x = .d (.int .i64 (ndsE l)) ∧ r = []) := by
 refine spec_of hT (C := []) Tryz.func213 rfl Tryz.call213 rfl rfl rfl ?_
 conv => whnf
 refine br_intro (fun h0 => ?_) (fun h0 => ?_)
 · simp at h0
   conv => whnf
   refine .ret _ ?_
   conv => whnf
   refine ⟨[], ⟨?_, rfl⟩, trivial⟩
   conv => lhs; whnf
   unfold ndsE; rw [if_pos (by omega)]
 simp at h0
 conv => whnf
 refine LoopX.rule hT (C := []) (ι := Nat) (fun i => i ≤ l.length ∧ ∀ j, j < i → ndE l j = 0) (fun i => mkSt [(0, .d (neds l)), (8, .d (neds l)), (9, .d (.int .i64 l.length)), (10, .d (.int .i64 i))] []) (fun i => l.length - i) 0 ⟨by omega, by omega⟩ (by (refine Entails.mk' [] rfl rfl ?_ ?_ <;> repeat' (first | exact True.intro | exact lr | exact rr | exact SV.le_int (by omega) | exact SV.le_any _ | refine And.intro ?_ ?_)); done) ?_
 rintro i ⟨p1, p2⟩
 have hx : (i : Int) < l.length → ndK (l.getD (i : Int).toNat nd0) := fun hi => hk.2 _ (getD_mem (by omega))
 have e1 : (i : Int).toNat = i := Int.toNat_natCast i
 have hbad : ∀ e : Int, i < l.length → e ≠ 0 → ndE l i = e → ndsE l = e := fun e h h1 h2 => by
  unfold ndsE; rw [if_neg (by omega)]
  exact firstAt_eq h p2 h1 h2
 conv => whnf
 repeat' (first | (refine CallX.exact (s108 _ (hx (by omega))) rfl rfl ?_; rotate_right; conv => whnf) | (refine CallX.exact (s119 _ _ _) rfl rfl ?_; rotate_right; conv => whnf) | (refine br_intro ?_ ?_ <;> intro hb <;> (try simp only [brs] at hb) <;> conv => whnf) | (refine RegX.rule (id := 8) hT rfl [] oXShG213_8 (by decide +kernel) ?_; conv => whnf) | omega | (refine And.intro ?_ ?_; ((try dsimp only); first | omega | (refine szA rfl ?_; omega) | (refine szB rfl ?_; omega) | (unfold inI64; omega) | exact rfl | (simp only [List.toList_toArray, List.length_cons, List.length_nil]; omega) | (simp only [lns] at *; omega) | decide | (unfold inI64; decide)); conv => whnf) | decide | assumption)
 all_goals first
  | (refine ⟨i + 1, ⟨by omega, first_step p2 (by clear p2 hbad hk hx; simp only [e1, toNat_pred] at *; unfold ndE strLe; grind)⟩, by omega, (by (refine Entails.mk' [] rfl rfl ?_ ?_ <;> repeat' (first | exact True.intro | exact lr | exact rr | exact SV.le_int (by omega) | exact SV.le_any _ | refine And.intro ?_ ?_)); done)⟩)
  | (refine .ret _ ?_
     conv => whnf
     refine ⟨[], ⟨?_, rfl⟩, trivial⟩
     conv => lhs; whnf
     congr 2
     first
      | exact (hbad _ (by omega) (by decide) (by clear p2 hbad hk hx; simp only [e1, toNat_pred] at *; unfold ndE strLe; grind)).symm
      | (have : i = l.length := by omega
         subst this
         unfold ndsE; rw [if_neg (by omega), firstAt_zero p2]))
theorem s164 (l : List Roa) (hk : rdOk l) : FSpec Tryz.prog 214 [.d (roas l)] [] (fun x r => x = .d (.int .i64 (rdsE l)) ∧ r = []) := by
 refine spec_of hT (C := []) Tryz.func214 rfl Tryz.call214 rfl rfl rfl ?_
 conv => whnf
 refine br_intro (fun h0 => ?_) (fun h0 => ?_)
 · simp at h0
   conv => whnf
   refine .ret _ ?_
   conv => whnf
   refine ⟨[], ⟨?_, rfl⟩, trivial⟩
   conv => lhs; whnf
   unfold rdsE; rw [if_pos (by omega)]
 simp at h0
 conv => whnf
 refine LoopX.rule hT (C := []) (ι := Nat) (fun i => i ≤ l.length ∧ ∀ j, j < i → rdE l j = 0) (fun i => mkSt [(0, .d (roas l)), (8, .d (roas l)), (9, .d (.int .i64 l.length)), (10, .d (.int .i64 i))] []) (fun i => l.length - i) 0 ⟨by omega, by omega⟩ (by (refine Entails.mk' [] rfl rfl ?_ ?_ <;> repeat' (first | exact True.intro | exact lr | exact rr | exact SV.le_int (by omega) | exact SV.le_any _ | refine And.intro ?_ ?_)); done) ?_
 rintro i ⟨p1, p2⟩
 have hx : (i : Int) < l.length → rdK (l.getD (i : Int).toNat rd0) := fun hi => hk.2 _ (getD_mem (by omega))
 have e1 : (i : Int).toNat = i := Int.toNat_natCast i
 have hbad : ∀ e : Int, i < l.length → e ≠ 0 → rdE l i = e → rdsE l = e := fun e h h1 h2 => by
  unfold rdsE; rw [if_neg (by omega)]
  exact firstAt_eq h p2 h1 h2
 conv => whnf
 repeat' (first | (refine CallX.exact (s108 _ (hx (by omega)).1) rfl rfl ?_; rotate_right; conv => whnf) | (refine CallX.exact (s108 _ (hx (by omega)).2) rfl rfl ?_; rotate_right; conv => whnf) | (refine CallX.exact (s204 _ _ _ _) rfl rfl ?_; rotate_right; conv => whnf) | (refine CallX.exact (s119 _ _ _) rfl rfl ?_; rotate_right; conv => whnf) | (refine br_intro ?_ ?_ <;> intro hb <;> (try simp only [brs] at hb) <;> conv => whnf) | (refine RegX.rule (id := 10) hT rfl [] oXShG214_10 (by decide +kernel) ?_; conv => whnf) | omega | (refine And.intro ?_ ?_; ((try dsimp only); first | omega | (refine szA rfl ?_; omega) | (refine szB rfl ?_; omega) | (unfold inI64; omega) | exact rfl | (simp only [List.toList_toArray, List.length_cons, List.length_nil]; omega) | (simp only [lns] at *; omega) | decide | (unfold inI64; decide)); conv => whnf) | decide | assumption)
 all_goals first
  | (refine ⟨i + 1, ⟨by omega, first_step p2 (by clear p2 hbad hk hx; simp only [e1, toNat_pred] at *; unfold rdE ; grind)⟩, by omega, (by (refine Entails.mk' [] rfl rfl ?_ ?_ <;> repeat' (first | exact True.intro | exact lr | exact rr | exact SV.le_int (by omega) | exact SV.le_any _ | refine And.intro ?_ ?_)); done)⟩)
  | (refine .ret _ ?_
     conv => whnf
     refine ⟨[], ⟨?_, rfl⟩, trivial⟩
     conv => lhs; whnf
     congr 2
     first
      | exact (hbad _ (by omega) (by decide) (by clear p2 hbad hk hx; simp only [e1, toNat_pred] at *; unfold rdE ; grind)).symm
      | (have : i = l.length := by omega
         subst this
         unfold rdsE; rw [if_neg (by omega), firstAt_zero p2]))
theorem s113 (l : List Ned) (m : List Roa) (hl : ndOk l) (hm : rdOk m) : FSpec Tryz.prog 177 [.d (neds l), .d (roas m)] [] (fun x r => x = .d (.int .i64 (firstE [ndsE l, rdsE m])) ∧ r = []) := by
 refine spec_of hT (C := []) Tryz.func177 rfl Tryz.call177 rfl rfl rfl ?_
 conv => whnf
 repeat' (first | (refine CallX.exact (s163 l hl) rfl rfl ?_; rotate_right; conv => whnf) | (refine CallX.exact (s164 m hm) rfl rfl ?_; rotate_right; conv => whnf) | (refine CallX.pure (s105 [_, _] (by simp)) ⟨SV.le_lit (by rfl) (by rfl), trivial⟩ rfl ?_; conv => whnf) | (refine br_intro ?_ ?_ <;> intro hb <;> (try simp only [brs] at hb) <;> conv => whnf) | omega | (refine And.intro ?_ ?_; ((try dsimp only); first | omega | (refine szA rfl ?_; omega) | (refine szB rfl ?_; omega) | (unfold inI64; omega) | exact rfl | (simp only [List.toList_toArray, List.length_cons, List.length_nil]; omega) | (simp only [lns] at *; omega) | decide | (unfold inI64; decide)); conv => whnf) | decide | assumption)
 refine .ret _ ?_
 conv => whnf
 refine ⟨[], ⟨?_, rfl⟩, trivial⟩
 conv => lhs; whnf
def tN : List Ned := [⟨[97], 1⟩, ⟨[98], -1⟩]
def tR : List Roa := [⟨[97], [98], 4, 0⟩]
theorem s113t : FSpec Tryz.prog 177 [.d (neds tN), .d (roas tR)] [] (fun x r => x = .d (.int .i64 0) ∧ r = []) := by
 have h := s113 tN tR ⟨by simp [tN], by intro x hx; simp [tN] at hx; rcases hx with rfl | rfl <;> simp [ndK]⟩ ⟨by simp [tR], by intro x hx; simp [tR] at hx; subst hx; simp [rdK]⟩
 rwa [show firstE [ndsE tN, rdsE tR] = 0 by decide] at h
def oXShH178_1 : List (Nat × List Nat) := [(0, []), (1, []), (2, []), (3, [0, 1, 2]), (4, [0, 1, 2]), (5, [0, 1, 2]), (6, []), (7, []), (8, [])]
def oXShH178_6 : List (Nat × List Nat) := [(0, []), (1, []), (2, []), (3, []), (4, [0, 1, 2, 3]), (5, [0, 1, 2, 3, 4]), (6, [0, 1, 2, 3, 4]), (7, [0, 1, 2, 3, 4]), (8, [0, 1, 2, 3, 4]), (9, [0, 1, 2, 3, 4, 5, 6, 7, 8]), (10, [0, 1, 2, 3, 4, 5, 6, 7, 8, 9]), (11, [0, 1, 2, 3, 4, 5, 6, 7, 8, 9]), (12, [0, 1, 2, 3, 4, 5, 6, 7, 8, 9]), (13, [0, 1, 2, 3, 4, 5, 6, 7, 8, 9, 10, 11, 12]), (14, [0, 1, 2, 3, 4, 5, 6, 7, 8, 9, 10, 11, 12]), (15, [0, 1, 2, 3, 4, 5, 6, 7, 8, 9, 10, 11, 12]), (16, [0, 1, 2, 3, 4, 5, 6, 7, 8, 9, 10, 11, 12]), (17, [9, 13, 14, 15, 16]), (18, [9, 13, 14, 15, 16]), (19, []), (20, [])]
def oXShH178_12 : List (Nat × List Nat) := [(0, []), (1, [0]), (2, [0]), (3, [0]), (4, [0]), (5, [0, 1, 2, 3, 4]), (6, [0, 1, 2, 3, 4, 5]), (7, [0, 1, 2, 3, 4, 5, 6]), (8, [0, 1, 2, 3, 4, 5, 6]), (9, [0, 1, 2, 3, 4]), (10, [0, 1, 2, 3, 4]), (11, [0]), (12, []), (13, []), (14, [])]
def nHas (l : List Roa) : Nat → List DV → Bool
 | 0 => fun _ => false
 | n + 1 => fun q => keyEq q [.str (l.getD n rd0).a, .str (l.getD n rd0).b] || nHas l n q
def nVal (l : List Roa) : Nat → List DV → List DV
 | 0 => fun _ => [.str [], .str [], .int .i64 0, .int .i64 0]
 | n + 1 => fun q => bif keyEq q [.str (l.getD n rd0).a, .str (l.getD n rd0).b] then rdF (l.getD n rd0) else nVal l n q
abbrev netR (l : List Roa) (n : Nat) : Res := .map true true [.str, .str] [.str [], .str [], .int .i64 0, .int .i64 0] (nHas l n) (nVal l n)
theorem s165 (l : List Roa) (hl : l.length ≤ 2^40) : FSpec Tryz.prog 215 [.d (roas l)] [] (fun y r => y = .mp 3 ∧ r = [(3, netR l l.length)]) := by
 refine spec_of hT (C := []) Tryz.func215 rfl Tryz.call215 rfl rfl rfl ?_
 conv => whnf
 refine LoopX.rule hT (C := []) (ι := Nat) (fun i => i ≤ l.length) (fun i => mkSt [(3, .mp 3), (7, .d (roas l)), (8, .d (.int .i64 l.length)), (9, .d (.int .i64 i))] [(3, netR l i)]) (fun i => l.length - i) 0 (by omega) ?_ ?_
 · exact Entails.mk' [(3, 6)] rfl rfl ⟨lr, lr, lr, lr, trivial⟩ ⟨rr, trivial⟩
 rintro i p1
 conv => whnf
 repeat' (first | (refine br_intro ?_ ?_ <;> intro hb <;> (try simp only [brs] at hb) <;> conv => whnf) | omega | (refine And.intro ?_ ?_; ((try dsimp only); first | omega | (refine szA rfl ?_; omega) | (refine szB rfl ?_; omega) | (unfold inI64; omega) | exact rfl | (simp only [List.toList_toArray, List.length_cons, List.length_nil]; omega) | (simp only [lns] at *; omega) | decide | (unfold inI64; decide)); conv => whnf) | decide | assumption)
 · exact ⟨i + 1, by omega, by omega, Entails.mk' [(3, 3)] rfl rfl ⟨lr, lr, lr, lr, trivial⟩ ⟨rr, trivial⟩⟩
 · have : i = l.length := by omega
   subst this
   refine .ret _ ?_
   conv => whnf
   exact ⟨_, ⟨rfl, rfl⟩, rr, trivial⟩
structure Arc where
 fr : Int
 to : Int
 car : Int
 flow : Int
def arF : Arc → List DV := fun s => [.int .i64 s.fr, .int .i64 s.to, .int .i64 s.car, .int .i64 s.flow]
def ar0 : Arc := ⟨0, 0, 0, 0⟩
abbrev froI (l : List Int) : Res := .fro 1 l.length (rowF iF 0 l)
abbrev arcB (l : List Arc) : Res := seqB 219 4 arF ar0 l
set_option maxHeartbeats 4000000 in
theorem s114t : FSpec Tryz.prog 178 [.d (neds tN), .d (roas tR)] [] (fun y r => y = .ptr 20 0 ∧ r = [(20, .cells 217 [.buf 15, .buf 18, .buf 88]), (15, froI [1, 0]), (18, froI [0, 1]), (88, arcB [⟨0, 1, 4, 0⟩])]) := by
 refine spec_of hT (C := []) Tryz.func178 rfl Tryz.call178 rfl rfl rfl ?_
 conv => whnf
 repeat' (first | (refine CallX.of (s165 tR (by simp [tR])) [(3, 22)] rfl ⟨lr, trivial⟩ trivial rfl rfl ?_; rintro x rout ⟨rfl, rfl⟩; refine ⟨rfl, ?_⟩; conv => whnf) | (refine LoopX.run hT (C := []) 8 rfl [0, 5, 6, 23, 24, 25] [] (fun _ _ h => h) (fun _ h => h) ?_; conv => whnf) | (refine LoopX.run hT (C := []) 16 rfl [0, 5, 6, 7, 8, 23, 24, 25, 49, 50, 51] [] (fun _ _ h => h) (fun _ h => h) ?_; conv => whnf) | (refine And.intro (rfl : zrow _ = some [.str [], .str [], .int .i64 0, .int .i64 0]) ?_; conv => whnf) | (refine br_intro ?_ ?_ <;> intro hb <;> (try simp only [brs] at hb) <;> conv => whnf) | (refine RegX.rule (id := 1) hT rfl [] oXShH178_1 (by decide +kernel) ?_; conv => whnf) | (refine RegX.rule (id := 6) hT rfl [] oXShH178_6 (by decide +kernel) ?_; conv => whnf) | (refine RegX.rule (id := 12) hT rfl [] oXShH178_12 (by decide +kernel) ?_; conv => whnf) | omega | (refine And.intro ?_ ?_; ((try dsimp only); first | omega | (refine szA rfl ?_; omega) | (refine szB rfl ?_; omega) | (unfold inI64; omega) | exact rfl | (simp only [List.toList_toArray, List.length_cons, List.length_nil]; omega) | (simp only [lns] at *; omega) | decide | (unfold inI64; decide)); conv => whnf) | decide | assumption)
 refine .freeze _ 15 3 1 _ _ rfl (.freeze _ 18 3 1 _ _ rfl (.ret _ ?_))
 conv => whnf
 refine ⟨_, ⟨rfl, rfl⟩, rr, Res.le_fro rfl ?_, Res.le_fro rfl ?_, Res.le_buf rfl ?_, trivial⟩
 · intro i hi
   have : i = 0 ∨ i = 1 := by simp [tN] at hi; omega
   rcases this with rfl | rfl <;> rfl
 · intro i hi
   have : i = 0 ∨ i = 1 := by simp [tN] at hi; omega
   rcases this with rfl | rfl <;> rfl
 · intro i hi
   have : i = 0 := by simp at hi; omega
   subst this; rfl
theorem s166 (l : List Int) (hl : l.length ≤ 2^20) (h0 : 0 < l.length) : FSpec Tryz.prog 216 [.d (ints l)] [] (fun y r => y = .buf 7 ∧ r = [(7, seqB 3 1 iF 0 l)]) := by
 refine spec_of hT (C := [5]) Tryz.func216 rfl Tryz.call216 rfl rfl rfl ?_
 conv => whnf
 rintro b hbn
 conv => whnf
 repeat' (first | (refine br_intro ?_ ?_ <;> intro hb <;> (try simp only [brs] at hb) <;> conv => whnf) | omega | (refine And.intro ?_ ?_; ((try dsimp only); first | omega | (refine szA rfl ?_; omega) | (refine szB rfl ?_; omega) | (unfold inI64; omega) | exact rfl | (simp only [List.toList_toArray, List.length_cons, List.length_nil]; omega) | (simp only [lns] at *; omega) | decide | (unfold inI64; decide)); conv => whnf) | decide | assumption)
 · exact absurd (hbn (by assumption)) (by omega)
 · refine .ret _ ?_
   conv => whnf
   refine ⟨_, ⟨rfl, rfl⟩, Res.le_buf (by simp) (fun i hi => ?_), trivial⟩
   rw [appGet_ge (by omega)]; rfl
theorem s168e (g : Nat → List DV) : FSpec Tryz.prog 218 [.d (.ro 4 0 g)] [] (fun y r => y = .d (seqD 4 arF ar0 []) ∧ r = []) := by
 refine spec_of hT (C := [5]) Tryz.func218 rfl Tryz.call218 rfl rfl rfl ?_
 conv => whnf
 rintro b hbn
 conv => whnf
 repeat' (first | (refine br_intro ?_ ?_ <;> intro hb <;> (try simp only [brs] at hb) <;> conv => whnf) | omega | (refine And.intro ?_ ?_; ((try dsimp only); first | omega | (refine szA rfl ?_; omega) | (refine szB rfl ?_; omega) | (unfold inI64; omega) | exact rfl | (simp only [List.toList_toArray, List.length_cons, List.length_nil]; omega) | (simp only [lns] at *; omega) | decide | (unfold inI64; decide)); conv => whnf) | decide | assumption)
 · refine .weak _ ?_
   conv => whnf
   exact ⟨_, [], SV.le_nilS, ⟨rfl, rfl⟩, trivial⟩
 · refine .freeze _ 7 219 4 _ _ rfl (.weak _ ?_)
   conv => whnf
   exact ⟨_, [], SV.le_ro (by simp) (fun i hi => absurd hi (by simp)), ⟨rfl, rfl⟩, trivial⟩
def oXShI217_1 : List (Nat × List Nat) := [(0, []), (1, []), (2, []), (3, []), (4, []), (5, []), (6, [0, 1, 2, 3, 4, 5]), (7, [0, 1, 2, 3, 4, 5]), (8, [0, 1, 2, 3, 4, 5]), (9, [0, 1, 2, 3, 4, 5]), (10, [0, 1, 2, 3, 4, 5]), (11, [0, 1, 2, 3, 4, 5]), (12, [6, 7, 8, 9, 10, 11]), (13, [])]
def oXShI217_15 : List (Nat × List Nat) := [(0, []), (1, [0]), (2, [0]), (3, []), (4, []), (5, []), (6, []), (7, []), (8, [7]), (9, [7]), (10, []), (11, []), (12, [7, 8, 9, 10, 11]), (13, [7, 8, 9, 10, 11]), (14, []), (15, [7, 8, 9, 10, 11, 12, 13, 14]), (16, [7, 8, 9, 10, 11, 12, 13, 14, 15]), (17, [7, 8, 9, 10, 11, 12, 13, 14, 15]), (18, [7, 8, 9, 10, 11, 12, 13, 14]), (19, [7, 8, 9, 10, 11, 12, 13, 14]), (20, []), (21, [])]
def oXShI217_16 : List (Nat × List Nat) := [(0, []), (1, [0]), (2, [0]), (3, [0, 1, 2]), (4, [0, 1, 2, 3]), (5, [0, 1, 2, 3]), (6, [0, 1, 2, 3, 4, 5]), (7, [0, 1, 2, 3, 4, 5, 6]), (8, [0, 1, 2, 3, 4, 5, 6]), (9, [0, 1, 2, 3, 4, 5]), (10, [0, 1, 2, 3, 4, 5]), (11, [0, 1, 2, 3, 4, 5, 6, 7, 8, 9, 10]), (12, [0, 1, 2, 3, 4, 5, 6, 7, 8, 9, 10]), (13, [0, 1, 2, 3, 4, 5]), (14, [0, 1, 2, 3, 4, 5, 6, 7, 8, 9, 10, 11, 12, 13]), (15, [0, 1, 2, 3, 4, 5, 6, 7, 8, 9, 10, 11, 12, 13]), (16, [3, 4, 5, 14, 15]), (17, [3, 4, 5, 14, 15]), (18, []), (19, []), (20, [])]
def oXShI217_17 : List (Nat × List Nat) := [(0, []), (1, []), (2, []), (3, []), (4, []), (5, [4]), (6, [4]), (7, []), (8, []), (9, []), (10, []), (11, []), (12, []), (13, [12]), (14, [12]), (15, []), (16, []), (17, [12, 13, 14, 15, 16]), (18, [12, 13, 14, 15, 16]), (19, []), (20, [12, 13, 14, 15, 16, 17, 18, 19]), (21, [12, 13, 14, 15, 16, 17, 18, 19, 20]), (22, [12, 13, 14, 15, 16, 17, 18, 19, 20]), (23, [12, 13, 14, 15, 16, 17, 18, 19]), (24, [12, 13, 14, 15, 16, 17, 18, 19]), (25, []), (26, [])]
def oXShI217_18 : List (Nat × List Nat) := [(0, []), (1, [0]), (2, [0]), (3, [0, 1, 2]), (4, [0, 1, 2, 3]), (5, [0, 1, 2, 3]), (6, [0, 1, 2, 3, 4, 5]), (7, [0, 1, 2, 3, 4, 5, 6]), (8, [0, 1, 2, 3, 4, 5, 6]), (9, [0, 1, 2, 3, 4, 5]), (10, [0, 1, 2, 3, 4, 5]), (11, [0, 1, 2, 3, 4, 5, 6, 7, 8, 9, 10]), (12, [0, 1, 2, 3, 4, 5, 6, 7, 8, 9, 10]), (13, [0, 1, 2, 3, 4, 5]), (14, [0, 1, 2, 3, 4, 5, 6, 7, 8, 9, 10, 11, 12, 13]), (15, [0, 1, 2, 3, 4, 5, 6, 7, 8, 9, 10, 11, 12, 13]), (16, [3, 4, 5, 14, 15]), (17, [3, 4, 5, 14, 15]), (18, []), (19, []), (20, [])]
def oXShI180_1 : List (Nat × List Nat) := [(0, []), (1, []), (2, []), (3, []), (5, [0, 1, 2, 3]), (6, [0, 1, 2, 3]), (7, [0, 1, 2, 3]), (8, [0, 1, 2, 3]), (10, [0, 1, 2, 3, 5, 6, 7, 8]), (11, [0, 1, 2, 3, 5, 6, 7, 8]), (12, [0, 1, 2, 3, 5, 6, 7, 8]), (13, [0, 1, 2, 3, 5, 6, 7, 8]), (14, [0, 1, 2, 3, 5, 6, 7, 8, 10, 11, 12, 13]), (15, [0, 1, 2, 3, 5, 6, 7, 8]), (4, [5, 6, 7, 8, 10, 11, 12, 13, 14, 15]), (9, [10, 11, 12, 13, 14, 15]), (16, []), (17, []), (18, []), (19, [])]
def stF : Int × Bool → List DV := fun s => [.int .i64 s.1, .bool s.2]
abbrev steps (l : List (Int × Bool)) : DV := seqD 2 stF (0, false) l
abbrev tpC : Res := .cells 217 [.buf 1000001, .buf 1000002, .buf 1000003]
abbrev tpB (h w : List Int) (l : List Arc) : List (Nat × Res) := [(1000000, tpC), (1000001, froI h), (1000002, froI w), (1000003, arcB l)]
abbrev tpD (h w : List Int) : List (Nat × Res) := [(1000000, .cells 217 [.buf 1000001, .buf 1000002, .d (seqD 4 arF ar0 [])]), (1000001, froI h), (1000002, froI w)]
set_option maxHeartbeats 4000000 in
theorem s167a : FSpec Tryz.prog 217 [.ptr 1000000 0, .buf 1000004] ([(1000004, seqB 3 1 iF 0 [1, 0])] ++ tpB [1, 0] [0, 1] [⟨0, 1, 4, 0⟩])
 (fun y r => y = .tup [.d (ints [0, 4]), .d (steps [(-1, false), (0, false)])] ∧ r = [(1000004, seqB 3 1 iF 0 [1, 0])] ++ tpB [1, 0] [0, 1] [⟨0, 1, 4, 0⟩]) := by
 refine spec_of hT (C := []) Tryz.func217 rfl Tryz.call217 rfl rfl rfl ?_
 conv => whnf
 repeat' (first | (refine LoopX.run hT (C := []) 6 rfl [0, 1, 4, 5, 23, 24] [1000000, 1000001, 1000002, 1000003, 1000004] (fun _ _ h => h) (fun _ h => h) ?_; conv => whnf) | (refine LoopX.run hT (C := []) 20 rfl [0, 4, 5, 7] [1000000, 1000001, 1000002, 1000003, 1000004] (fun _ _ h => h) (fun _ h => h) ?_; conv => whnf) | (refine LoopX.run hT (C := []) 26 rfl [0, 4, 5, 7, 47, 48, 49] [1000000, 1000001, 1000002, 1000003, 1000004] (fun _ _ h => h) (fun _ h => h) ?_; conv => whnf) | (refine br_intro ?_ ?_ <;> intro hb <;> (try simp only [brs] at hb) <;> conv => whnf) | (refine RegX.rule (id := 1) hT rfl [] oXShI217_1 (by decide +kernel) ?_; conv => whnf) | (refine RegX.rule (id := 15) hT rfl [] oXShI217_15 (by decide +kernel) ?_; conv => whnf) | (refine RegX.rule (id := 16) hT rfl [] oXShI217_16 (by decide +kernel) ?_; conv => whnf) | (refine RegX.rule (id := 17) hT rfl [] oXShI217_17 (by decide +kernel) ?_; conv => whnf) | (refine RegX.rule (id := 18) hT rfl [] oXShI217_18 (by decide +kernel) ?_; conv => whnf) | omega | (refine And.intro ?_ ?_; ((try dsimp only); first | omega | (refine szA rfl ?_; omega) | (refine szB rfl ?_; omega) | (unfold inI64; omega) | exact rfl | (simp only [List.toList_toArray, List.length_cons, List.length_nil]; omega) | (simp only [lns] at *; omega) | decide | (unfold inI64; decide)); conv => whnf) | decide | assumption)
 refine .freeze _ 15 3 1 _ _ rfl (.freeze _ 21 264 2 _ _ rfl (.weak _ ?_))
 conv => whnf
 refine ⟨.tup [.d (ints [0, 4]), .d (steps [(-1, false), (0, false)])], _, SV.le_tup ⟨SV.le_ro rfl ?_, SV.le_ro rfl ?_, trivial⟩, ⟨rfl, rfl⟩, ?_⟩
 · intro i hi
   have : i = 0 ∨ i = 1 := by simp at hi; omega
   rcases this with rfl | rfl <;> rfl
 · intro i hi
   have : i = 0 ∨ i = 1 := by simp at hi; omega
   rcases this with rfl | rfl <;> rfl
 · refine ⟨rr, rr, rr, rr, ?_⟩
   first | exact trivial | exact ⟨rr, trivial⟩
set_option maxHeartbeats 4000000 in
theorem s167b : FSpec Tryz.prog 217 [.ptr 1000000 0, .buf 1000004] ([(1000004, seqB 3 1 iF 0 [0, 0])] ++ tpB [1, 0] [0, 1] [⟨0, 1, 4, 1⟩])
 (fun y r => y = .tup [.d (ints [1125899906842624, 1125899906842624]), .d (steps [(-1, false), (-1, false)])] ∧ r = [(1000004, seqB 3 1 iF 0 [0, 0])] ++ tpB [1, 0] [0, 1] [⟨0, 1, 4, 1⟩]) := by
 refine spec_of hT (C := []) Tryz.func217 rfl Tryz.call217 rfl rfl rfl ?_
 conv => whnf
 repeat' (first | (refine LoopX.run hT (C := []) 6 rfl [0, 1, 4, 5, 23, 24] [1000000, 1000001, 1000002, 1000003, 1000004] (fun _ _ h => h) (fun _ h => h) ?_; conv => whnf) | (refine LoopX.run hT (C := []) 20 rfl [0, 4, 5, 7] [1000000, 1000001, 1000002, 1000003, 1000004] (fun _ _ h => h) (fun _ h => h) ?_; conv => whnf) | (refine LoopX.run hT (C := []) 26 rfl [0, 4, 5, 7, 47, 48, 49] [1000000, 1000001, 1000002, 1000003, 1000004] (fun _ _ h => h) (fun _ h => h) ?_; conv => whnf) | (refine br_intro ?_ ?_ <;> intro hb <;> (try simp only [brs] at hb) <;> conv => whnf) | (refine RegX.rule (id := 1) hT rfl [] oXShI217_1 (by decide +kernel) ?_; conv => whnf) | (refine RegX.rule (id := 15) hT rfl [] oXShI217_15 (by decide +kernel) ?_; conv => whnf) | (refine RegX.rule (id := 16) hT rfl [] oXShI217_16 (by decide +kernel) ?_; conv => whnf) | (refine RegX.rule (id := 17) hT rfl [] oXShI217_17 (by decide +kernel) ?_; conv => whnf) | (refine RegX.rule (id := 18) hT rfl [] oXShI217_18 (by decide +kernel) ?_; conv => whnf) | omega | (refine And.intro ?_ ?_; ((try dsimp only); first | omega | (refine szA rfl ?_; omega) | (refine szB rfl ?_; omega) | (unfold inI64; omega) | exact rfl | (simp only [List.toList_toArray, List.length_cons, List.length_nil]; omega) | (simp only [lns] at *; omega) | decide | (unfold inI64; decide)); conv => whnf) | decide | assumption)
 refine .freeze _ 15 3 1 _ _ rfl (.freeze _ 21 264 2 _ _ rfl (.weak _ ?_))
 conv => whnf
 refine ⟨.tup [.d (ints [1125899906842624, 1125899906842624]), .d (steps [(-1, false), (-1, false)])], _, SV.le_tup ⟨SV.le_ro rfl ?_, SV.le_ro rfl ?_, trivial⟩, ⟨rfl, rfl⟩, ?_⟩
 · intro i hi
   have : i = 0 ∨ i = 1 := by simp at hi; omega
   rcases this with rfl | rfl <;> rfl
 · intro i hi
   have : i = 0 ∨ i = 1 := by simp at hi; omega
   rcases this with rfl | rfl <;> rfl
 · refine ⟨rr, rr, rr, rr, ?_⟩
   first | exact trivial | exact ⟨rr, trivial⟩
set_option maxHeartbeats 4000000 in
theorem s167c : FSpec Tryz.prog 217 [.ptr 1000000 0, .buf 1000004] ([(1000004, seqB 3 1 iF 0 [0, 0])] ++ tpD [0, 0] [0, 0])
 (fun y r => y = .tup [.d (ints [1125899906842624, 1125899906842624]), .d (steps [(-1, false), (-1, false)])] ∧ r = [(1000004, seqB 3 1 iF 0 [0, 0])] ++ tpD [0, 0] [0, 0]) := by
 refine spec_of hT (C := []) Tryz.func217 rfl Tryz.call217 rfl rfl rfl ?_
 conv => whnf
 repeat' (first | (refine LoopX.run hT (C := []) 6 rfl [0, 1, 4, 5, 23, 24] [1000000, 1000001, 1000002, 1000004] (fun _ _ h => h) (fun _ h => h) ?_; conv => whnf) | (refine LoopX.run hT (C := []) 20 rfl [0, 4, 5, 7] [1000000, 1000001, 1000002, 1000004] (fun _ _ h => h) (fun _ h => h) ?_; conv => whnf) | (refine LoopX.run hT (C := []) 26 rfl [0, 4, 5, 7, 47, 48, 49] [1000000, 1000001, 1000002, 1000004] (fun _ _ h => h) (fun _ h => h) ?_; conv => whnf) | (refine br_intro ?_ ?_ <;> intro hb <;> (try simp only [brs] at hb) <;> conv => whnf) | (refine RegX.rule (id := 1) hT rfl [] oXShI217_1 (by decide +kernel) ?_; conv => whnf) | (refine RegX.rule (id := 15) hT rfl [] oXShI217_15 (by decide +kernel) ?_; conv => whnf) | (refine RegX.rule (id := 16) hT rfl [] oXShI217_16 (by decide +kernel) ?_; conv => whnf) | (refine RegX.rule (id := 17) hT rfl [] oXShI217_17 (by decide +kernel) ?_; conv => whnf) | (refine RegX.rule (id := 18) hT rfl [] oXShI217_18 (by decide +kernel) ?_; conv => whnf) | omega | (refine And.intro ?_ ?_; ((try dsimp only); first | omega | (refine szA rfl ?_; omega) | (refine szB rfl ?_; omega) | (unfold inI64; omega) | exact rfl | (simp only [List.toList_toArray, List.length_cons, List.length_nil]; omega) | (simp only [lns] at *; omega) | decide | (unfold inI64; decide)); conv => whnf) | decide | assumption)
 refine .freeze _ 15 3 1 _ _ rfl (.freeze _ 21 264 2 _ _ rfl (.weak _ ?_))
 conv => whnf
 refine ⟨.tup [.d (ints [1125899906842624, 1125899906842624]), .d (steps [(-1, false), (-1, false)])], _, SV.le_tup ⟨SV.le_ro rfl ?_, SV.le_ro rfl ?_, trivial⟩, ⟨rfl, rfl⟩, ?_⟩
 · intro i hi
   have : i = 0 ∨ i = 1 := by simp at hi; omega
   rcases this with rfl | rfl <;> rfl
 · intro i hi
   have : i = 0 ∨ i = 1 := by simp at hi; omega
   rcases this with rfl | rfl <;> rfl
 · refine ⟨rr, rr, rr, rr, ?_⟩
   first | exact trivial | exact ⟨rr, trivial⟩
set_option maxHeartbeats 4000000 in
theorem s116t : FSpec Tryz.prog 180 [.ptr 1000000 0, .d (.int .i64 1), .d (.int .i64 0), .d (.int .i64 1), .d (.int .i64 1)] [(1000000, tpC), (1000001, froI [1, 0]), (1000002, froI [0, 1]), (1000003, .fro 4 1 (rowF arF ar0 [⟨0, 1, 4, 1⟩]))]
 (fun y r => y = .ptr 30 0 ∧ r = [(1000000, tpC), (1000001, froI [1, 0]), (1000002, froI [0, 1]), (1000003, .fro 4 1 (rowF arF ar0 [⟨0, 1, 4, 1⟩])), (30, .cells 217 [.buf 16, .buf 21, .d (seqD 4 arF ar0 [])]), (16, froI [0, 0]), (21, froI [0, 0])]) := by
 refine spec_of hT (C := []) Tryz.func180 rfl Tryz.call180 rfl rfl rfl ?_
 conv => whnf
 refine RegX.rule hT rfl [] oXShI180_1 (by decide +kernel) ?_
 conv => whnf
 repeat' (first | (refine CallX.of (s166 [1, 0] (by simp) (by simp)) [(7, 16)] rfl ⟨lr, trivial⟩ trivial rfl rfl ?_; rintro x rout ⟨rfl, rfl⟩; refine ⟨rfl, ?_⟩; conv => whnf) | (refine CallX.of (s166 [0, 1] (by simp) (by simp)) [(7, 21)] rfl ⟨lr, trivial⟩ trivial rfl rfl ?_; rintro x rout ⟨rfl, rfl⟩; refine ⟨rfl, ?_⟩; conv => whnf) | (refine CallX.pure (s168e _) ⟨lr, trivial⟩ rfl ?_; conv => whnf) | (refine br_intro ?_ ?_ <;> intro hb <;> (try simp only [brs] at hb) <;> conv => whnf) | (refine RegX.rule (id := 1) hT rfl [] oXShI180_1 (by decide +kernel) ?_; conv => whnf) | omega | (refine And.intro ?_ ?_; ((try dsimp only); first | omega | (refine szA rfl ?_; omega) | (refine szB rfl ?_; omega) | (unfold inI64; omega) | exact rfl | (simp only [List.toList_toArray, List.length_cons, List.length_nil]; omega) | (simp only [lns] at *; omega) | decide | (unfold inI64; decide)); conv => whnf) | decide | assumption)
 refine .freeze _ 16 3 1 _ _ rfl (.freeze _ 21 3 1 _ _ rfl (.ret _ ?_))
 conv => whnf
 refine ⟨_, ⟨rfl, rfl⟩, rr, rr, rr, rr, rr, Res.le_fro rfl ?_, Res.le_fro rfl ?_, trivial⟩
 · intro i hi
   have : i = 0 ∨ i = 1 := by simp at hi; omega
   rcases this with rfl | rfl <;> rfl
 · intro i hi
   have : i = 0 ∨ i = 1 := by simp at hi; omega
   rcases this with rfl | rfl <;> rfl
def oXShJ179_1 : List (Nat × List Nat) := [(0, []), (1, []), (2, []), (3, []), (5, [0, 1, 2, 3]), (6, [0, 1, 2, 3]), (7, [0, 1, 2, 3]), (8, [0, 1, 2, 3]), (4, [5, 6, 7, 8]), (9, []), (10, []), (11, [])]
def oXShJ179_14 : List (Nat × List Nat) := [(0, []), (1, []), (2, []), (3, []), (4, [3]), (5, []), (6, []), (7, []), (8, []), (9, []), (10, []), (11, []), (12, []), (13, []), (14, [13]), (15, []), (16, []), (17, [13, 14, 15, 16]), (18, [13, 14, 15, 16, 17]), (19, [13, 14, 15, 16]), (20, [13, 14, 15, 16]), (21, []), (22, []), (23, [])]
def oXShJ179_21 : List (Nat × List Nat) := [(0, []), (1, []), (2, []), (3, []), (4, [0, 1, 2, 3]), (5, [0, 1, 2, 3, 4]), (6, [0, 1, 2, 3]), (7, [0, 1, 2, 3]), (8, [0, 1, 2, 3]), (9, []), (10, []), (11, [0, 1, 2, 3, 4, 5, 6, 7, 8, 9, 10]), (12, [])]
def oXShJ179_23 : List (Nat × List Nat) := [(0, []), (1, [0]), (2, [0]), (3, []), (4, [0, 1, 2, 3]), (5, [0, 1, 2, 3]), (6, [4, 5]), (7, [])]
def oXShJ179_31 : List (Nat × List Nat) := [(0, []), (1, []), (2, []), (3, []), (4, [0, 1, 2, 3]), (5, [0, 1, 2, 3, 4]), (6, [0, 1, 2, 3]), (7, [0, 1, 2, 3]), (8, [0, 1, 2, 3]), (9, []), (10, [])]
def oXShJ108_13 : List (Nat × List Nat) := [(0, []), (1, [0]), (2, [0]), (3, [0]), (4, [0]), (5, [0, 1, 2, 3, 4]), (6, [0, 1, 2, 3, 4]), (7, [0]), (8, [0]), (9, [0, 1, 2, 3, 4, 5, 6, 7, 8]), (10, [0, 1, 2, 3, 4, 5, 6, 7, 8]), (11, [0, 1, 2, 3, 4, 5, 6, 7, 8]), (12, [0, 1, 2, 3, 4, 5, 6, 7, 8]), (13, [0, 1, 2, 3, 4, 5, 6, 7, 8, 9, 10, 11, 12]), (14, [0, 1, 2, 3, 4, 5, 6, 7, 8, 9, 10, 11, 12]), (15, [0, 1, 2, 3, 4, 5, 6, 7, 8]), (16, [0, 1, 2, 3, 4, 5, 6, 7, 8]), (17, [0]), (18, [])]
def oXShJ108_19 : List (Nat × List Nat) := [(0, []), (1, [0]), (2, [0, 1]), (3, [0, 1]), (4, [0]), (5, [0]), (6, [0]), (7, [0, 1, 2, 3, 4, 5, 6]), (8, [0, 1, 2, 3, 4, 5, 6, 7]), (9, [0, 1, 2, 3, 4, 5, 6, 7]), (10, [0, 1, 2, 3, 4, 5, 6]), (11, [0, 1, 2, 3, 4, 5, 6]), (12, [0, 1, 2, 3, 4, 5, 6]), (13, [0, 1, 2, 3, 4, 5, 6, 7, 8, 9, 10, 11, 12]), (14, [0]), (15, [0]), (16, []), (17, [])]
set_option maxHeartbeats 8000000 in
theorem s115a : FSpec Tryz.prog 179 [.ptr 1000000 0] (tpB [1, 0] [0, 1] [⟨0, 1, 4, 0⟩]) (fun y r => y = .tup [.d (.int .i64 4), .d (.bool true)] ∧ r = tpB [1, 0] [0, 1] [⟨0, 1, 4, 1⟩]) := by
 refine spec_of hT (C := []) Tryz.func179 rfl Tryz.call179 rfl rfl rfl ?_
 conv => whnf
 refine RegX.rule hT rfl [] oXShJ179_1 (by decide +kernel) ?_
 conv => whnf
 repeat' (first | (refine CallX.of (s166 [1, 0] (by simp) (by simp)) [(7, 22)] rfl ⟨lr, trivial⟩ trivial rfl rfl ?_; rintro x rout ⟨rfl, rfl⟩; refine ⟨rfl, ?_⟩; conv => whnf) | (refine CallX.of (s166 [0, 1] (by simp) (by simp)) [(7, 27)] rfl ⟨lr, trivial⟩ trivial rfl rfl ?_; rintro x rout ⟨rfl, rfl⟩; refine ⟨rfl, ?_⟩; conv => whnf) | (refine CallX.of s167a [(1000000, 1000000), (1000001, 1000001), (1000002, 1000002), (1000003, 1000003), (1000004, 22)] rfl ⟨lr, lr, trivial⟩ ⟨(Res.le_buf rfl (fun i hi => by (have : i = 0 ∨ i = 1 := by simp at hi; omega); rcases this with (rfl | rfl) <;> rfl)), rr, rr, rr, (Res.le_buf rfl (fun i hi => by (have : i = 0 := by simp at hi; omega); subst this; rfl)), trivial⟩ rfl rfl ?_; rintro x rout ⟨rfl, rfl⟩; refine ⟨rfl, ?_⟩; conv => whnf) | (refine CallX.of s167b [(1000000, 1000000), (1000001, 1000001), (1000002, 1000002), (1000003, 1000003), (1000004, 22)] rfl ⟨lr, lr, trivial⟩ ⟨(Res.le_buf rfl (fun i hi => by (have : i = 0 ∨ i = 1 := by simp at hi; omega); rcases this with (rfl | rfl) <;> rfl)), rr, rr, rr, (Res.le_buf rfl (fun i hi => by (have : i = 0 := by simp at hi; omega); subst this; rfl)), trivial⟩ rfl rfl ?_; rintro x rout ⟨rfl, rfl⟩; refine ⟨rfl, ?_⟩; conv => whnf) | (refine LoopX.run hT (C := []) 6 rfl [0, 4, 5, 32, 33] [1000000, 1000001, 1000002, 1000003] (fun _ _ h => h) (fun _ h => h) ?_; conv => whnf) | (refine LoopX.run hT (C := []) 7 rfl [0, 4, 5, 7] [1000000, 1000001, 1000002, 1000003] (fun _ _ h => h) (fun _ h => h) ?_; conv => whnf) | (refine LoopX.run hT (C := []) 22 rfl [0, 4, 5, 7, 8, 9, 10, 11, 50, 51, 52] [1000000, 1000001, 1000002, 1000003] (fun _ _ h => h) (fun _ h => h) ?_; conv => whnf) | (refine LoopX.run hT (C := []) 40 rfl [0, 4, 5, 7, 8, 9, 10, 14, 15] [1000000, 1000001, 1000002, 1000003] (fun _ _ h => h) (fun _ h => h) ?_; conv => whnf) | (refine LoopX.run hT (C := []) 60 rfl [0, 4, 5, 7, 9, 14, 15] [1000000, 1000001, 1000002, 1000003] (fun _ _ h => h) (fun _ h => h) ?_; conv => whnf) | (refine br_intro ?_ ?_ <;> intro hb <;> (try simp only [brs] at hb) <;> conv => whnf) | (refine RegX.rule (id := 1) hT rfl [] oXShJ179_1 (by decide +kernel) ?_; conv => whnf) | (refine RegX.rule (id := 14) hT rfl [] oXShJ179_14 (by decide +kernel) ?_; conv => whnf) | (refine RegX.rule (id := 21) hT rfl [] oXShJ179_21 (by decide +kernel) ?_; conv => whnf) | (refine RegX.rule (id := 23) hT rfl [] oXShJ179_23 (by decide +kernel) ?_; conv => whnf) | (refine RegX.rule (id := 31) hT rfl [] oXShJ179_31 (by decide +kernel) ?_; conv => whnf) | omega | (refine And.intro ?_ ?_; ((try dsimp only); first | omega | (refine szA rfl ?_; omega) | (refine szB rfl ?_; omega) | (unfold inI64; omega) | exact rfl | (simp only [List.toList_toArray, List.length_cons, List.length_nil]; omega) | (simp only [lns] at *; omega) | decide | (unfold inI64; decide)); conv => whnf) | decide | assumption)
 refine .weak _ ?_
 conv => whnf
 exact ⟨.tup [.d (.int .i64 4), .d (.bool true)], _, SV.le_tup ⟨SV.le_int rfl, SV.le_bool rfl, trivial⟩, ⟨rfl, rfl⟩, rr, rr, rr, (Res.le_buf rfl (fun i hi => by (have : i = 0 := by simp at hi; omega); subst this; rfl)), trivial⟩
set_option maxHeartbeats 8000000 in
theorem s115b : FSpec Tryz.prog 179 [.ptr 1000000 0] (tpD [0, 0] [0, 0]) (fun y r => y = .tup [.d (.int .i64 0), .d (.bool true)] ∧ r = tpD [0, 0] [0, 0]) := by
 refine spec_of hT (C := []) Tryz.func179 rfl Tryz.call179 rfl rfl rfl ?_
 conv => whnf
 refine RegX.rule hT rfl [] oXShJ179_1 (by decide +kernel) ?_
 conv => whnf
 repeat' (first | (refine CallX.of (s166 [0, 0] (by simp) (by simp)) [(7, 22)] rfl ⟨lr, trivial⟩ trivial rfl rfl ?_; rintro x rout ⟨rfl, rfl⟩; refine ⟨rfl, ?_⟩; conv => whnf) | (refine CallX.of (s166 [0, 0] (by simp) (by simp)) [(7, 27)] rfl ⟨lr, trivial⟩ trivial rfl rfl ?_; rintro x rout ⟨rfl, rfl⟩; refine ⟨rfl, ?_⟩; conv => whnf) | (refine CallX.of s167c [(1000000, 1000000), (1000001, 1000001), (1000002, 1000002), (1000004, 22)] rfl ⟨lr, lr, trivial⟩ ⟨rr, rr, rr, rr, trivial⟩ rfl rfl ?_; rintro x rout ⟨rfl, rfl⟩; refine ⟨rfl, ?_⟩; conv => whnf) | (refine LoopX.run hT (C := []) 6 rfl [0, 4, 5, 32, 33] [1000000, 1000001, 1000002] (fun _ _ h => h) (fun _ h => h) ?_; conv => whnf) | (refine LoopX.run hT (C := []) 7 rfl [0, 4, 5, 7] [1000000, 1000001, 1000002] (fun _ _ h => h) (fun _ h => h) ?_; conv => whnf) | (refine LoopX.run hT (C := []) 22 rfl [0, 4, 5, 7, 8, 9, 10, 11, 50, 51, 52] [1000000, 1000001, 1000002] (fun _ _ h => h) (fun _ h => h) ?_; conv => whnf) | (refine LoopX.run hT (C := []) 40 rfl [0, 4, 5, 7, 8, 9, 10, 14, 15] [1000000, 1000001, 1000002] (fun _ _ h => h) (fun _ h => h) ?_; conv => whnf) | (refine LoopX.run hT (C := []) 60 rfl [0, 4, 5, 7, 9, 14, 15] [1000000, 1000001, 1000002] (fun _ _ h => h) (fun _ h => h) ?_; conv => whnf) | (refine br_intro ?_ ?_ <;> intro hb <;> (try simp only [brs] at hb) <;> conv => whnf) | (refine RegX.rule (id := 1) hT rfl [] oXShJ179_1 (by decide +kernel) ?_; conv => whnf) | (refine RegX.rule (id := 14) hT rfl [] oXShJ179_14 (by decide +kernel) ?_; conv => whnf) | (refine RegX.rule (id := 21) hT rfl [] oXShJ179_21 (by decide +kernel) ?_; conv => whnf) | (refine RegX.rule (id := 23) hT rfl [] oXShJ179_23 (by decide +kernel) ?_; conv => whnf) | (refine RegX.rule (id := 31) hT rfl [] oXShJ179_31 (by decide +kernel) ?_; conv => whnf) | omega | (refine And.intro ?_ ?_; ((try dsimp only); first | omega | (refine szA rfl ?_; omega) | (refine szB rfl ?_; omega) | (unfold inI64; omega) | exact rfl | (simp only [List.toList_toArray, List.length_cons, List.length_nil]; omega) | (simp only [lns] at *; omega) | decide | (unfold inI64; decide)); conv => whnf) | decide | assumption)
 refine .weak _ ?_
 conv => whnf
 exact ⟨.tup [.d (.int .i64 0), .d (.bool true)], _, SV.le_tup ⟨SV.le_int rfl, SV.le_bool rfl, trivial⟩, ⟨rfl, rfl⟩, rr, rr, rr, trivial⟩
set_option maxHeartbeats 8000000 in
theorem s27t : FSpec Tryz.prog 108 [.d (neds tN), .d (roas tR)] [] (fun y r => y = .tup [.d (movs [⟨[97], [98], 1⟩]), .d (.int .i64 0)] ∧ r = []) := by
 refine spec_of hT (C := []) Tryz.func108 rfl Tryz.call108 rfl rfl rfl ?_
 conv => whnf
 repeat' (first | (refine CallX.exact (s113t) rfl rfl ?_; rotate_right; conv => whnf) | (refine CallX.of s114t [(20, 24), (15, 1000), (18, 1001), (88, 1002)] rfl ⟨lr, lr, trivial⟩ trivial rfl rfl ?_; rintro x rout ⟨rfl, rfl⟩; refine ⟨rfl, ?_⟩; conv => whnf) | (refine CallX.of s115a [(1000000, 24), (1000001, 1000), (1000002, 1001), (1000003, 1002)] rfl ⟨lr, trivial⟩ ⟨rr, rr, rr, rr, trivial⟩ rfl rfl ?_; rintro x rout ⟨rfl, rfl⟩; refine ⟨rfl, ?_⟩; conv => whnf) | (refine br_intro ?_ ?_ <;> intro hb <;> (try simp only [brs] at hb) <;> conv => whnf) | (refine RegX.rule (id := 13) hT rfl [] oXShJ108_13 (by decide +kernel) ?_; conv => whnf) | (refine RegX.rule (id := 19) hT rfl [] oXShJ108_19 (by decide +kernel) ?_; conv => whnf) | omega | (refine And.intro ?_ ?_; ((try dsimp only); first | omega | (refine szA rfl ?_; omega) | (refine szB rfl ?_; omega) | (unfold inI64; omega) | exact rfl | (simp only [List.toList_toArray, List.length_cons, List.length_nil]; omega) | (simp only [lns] at *; omega) | decide | (unfold inI64; decide)); conv => whnf) | decide | assumption)
 refine LoopX.freeze 1002 219 4 1 _ rfl ?_
 repeat' (first | (refine CallX.of s116t [(1000000, 24), (1000001, 1000), (1000002, 1001), (1000003, 1002), (30, 1100), (16, 1101), (21, 1102)] rfl ⟨lr, SV.le_int rfl, SV.le_int rfl, SV.le_int rfl, SV.le_int rfl, trivial⟩ ⟨rr, rr, rr, Res.le_fro rfl (fun i hi => by (have : i = 0 := by simp at hi; omega); subst this; rfl), trivial⟩ rfl rfl ?_; rintro x rout ⟨rfl, rfl⟩; refine ⟨rfl, ?_⟩; conv => whnf) | (refine CallX.of s116t [(1000000, 24), (1000001, 1000), (1000002, 1001), (1000003, 1002), (30, 1200), (16, 1201), (21, 1202)] rfl ⟨lr, SV.le_int rfl, SV.le_int rfl, SV.le_int rfl, SV.le_int rfl, trivial⟩ ⟨rr, rr, rr, Res.le_fro rfl (fun i hi => by (have : i = 0 := by simp at hi; omega); subst this; rfl), trivial⟩ rfl rfl ?_; rintro x rout ⟨rfl, rfl⟩; refine ⟨rfl, ?_⟩; conv => whnf) | (refine CallX.of s115b [(1000000, 1100), (1000001, 1101), (1000002, 1102)] rfl ⟨lr, trivial⟩ ⟨rr, rr, rr, trivial⟩ rfl rfl ?_; rintro x rout ⟨rfl, rfl⟩; refine ⟨rfl, ?_⟩; conv => whnf) | (refine LoopX.run hT (C := []) 18 rfl [0, 7, 8, 10] [] (fun _ _ h => h) (fun _ h => h) ?_; conv => whnf) | (refine LoopX.run hT (C := []) 26 rfl [0, 7, 8, 10, 11, 12, 13] [] (fun _ _ h => h) (fun _ h => h) ?_; conv => whnf) | (refine br_intro ?_ ?_ <;> intro hb <;> (try simp only [brs] at hb) <;> conv => whnf) | (refine RegX.rule (id := 13) hT rfl [] oXShJ108_13 (by decide +kernel) ?_; conv => whnf) | (refine RegX.rule (id := 19) hT rfl [] oXShJ108_19 (by decide +kernel) ?_; conv => whnf) | omega | (refine And.intro ?_ ?_; ((try dsimp only); first | omega | (refine szA rfl ?_; omega) | (refine szB rfl ?_; omega) | (unfold inI64; omega) | exact rfl | (simp only [List.toList_toArray, List.length_cons, List.length_nil]; omega) | (simp only [lns] at *; omega) | decide | (unfold inI64; decide)); conv => whnf) | decide | assumption)
 refine .freeze _ 106 67 3 _ _ rfl (.weak _ ?_)
 conv => whnf
 exact ⟨.tup [.d (movs [⟨[97], [98], 1⟩]), .d (.int .i64 0)], _, SV.le_tup ⟨SV.le_ro rfl (fun i hi => by (have : i = 0 := by simp at hi; omega); subst this; rfl), SV.le_int rfl, trivial⟩, ⟨rfl, rfl⟩, trivial⟩
theorem mov_eq {a b : Mov} : a = b ↔ a.a = b.a ∧ a.b = b.b ∧ a.many = b.many := by cases a; cases b; simp
instance : DecidableEq Mov := fun _ _ => decidable_of_iff _ mov_eq.symm
structure Pnl where
 key : List UInt8
 w : Int
 h : Int
 pr : Int
structure Mrk where
 pan : List UInt8
 kind : Int
 x : Int
 y : Int
 size : Int
structure Rul where
 near : Int
 slack : Int
 join : Int
 part : Int
theorem less_trans : ∀ {a b c : List UInt8}, Op.bytesLess a b = true → Op.bytesLess b c = true → Op.bytesLess a c = true := by
 intro a
 induction a with
 | nil => intro b c h1 h2; cases b <;> cases c <;> simp_all [Op.bytesLess]
 | cons x a ih =>
   intro b c h1 h2
   cases b with
   | nil => simp [Op.bytesLess] at h1
   | cons y b =>
     cases c with
     | nil => simp [Op.bytesLess] at h2
     | cons z c =>
       simp only [Op.bytesLess] at h1 h2 ⊢
       grind [UInt8.lt_trans]
theorem less_irr : ∀ (a : List UInt8), Op.bytesLess a a = false := by
 intro a
 induction a with
 | nil => rfl
 | cons x a ih => simp [Op.bytesLess, ih]
theorem cmpS_sw (a b : List UInt8) : cmpS a b = - cmpS b a := by
 unfold cmpS
 by_cases e : a = b
 · subst e; simp [less_irr]
 · cases q : Op.bytesLess a b
   · have := less_tri _ _ q e
     simp [this]
   · have : Op.bytesLess b a = false := by
      cases w : Op.bytesLess b a
      · rfl
      · have := less_trans q w
        rw [less_irr] at this; cases this
     simp [this]
structure Ar3 where
 fr : Nat
 to : Nat
 car : Int
theorem cmpI_sw (a b : Int) : cmpI a b = - cmpI b a := by unfold cmpI; grind
theorem pasCmp_sw (a b : Pas) : pasCmp a b = - pasCmp b a := by
 unfold pasCmp
 rw [cmpI_sw a.tm, cmpS_sw a.gate, cmpS_sw a.plate]
 simp only [firstE]
 grind
theorem cmpS_lt {a b : List UInt8} : cmpS a b < 0 ↔ Op.bytesLess a b = true := by
 unfold cmpS
 constructor
 · intro h; by_cases q : Op.bytesLess a b = true
   · exact q
   · rw [if_neg q] at h; split at h <;> omega
 · intro h; rw [if_pos h]; omega
theorem cmpS_zero {a b : List UInt8} : cmpS a b = 0 ↔ a = b := by
 constructor
 · intro h
   by_cases e : a = b
   · exact e
   · exfalso
     cases q : Op.bytesLess a b
     · have h2 := less_tri _ _ q e
       unfold cmpS at h
       rw [q, h2] at h
       simp at h
     · have := cmpS_lt.2 q
       omega
 · rintro rfl; unfold cmpS; simp [less_irr]
theorem cmpS_trans {a b c : List UInt8} (h1 : cmpS a b < 0) (h2 : cmpS b c < 0) : cmpS a c < 0 := by
 rw [cmpS_lt] at *; exact less_trans h1 h2
theorem cmpI_lt {a b : Int} : cmpI a b < 0 ↔ a < b := by unfold cmpI; split <;> (try split) <;> omega
theorem cmpI_zero {a b : Int} : cmpI a b = 0 ↔ a = b := by unfold cmpI; split <;> (try split) <;> omega
theorem pasCmp_lt {a b : Pas} : pasCmp a b < 0 ↔ a.tm < b.tm ∨ (a.tm = b.tm ∧ (cmpS a.gate b.gate < 0 ∨ (a.gate = b.gate ∧ cmpS a.plate b.plate < 0))) := by
 unfold pasCmp
 simp only [firstE]
 by_cases e1 : cmpI a.tm b.tm = 0
 · rw [if_pos e1]
   have f1 := cmpI_zero.1 e1
   by_cases e2 : cmpS a.gate b.gate = 0
   · rw [if_pos e2]
     have f2 := cmpS_zero.1 e2
     by_cases e3 : cmpS a.plate b.plate = 0
     · rw [if_pos e3, f1, f2, e3, e2.symm.trans (by rw [f2])]
       have : cmpS b.gate b.gate = 0 := cmpS_zero.2 rfl
       omega
     · rw [if_neg e3, f1, f2]
       have : cmpS b.gate b.gate = 0 := cmpS_zero.2 rfl
       constructor
       · intro h; exact .inr ⟨rfl, .inr ⟨rfl, h⟩⟩
       · rintro (h | ⟨_, h | ⟨_, h⟩⟩)
         · omega
         · omega
         · exact h
   · rw [if_neg e2, f1]
     constructor
     · intro h; exact .inr ⟨rfl, .inl h⟩
     · rintro (h | ⟨_, h | ⟨h, _⟩⟩)
       · omega
       · exact h
       · exact absurd (cmpS_zero.2 h) e2
 · rw [if_neg e1, cmpI_lt]
   constructor
   · intro h; exact .inl h
   · rintro (h | ⟨h, _⟩)
     · exact h
     · exact absurd (cmpI_zero.2 h) e1
theorem pasCmp_trans (a b c : Pas) (h1 : pasCmp a b < 0) (h2 : pasCmp b c < 0) : pasCmp a c < 0 := by
 rw [pasCmp_lt] at *
 rcases h1 with h1 | ⟨h1, g1 | ⟨g1, p1⟩⟩ <;> rcases h2 with h2 | ⟨h2, g2 | ⟨g2, p2⟩⟩
 · exact .inl (by omega)
 · exact .inl (by omega)
 · exact .inl (by omega)
 · exact .inl (by omega)
 · exact .inr ⟨by omega, .inl (cmpS_trans g1 g2)⟩
 · exact .inr ⟨by omega, .inl (g2 ▸ g1)⟩
 · exact .inl (by omega)
 · exact .inr ⟨by omega, .inl (g1 ▸ g2)⟩
 · exact .inr ⟨by omega, .inr ⟨g1.trans g2, cmpS_trans p1 p2⟩⟩
abbrev srt (l : List Pas) : Prop := l.Pairwise (fun a b => pasCmp a b < 0)
theorem pairwise_step {R : Pas → Pas → Prop} (tr : ∀ a b c, R a b → R b c → R a c) {l : List Pas} (h : ∀ i, 0 < i → i < l.length → R (l.getD (i - 1) pa0) (l.getD i pa0)) : l.Pairwise R := by
 rw [List.pairwise_iff_getElem]
 have key : ∀ k i, (hi : i + k + 1 < l.length) → R (l[i]'(by omega)) (l[i + k + 1]'hi) := by
  intro k
  induction k with
  | zero =>
    intro i hi
    have := h (i + 1) (by omega) hi
    rw [List.getD_eq_getElem?_getD, List.getD_eq_getElem?_getD, List.getElem?_eq_getElem hi, List.getElem?_eq_getElem (by omega : i + 1 - 1 < l.length)] at this
    exact this
  | succ k ih =>
    intro i hi
    have h1 := ih i (by omega)
    have := h (i + k + 1 + 1) (by omega) (by omega)
    rw [List.getD_eq_getElem?_getD, List.getD_eq_getElem?_getD, List.getElem?_eq_getElem (by omega : i + k + 1 + 1 < l.length), List.getElem?_eq_getElem (by omega : i + k + 1 + 1 - 1 < l.length)] at this
    exact tr _ _ _ h1 this
 intro i j hi hj hij
 have := key (j - i - 1) i (by omega)
 simp only [show i + (j - i - 1) + 1 = j by omega] at this
 exact this
theorem form_srt {l : List Pas} (h : formE l = 0) : l.length ≤ 1000 ∧ (∀ i, i < l.length → pasE l i = 0) ∧ srt l := by
 unfold formE at h
 split at h
 · cases h
 have h2 := firstAt_all h
 refine ⟨by omega, h2, pairwise_step pasCmp_trans fun i h0 hi => ?_⟩
 have := h2 i hi
 unfold pasE at this
 grind
def pasQ (p : Pas) : Prop := (0 ≤ p.tm ∧ p.tm ≤ 5761439) ∧ isKeyB p.gate = true ∧ isPlateB p.plate = true ∧ (0 ≤ p.cents ∧ p.cents ≤ 1000000)
theorem form_Q {l : List Pas} (h : formE l = 0) : ∀ p ∈ l, pasQ p := fun p hp => by
 obtain ⟨i, hi, rfl⟩ := mem_getD (d := pa0) hp
 have := (form_srt h).2.1 i hi
 unfold pasE at this
 unfold pasQ
 grind
theorem srt_form {l : List Pas} (h0 : l.length ≤ 1000) (h1 : ∀ p ∈ l, pasQ p) (h2 : srt l) : formE l = 0 := by
 unfold formE
 rw [if_neg (by omega)]
 refine firstAt_zero fun i hi => ?_
 obtain ⟨a1, a2, a3, a4⟩ := h1 _ (getD_mem (x := pa0) hi)
 have hs : ¬ (0 < i ∧ 0 ≤ pasCmp (l.getD (i - 1) pa0) (l.getD i pa0)) := fun ⟨q1, q2⟩ => by
  have := List.pairwise_iff_getElem.1 h2 (i - 1) i (by omega) hi (by omega)
  rw [List.getD_eq_getElem?_getD, List.getD_eq_getElem?_getD, List.getElem?_eq_getElem hi, List.getElem?_eq_getElem (by omega : i - 1 < l.length)] at q2
  simp only [Option.getD_some] at q2
  omega
 unfold pasE
 rw [if_neg (fun q => q a1), if_neg (fun q => by rw [a2] at q; cases q), if_neg (fun q => by rw [a3] at q; cases q), if_neg (fun q => q a4), if_neg hs]
theorem chk_sub {g : List Gate} {l a : List Pas} (h : chkE g l = 0) (hs : a.Sublist l) : chkE g a = 0 := by
 unfold chkE at h
 by_cases h1 : gatesE g = 0
 · rw [if_neg (by simp [h1])] at h
   by_cases h2 : formE l = 0
   · rw [if_neg (by simp [h2])] at h
     obtain ⟨f1, f2, f3⟩ := form_srt h2
     have hq := form_Q h2
     have ha : formE a = 0 := srt_form (by have := hs.length_le; omega) (fun p hp => hq p (hs.subset hp)) (f3.sublist hs)
     have hon := firstAt_all h
     unfold chkE
     rw [if_neg (by simp [h1]), if_neg (by simp [ha])]
     refine firstAt_zero fun i hi => ?_
     obtain ⟨j, hj, e⟩ := mem_getD (d := pa0) (hs.subset (getD_mem (x := pa0) hi))
     have := hon j hj
     unfold onG at this ⊢
     rw [e] at this
     exact this
   · rw [if_pos h2] at h; exact absurd h h2
 · rw [if_pos h1] at h; exact absurd h h1
theorem mrg_back {l a b : List Pas} (hl : srt l) (hp : (a ++ b).Perm l) : isort pasCmp (a ++ b) = l := by
 have hne : (a ++ b).Pairwise (fun x y => pasCmp x y ≠ 0) := by
  refine (List.Perm.pairwise_iff (R := fun x y => pasCmp x y ≠ 0) (fun {x y} h e => h (by rw [pasCmp_sw]; omega)) hp).2 ?_
  exact hl.imp (fun h => by omega)
 have hs : srt (isort pasCmp (a ++ b)) := isort_pairwise pasCmp (fun a b => pasCmp a b < 0) pasCmp_trans (a ++ b) (hne.imp fun {x y} h => ⟨fun q => q, fun q => by have := pasCmp_sw x y; omega⟩)
 refine List.Perm.eq_of_pairwise (le := fun a b => pasCmp a b < 0) (fun x y _ _ h1 h2 => ?_) hs hl ((isort_perm pasCmp (a ++ b)).trans hp)
 have := pasCmp_sw x y
 omega
theorem cpt_srt {l : List Pas} (hl : srt l) : ∀ i, i ≤ l.length → cptN l i = l.take i := by
 intro i
 induction i with
 | zero => intro _; simp [cptN]
 | succ i ih =>
   intro hi
   have hx : ¬ (0 < i ∧ l.getD i pa0 = l.getD (i - 1) pa0) := fun ⟨q1, q2⟩ => by
    have := List.pairwise_iff_getElem.1 hl (i - 1) i (by omega) (by omega) (by omega)
    rw [List.getD_eq_getElem?_getD, List.getD_eq_getElem?_getD, List.getElem?_eq_getElem (by omega : i < l.length), List.getElem?_eq_getElem (by omega : i - 1 < l.length)] at q2
    simp only [Option.getD_some] at q2
    rw [q2] at this
    have h0 := pasCmp_sw l[i - 1] l[i - 1]
    omega
   rw [cptN, ih (by omega), if_neg hx, List.take_add_one]
   simp [List.getD_eq_getElem?_getD, show i < l.length by omega]
theorem merge_back {g : List Gate} {l a b : List Pas} (h : chkE g l = 0) (ha : a.Sublist l) (hb : b.Sublist l) (hp : (a ++ b).Perm l) : mergeE g a b = 0 ∧ mrgL a b = l := by
 have h2 : formE l = 0 := by
  unfold chkE at h
  split at h
  · rename_i q; exact absurd h q
  · split at h
    · rename_i q; exact absurd h q
    · rename_i q; simpa using q
 obtain ⟨f1, f2, f3⟩ := form_srt h2
 have hm : mrgL a b = l := by
  unfold mrgL
  rw [mrg_back f3 hp, cpt_srt f3 _ (Nat.le_refl _), List.take_length]
 refine ⟨?_, hm⟩
 have e1 := chk_sub h ha
 have e2 := chk_sub h hb
 unfold mergeE
 rw [e1, e2, if_neg (by simp [firstE])]
 unfold mrgE
 rw [hm]
 have hnb : firstAt (nbE l) l.length = 0 := firstAt_zero fun i hi => by
  unfold nbE
  refine if_neg fun ⟨q1, q2⟩ => ?_
  have := List.pairwise_iff_getElem.1 f3 (i - 1) i (by omega) hi (by omega)
  rw [List.getD_eq_getElem?_getD, List.getD_eq_getElem?_getD, List.getElem?_eq_getElem hi, List.getElem?_eq_getElem (by omega : i - 1 < l.length)] at q2
  simp only [Option.getD_some] at q2
  omega
 rw [hnb, if_neg (by simp), if_neg (by omega)]
end Go.Proofs.YtgeakdcbpjmkbaaGreatDoor
set_option maxRecDepth 100000
namespace Go.Proofs
open Go.Shelf Go.RowKit
variable {P : Program} {ρ : Ren}
set_option maxHeartbeats 1000000 in
theorem bldString (L : Lays.n169 P ρ) (X : Builder.Extra P ρ) (b g cap : Nat) (p : Value) (cur : Array Value) (l : List UInt8) (w : World) (h0 : l ≠ []) (hbk : w.heap[b]? = some (.cells #[p, .slice (some ⟨g, 0, none⟩) l.length cap] (ρ.t 72) (0, 0)))
 (hg : w.heap[g]? = some (.cells cur (ρ.t 5) (0, 0))) (hnc : l.length ≤ cap) (hcm : cap ≤ maxLen) (hcs : cur.size = cap * 1) (hcell : ∀ j x, l[j]? = some x → w.drew.cell? ((⟨g, 0, none⟩ : Addr).add j) = some (.int .u8 x.toNat)) :
 Calls P (ρ.f 169) #[.pointer (some ⟨b, 0, none⟩)] w fun e w' => e = .returned (.string ⟨l.toArray⟩) ∧ w.grownBy w' (some g) := by
 have hl0 : l.length ≠ 0 := by simpa using h0
 have c1 : w.drew.cell? ⟨b, 1, none⟩ = some (.slice (some ⟨g, 0, none⟩) l.length cap) := by
  have : w.drew.heap[b]? = some (.cells #[p, .slice (some ⟨g, 0, none⟩) l.length cap] (ρ.t 72) (0, 0)) := hbk
  rw [Lib.cell_of_heap this]; rfl
 have hSD : (Builtin.unsafeSliceData_ #[(ρ.t 37)] (ρ.t 127) #[.slice (some ⟨g, 0, none⟩) l.length cap]).run P w.drew = .ok (.pointer (some ⟨g, 0, none⟩)) w.drew :=
  Lib.run_unsafeSliceData_row _ _ _ _ _ _ (by omega)
 have hUS : (Builtin.unsafeString_ #[(ρ.t 127), (ρ.t 3)] (ρ.t 9) #[.pointer (some ⟨g, 0, none⟩), .int .i64 l.length]).run P w.drew = .ok (.string ⟨l.toArray⟩) (w.drew.freeze ⟨g, 0, none⟩ l.length) :=
  Lib.run_unsafeString_row w.drew (ρ.t 127) (ρ.t 3) (ρ.t 9) (ρ.t 5) L.t127 X.cellsByte g cur.size (by have hg' : w.drew.heap[g]? = some (.cells cur (ρ.t 5) (0, 0)) := hg; simp [World.shape?, hg']) l h0 (by omega) (by unfold maxLen at hcm; omega) hcell
 have hgr : w.grownBy (w.drew.freeze ⟨g, 0, none⟩ l.length) (some g) := by
  unfold World.freeze
  rw [if_neg hl0]
  exact ⟨rfl, rfl, rfl, by show w.heap.size ≤ (Array.modify _ _ _).size; rw [Array.size_modify]; exact Nat.le_refl _, fun k _ hk => by
   simp only [Array.getElem?_modify]
   rw [if_neg (fun e => hk (by rw [← e]))]; rfl⟩
 clear hcell hcs hcm hnc hg
 have mixed := L.mixed
 have t72 := L.t72; have a72 := L.a72; have z72 := L.z72; have v72 := L.v72; have u72 := run_underlying L.t72
 have t70 := L.t70; have a70 := L.a70; have z70 := L.z70; have v70 := L.v70; have u70 := run_underlying L.t70
 have t37 := L.t37; have a37 := L.a37; have z37 := L.z37; have v37 := L.v37; have u37 := run_underlying L.t37
 have t127 := L.t127; have a127 := L.a127; have z127 := L.z127; have v127 := L.v127; have u127 := run_underlying L.t127
 have t3 := L.t3; have a3 := L.a3; have z3 := L.z3; have v3 := L.v3; have u3 := run_underlying L.t3
 have t9 := L.t9; have a9 := L.a9; have z9 := L.z9; have v9 := L.v9; have u9 := run_underlying L.t9
 have t5 := X.t5; have a5 := X.a5; have z5 := X.z5; have v5 := X.v5; have u5 := run_underlying X.t5
 go_enter L.f169, Body.n169_ntmps ρ
 go_wp2
 go_region_o
 all_goals (go_wp2; go_ret; exact ⟨rfl, hgr⟩)
end Go.Proofs
namespace Go.Proofs.YtgeakdcbpjmkbaaGreatDoor
open Go Go.Eng Go.Shelf Go.RowKit
theorem ext156 : Builder.Extra Tryz.prog Tryz.lays156_ren := { sizeBuilder := by kernel_rfl, liesBuilder := by kernel_rfl, t5 := Tryz.underlying5, a5 := Tryz.isAgg5, z5 := Tryz.sizeOf5, v5 := Tryz.zeroValue5, infoByte := by kernel_rfl, cellsByte := by kernel_rfl, sizeByte := by kernel_rfl, neB5 := by decide }
theorem ext169 : Builder.Extra Tryz.prog Tryz.lays169_ren := { sizeBuilder := by kernel_rfl, liesBuilder := by kernel_rfl, t5 := Tryz.underlying5, a5 := Tryz.isAgg5, z5 := Tryz.sizeOf5, v5 := Tryz.zeroValue5, infoByte := by kernel_rfl, cellsByte := by kernel_rfl, sizeByte := by kernel_rfl, neB5 := by decide }
theorem lays240 : Lays.n240 Tryz.prog Tryz.lays156_ren := { Tryz.lays156 with }
theorem zJoin (l : List (List UInt8)) (sep : List UInt8) (hl : (Lib.join l sep).length ≤ 2^40) (hn : l.length ≤ 2^40) : FSpec Tryz.prog 94 [.d (strs l), .d (.str sep)] [] (fun x r => x = .d (.str (Lib.join l sep)) ∧ r = []) := by
 refine FSpec.ofBelow Tryz.call94 (fun G β w vs hg hvl hd => ?_)
 match vs, hvl with
 | [u, v], _ =>
   have h0 := hd 0 _ u rfl rfl
   have h1 := hd 1 _ v rfl rfl
   cases h1 with | d _ _ h1 => cases h1 with | str _ =>
   refine ⟨.string ⟨(Lib.join l sep).toArray⟩, fun _ _ => .d _ _ (.str _), ?_⟩
   have e : Tryz.lays156_ren.f 156 = 94 := rfl
   match l, hl, hn, h0 with
   | [], _, _, h0 =>
     cases h0 with | d _ _ h0 =>
     obtain ⟨a, c, rfl⟩ : ∃ a c, u = .slice a 0 c := by
      unfold strs seqD at h0
      generalize hz : ([] : List (List UInt8)).length = z at h0
      have hz : z = 0 := hz.symm
      subst hz
      cases h0 with
      | ronil => exact ⟨_, _, rfl⟩
      | ro _ _ _ a cap => exact ⟨_, _, rfl⟩
     have hcon := Any.strings_Join_none Tryz.lays156 ext156 a c ⟨sep.toArray⟩ w
     rw [e] at hcon
     refine hcon.mono ?_
     rintro e' w' ⟨rfl, rfl⟩
     exact ⟨by rw [Lib.join_nil], Below.refl _ _⟩
   | x :: r, hl, hn, h0 =>
     cases h0 with | d _ _ h0 =>
     unfold strs seqD at h0
     generalize hz : (x :: r).length = z at h0
     cases h0 with
     | ronil => simp at hz
     | ro _ _ _ a cap vals hs hcap hmax hl2 hc hd2 =>
       obtain ⟨bk, o, sp⟩ := a
       simp only at hs; subst hs
       have hcell : ∀ (j : Nat) y, (x :: r)[j]? = some y → w.cell? ⟨bk, o + j, none⟩ = some (.string ⟨y.toArray⟩) := by
        intro j y hy
        have hj : j < z := by rw [← hz]; exact (List.getElem?_eq_some_iff.1 hy).1
        have hx : (rowF sF [] (x :: r) j)[0]? = some (DV.str y) := by simp [rowF, sF, List.getD_eq_getElem?_getD, hy]
        obtain ⟨cs, e', fr, q1, q2, q3⟩ := hc j 0 _ hj hx
        have q4 := hd2 j 0 _ hj hx
        generalize vals j 0 = vv at q3 q4
        cases q4 with | str =>
        rw [Eng.Addr.add_block] at q1
        have := hg _ _ q1
        rw [Addr.add_lit] at q3
        simp only [Nat.mul_one, Nat.add_zero] at q3
        simp only at this
        simp [World.cell?, this, q3]
       have hbk : bk < w.heap.size := by
        have hx : (rowF sF [] (x :: r) 0)[0]? = some (DV.str x) := by simp [rowF, sF]
        obtain ⟨cs, e', fr, q1, _, _⟩ := hc 0 0 _ (by rw [← hz]; simp) hx
        rw [Eng.Addr.add_block] at q1
        exact (Array.getElem?_eq_some_iff.1 (hg _ _ q1)).1
       cases r with
       | nil =>
         have hz : z = 1 := hz.symm
         subst hz
         have hcon := Any.strings_Join_one Tryz.lays156 ext156 bk o cap ⟨x.toArray⟩ ⟨sep.toArray⟩ w (by simpa using hcell 0 x rfl)
         rw [e] at hcon
         refine hcon.mono ?_
         rintro e' w' ⟨rfl, rfl⟩
         exact ⟨by rw [Lib.join_one], Below.refl _ _⟩
       | cons y r =>
         have hmm : ((x :: y :: r).map fun z : List UInt8 => (⟨z.toArray⟩ : ByteArray)).map (·.data.toList) = x :: y :: r := by rw [List.map_map]; simp [Function.comp_def]
         have hln : ((x :: y :: r).map fun z : List UInt8 => (⟨z.toArray⟩ : ByteArray)).length = z := by rw [List.length_map]; exact hz
         have hcon := Any.strings_Join_many Tryz.lays156 ext156 bk o cap ((x :: y :: r).map fun z => ⟨z.toArray⟩) ⟨sep.toArray⟩ w (fun j q hq => by
          rw [List.getElem?_map] at hq
          cases hy : (x :: y :: r)[j]? with
          | none => rw [hy] at hq; cases hq
          | some t => rw [hy] at hq; cases hq; exact hcell j t hy) hbk (by simp) (by rw [List.length_map]; omega) (by rw [hln]; exact hcap) (by rw [hmm]; simpa using Nat.le_trans hl (by decide))
         rw [e, hmm, hln] at hcon
         exact hcon
theorem FSpec.same {f : FuncId} {args : List SV} {rin : List (Nat × Res)} {y : SV} (henter : ∀ args w, (callFunc f args).run Tryz.prog w = .ok (.enter f args) w)
 (h : ∀ (G : Hp) (β : Env) (w : World) (vs : List Value), Pre G β w (lookL rin) → vs.length = args.length → (∀ (i : Nat) x v, args[i]? = some x → vs[i]? = some v → SV.Den G β x v) →
   ∃ u, SV.Den G β y u ∧ Calls Tryz.prog f vs.toArray w fun e w' => e = .returned u ∧ w' = w) : FSpec Tryz.prog f args rin (fun x r => x = y ∧ r = rin) := by
 refine ⟨henter, fun G β w vs hpre hl hd => ?_⟩
 obtain ⟨u, hu, hc⟩ := h G β w vs hpre hl hd
 refine hc.mono ?_
 rintro e w' ⟨rfl, rfl⟩
 exact ⟨u, y, _, G, β, rfl, ⟨rfl, rfl⟩, ⟨Hp.le_refl G, Env.le_refl β, hpre.gw, fun b o e => .inl e, Keep.refl _ _, hpre.rs, hpre.dj, fun d r v b h1 h2 h3 h4 => ⟨hpre.og d r v b h1 h2 h3 h4, .inl ⟨d, r, v, h1, h2, h3, h4⟩⟩⟩, hu⟩
def bNew : Res := .cells 98 [.d (.opq (.pointer none)), .d .nilsl]
def bCel (d : Nat) : Res := .cells 98 [.ptr 1000001 0, .buf d]
theorem zCopyU (e k n : Nat) (g : Nat → List DV) : FSpec Tryz.prog 151 [.ptr 1000001 0] [(1000001, bCel 1000002), (1000002, .buf e k n g)] (fun x r => x = .tup [] ∧ r = [(1000001, bCel 1000002), (1000002, .buf e k n g)]) := by
 refine FSpec.same Tryz.call151 (fun G β w vs hpre hvl hd => ?_)
 match vs, hvl with
 | [u], _ =>
   have h0 := hd 0 _ u rfl rfl
   cases h0 with | ptr _ _ b hb =>
   obtain ⟨b', cs, hb', hh, hlen, hden⟩ := hpre.rs 1000001 (bCel 1000002) (by simp [lookL])
   rw [hb] at hb'; cases hb'
   match cs, hlen with
   | [c0, c1], _ =>
     have q := hden 0 _ c0 rfl rfl
     cases q with | ptr _ _ b2 hb2 =>
     rw [hb] at hb2; cases hb2
     have hcon := Any.Builder_copyCheck_used lays240 ext156.toX72 b w (by simp [World.cell?, hh])
     have e : Tryz.lays156_ren.f 240 = 151 := rfl
     rw [e] at hcon
     exact ⟨.tuple #[], .tup [] [] rfl (by simp), hcon⟩
theorem zCopyN : FSpec Tryz.prog 151 [.ptr 1000001 0] [(1000001, bNew)] (fun x r => x = .tup [] ∧ r = [(1000001, .cells 98 [.ptr 1000001 0, .d .nilsl])]) := by
 refine ⟨Tryz.call151, fun G β w vs hpre hvl hd => ?_⟩
 match vs, hvl with
 | [u], _ =>
   have h0 := hd 0 _ u rfl rfl
   cases h0 with | ptr _ _ b hb =>
   have hR : lookL [((1000001 : Nat), bNew)] 1000001 = some bNew := by simp [lookL]
   have one : ∀ {r0 : Res} d r, lookL [((1000001 : Nat), r0)] d = some r → d = 1000001 ∧ r = r0 := by
    intro r0 d r hr
    simp only [lookL] at hr
    cases hq : Nat.beq d 1000001 with
    | false => rw [hq] at hr; cases hr
    | true => rw [hq] at hr; cases hr; exact ⟨Nat.eq_of_beq_eq_true hq, rfl⟩
   obtain ⟨b', cs, hb', hh, hlen, hden⟩ := hpre.rs 1000001 bNew hR
   rw [hb] at hb'; cases hb'
   match cs, hlen with
   | [c0, c1], _ =>
     have q0 := hden 0 _ c0 rfl rfl
     have q1 := hden 1 _ c1 rfl rfl
     cases q0 with | d _ _ q0 => cases q0 with | opq _ _ =>
     cases q1 with | d _ _ q1 => cases q1 with | nilsl =>
     have hcon := Any.Builder_copyCheck_fresh lays240 ext156.toX72 b w (by simp [World.cell?, hh]) (by simp [World.shape?, hh]; rfl) (by simp [World.frozen?, hh])
     have e : Tryz.lays156_ren.f 240 = 151 := rfl
     rw [e] at hcon
     refine hcon.mono ?_
     rintro e' w' ⟨rfl, rfl⟩
     have hTin : Tin w β (lookL [((1000001 : Nat), bNew)]) b := ⟨1000001, _, _, hR, rfl, hb, .of rfl⟩
     have hGb : G b = none := hpre.og _ _ _ b hR rfl hb (.of rfl)
     have hother : ∀ k, k ≠ b → (w.setCell ⟨b, 0, none⟩ (.pointer (some ⟨b, 0, none⟩))).heap[k]? = w.heap[k]? := fun k hk => Below.heap_setCell w ⟨b, 0, none⟩ _ k hk
     have hnew : (w.setCell ⟨b, 0, none⟩ (.pointer (some ⟨b, 0, none⟩))).heap[b]? = some (.cells #[.pointer (some ⟨b, 0, none⟩), .slice none 0 0] 98 (0, 0)) := by
      simp [World.setCell, Array.getElem?_modify, hh]
     refine ⟨_, .tup [], _, G, β, rfl, ⟨rfl, rfl⟩, ⟨Hp.le_refl G, Env.le_refl β, fun k o hk => ?_, fun k o hk => .inl hk, ⟨rfl, rfl, rfl, by simp [World.setCell], fun k _ hT => hother k (fun q => by subst q; exact hT hTin)⟩, fun d r hr => ?_, fun d d' r r' _ _ _ e1 e2 _ _ _ _ _ _ => ?_, fun d r u k e1 _ hu hbk => ?_⟩, .tup [] [] rfl (by simp)⟩
     · rw [hother k (fun q => by subst q; rw [hGb] at hk; cases hk)]; exact hpre.gw k o hk
     · obtain ⟨rfl, rfl⟩ := one d r hr
       refine ⟨b, [.pointer (some ⟨b, 0, none⟩), .slice none 0 0], hb, by simpa using hnew, rfl, fun i x v hx hv => ?_⟩
       match i, hx, hv with
       | 0, hx, hv => simp at hx hv; subst hx; subst hv; exact .ptr _ _ _ hb
       | 1, hx, hv => simp at hx hv; subst hx; subst hv; exact .d _ _ .nilsl
     · rw [(one d r e1).1, (one d' r' e2).1]
     · obtain ⟨rfl, rfl⟩ := one d r e1
       rw [hb] at hu; cases hu
       cases hbk.plain rfl
       exact ⟨hGb, .inl hTin⟩
end Go.Proofs.YtgeakdcbpjmkbaaGreatDoor
set_option maxRecDepth 20000
namespace Go.Proofs.YtgeakdcbpjmkbaaGreatDoor
open Go Go.Eng Go.Shelf Go.RowKit
def bytB (bs : List UInt8) : Res := .buf 5 1 bs.length fun i => byteR (bs.getD i 0)
theorem le_bytApp {bs s : List UInt8} : Res.le (.buf 5 1 (bs.length + s.length) (appGet bs.length (fun i => byteR (bs.getD i 0)) fun i => byteR (s.getD i 0))) (bytB (bs ++ s)) := by
 refine Res.le_buf (by simp) (fun i hi => ?_)
 rcases Nat.lt_or_ge i bs.length with q | q
 · rw [appGet_lt q]; simp [List.getD_eq_getElem?_getD, List.getElem?_append_left q]
 · rw [appGet_ge q]; simp [List.getD_eq_getElem?_getD, List.getElem?_append_right q]
theorem le_bytNew {s : List UInt8} : Res.le (.buf 5 1 (0 + s.length) fun i => byteR (s.getD i 0)) (bytB s) := Res.le_buf (by simp) (fun i hi => rfl)
theorem zStrN : FSpec Tryz.prog 68 [.ptr 1000001 0] [(1000001, bNew)] (fun x r => x = .d (.str []) ∧ r = []) := by
 refine ⟨Tryz.call68, fun G β w vs hpre hvl hd => ?_⟩
 match vs, hvl with
 | [u], _ =>
   have h0 := hd 0 _ u rfl rfl
   cases h0 with | ptr _ _ b hb =>
   obtain ⟨b', cs, hb', hh, hlen, hden⟩ := hpre.rs 1000001 bNew (by simp [lookL])
   rw [hb] at hb'; cases hb'
   match cs, hlen with
   | [c0, c1], _ =>
     have q0 := hden 0 _ c0 rfl rfl
     have q1 := hden 1 _ c1 rfl rfl
     cases q0 with | d _ _ q0 => cases q0 with | opq _ _ =>
     cases q1 with | d _ _ q1 => cases q1 with | nilsl =>
     have hcon := Any.Builder_String_nil Tryz.lays169 ext169 w.heap.size b (.pointer none) w (show w.heap[b]? = some (.cells #[.pointer none, .slice none 0 0] 98 (0, 0)) from by simpa using hh)
     have e : Tryz.lays169_ren.f 169 = 68 := rfl
     rw [e] at hcon
     refine hcon.mono ?_
     rintro e' w' ⟨rfl, hb2⟩
     refine ⟨_, .d (.str []), [], G, β, rfl, ⟨rfl, rfl⟩, ⟨Hp.le_refl G, Env.le_refl β, fun k o hk => ?_, fun k o hk => .inl hk, ⟨hb2.os, hb2.tape, hb2.output, hb2.size, fun k hk _ => hb2.block k hk⟩, fun d r hr => (by cases hr), fun d d' r r' _ _ _ e1 => (by cases e1), fun d r u k e1 => (by cases e1)⟩, .d _ _ (.str [])⟩
     have := hpre.gw k o hk
     rw [hb2.block k (Array.getElem?_eq_some_iff.1 this).1]; exact this
theorem zStrB (bs : List UInt8) (A : SV) : FSpec Tryz.prog 68 [.ptr 1000001 0] [(1000001, .cells 98 [A, .buf 1000002]), (1000002, bytB bs)] (fun x r => x = .d (.str bs) ∧ r = []) := by
 refine ⟨Tryz.call68, fun G β w vs hpre hvl hd => ?_⟩
 match vs, hvl with
 | [u], _ =>
   have h0 := hd 0 _ u rfl rfl
   cases h0 with | ptr _ _ b hb =>
   obtain ⟨b', cs, hb', hh, hlen, hden⟩ := hpre.rs 1000001 (.cells 98 [A, .buf 1000002]) (by simp [lookL])
   rw [hb] at hb'; cases hb'
   have hR2 : lookL [((1000001 : Nat), Res.cells 98 [A, .buf 1000002]), (1000002, bytB bs)] 1000002 = some (bytB bs) := rfl
   obtain ⟨v, xs, hv, hown, _, _, hrow⟩ := hpre.rs 1000002 _ hR2
   match cs, hlen with
   | [c0, c1], _ =>
     have q1 := hden 1 _ c1 rfl rfl
     cases q1 with | buf _ _ hb1 _ =>
     rw [hv] at hb1; cases hb1
     have hh : w.heap[b]? = some (.cells #[c0, v] 98 (0, 0)) := by simpa using hh
     have e : Tryz.lays169_ren.f 169 = 68 := rfl
     have fin : ∀ (row : Option Nat), (∀ k, row = some k → blk v = some k) → (Calls Tryz.prog 68 #[.pointer (some ⟨b, 0, none⟩)] w fun e w' => e = .returned (.string ⟨bs.toArray⟩) ∧ w.grownBy w' row) →
      Calls Tryz.prog 68 #[.pointer (some ⟨b, 0, none⟩)] w fun e w' => ∃ v' x rout G' β', e = .returned v' ∧ (x = .d (.str bs) ∧ rout = []) ∧ Out G β w (lookL [(1000001, .cells 98 [A, .buf 1000002]), (1000002, bytB bs)]) G' β' w' (lookL rout) ∧ SV.Den G' β' x v' := by
      intro row hrow' hc
      refine hc.mono ?_
      rintro e' w' ⟨rfl, hgb⟩
      refine ⟨_, .d (.str bs), [], G, β, rfl, ⟨rfl, rfl⟩, ⟨Hp.le_refl G, Env.le_refl β, fun k o hk => ?_, fun k o hk => .inl hk, ⟨hgb.os, hgb.tape, hgb.output, hgb.size, fun k hk hT => ?_⟩, fun d r hr => (by cases hr), fun d d' r r' _ _ _ e1 => (by cases e1), fun d r u k e1 => (by cases e1)⟩, .d _ _ (.str bs)⟩
      · have := hpre.gw k o hk
        rw [hgb.block k (Array.getElem?_eq_some_iff.1 this).1 (fun q => by have := hpre.og 1000002 _ v k hR2 rfl hv (.of (hrow' k q.symm)); rw [hk] at this; cases this)]; exact this
      · exact hgb.block k hk (fun q => hT ⟨1000002, _, _, hR2, rfl, hv, .of (hrow' k q.symm)⟩)
     have fromB : (Calls Tryz.prog 68 #[.pointer (some ⟨b, 0, none⟩)] w fun e w' => e = .returned (.string ⟨bs.toArray⟩) ∧ Below w.heap.size w w') → Calls Tryz.prog 68 #[.pointer (some ⟨b, 0, none⟩)] w fun e w' => e = .returned (.string ⟨bs.toArray⟩) ∧ w.grownBy w' none :=
      fun hc => hc.mono fun e w' ⟨h1, h2⟩ => ⟨h1, ⟨h2.os, h2.tape, h2.output, h2.size, fun k hk _ => h2.block k hk⟩⟩
     rcases hown.2 with ⟨rfl, hz⟩ | ⟨g, cap, cur, rfl, hbg, hg, hnc, hcm, hcs, htake⟩
     · have : bs = [] := List.eq_nil_of_length_eq_zero hz
       subst this
       have hcon := Any.Builder_String_nil Tryz.lays169 ext169 w.heap.size b c0 w hh
       rw [e] at hcon
       exact fin none (by simp) (fromB hcon)
     · by_cases hb0 : bs = []
       · subst hb0
         by_cases hc0 : cap = 0
         · subst hc0
           have hcon := Any.Builder_String_noroom Tryz.lays169 ext169 w.heap.size b g c0 cur w (Nat.le_refl _) hh hg
           rw [e] at hcon
           exact fin none (by simp) (fromB hcon)
         · have hcon := Any.Builder_String_room Tryz.lays169 ext169 w.heap.size b g cap c0 w hc0 hh
           rw [e] at hcon
           exact fin none (by simp) (fromB hcon)
       · have hcells := hown.cells (g := g) rfl
         have hcon := bldString Tryz.lays169 ext169 b g cap c0 cur bs w hb0 hh hg hnc hcm hcs (fun j x hx => by
          have hj : j < bs.length := (List.getElem?_eq_some_iff.1 hx).1
          obtain ⟨u, hu, hud⟩ := hrow j 0 (.int .u8 ((bs.getD j 0).toNat : Int)) hj rfl
          cases hud with | int =>
          rw [Nat.mul_one, Nat.add_zero] at hu
          have := hcells j _ hu
          have hx' : bs.getD j 0 = x := by simp [List.getD_eq_getElem?_getD, hx]
          rw [hx'] at this
          exact this)
         rw [e] at hcon
         exact fin (some g) (fun k hk => by cases hk; rfl) hcon
theorem zWrN (s : List UInt8) (hs : s.length ≤ 2^36) : FSpec Tryz.prog 65 [.ptr 1000001 0, .d (.str s)] [(1000001, bNew)] (fun x r => x = .tup [.d (.int .i64 s.length), .d (.opq .nilIface)] ∧ r = [(1000001, bCel 14), (14, bytB s)]) := by
 refine spec_of hT (C := []) Tryz.func65 rfl Tryz.call65 rfl rfl rfl ?_
 conv => whnf
 repeat' (first | (refine CallX.of zCopyN [(1000001, 1000001)] rfl ⟨lr, trivial⟩ ⟨rr, trivial⟩ rfl rfl ?_; rintro x rout ⟨rfl, rfl⟩; refine ⟨rfl, ?_⟩; conv => whnf) | (refine br_intro ?_ ?_ <;> intro hb <;> (try simp only [brs] at hb) <;> conv => whnf) | omega | (refine And.intro ?_ ?_; ((try dsimp only); first | omega | (refine szA rfl ?_; omega) | (refine szB rfl ?_; omega) | (unfold inI64; omega) | exact rfl | (simp only [List.toList_toArray, List.length_cons, List.length_nil]; omega) | (simp only [lns] at *; omega) | decide | (unfold inI64; decide)); conv => whnf) | decide | assumption)
 refine .ret _ ?_
 conv => whnf
 refine ⟨[(1000001, bCel 14), (14, bytB s)], ⟨congrArg SV.tup ?_, rfl⟩, rr, le_bytNew, trivial⟩
 repeat' (refine cons_eq ?_ ?_)
 all_goals (conv => lhs; whnf)
theorem zWrB (bs s : List UInt8) (hs : bs.length + s.length ≤ 2^36) : FSpec Tryz.prog 65 [.ptr 1000001 0, .d (.str s)] [(1000001, bCel 1000002), (1000002, bytB bs)] (fun x r => x = .tup [.d (.int .i64 s.length), .d (.opq .nilIface)] ∧ r = [(1000001, bCel 14), (14, bytB (bs ++ s))]) := by
 refine spec_of hT (C := []) Tryz.func65 rfl Tryz.call65 rfl rfl rfl ?_
 conv => whnf
 repeat' (first | (refine CallX.of (zCopyU 5 1 bs.length fun i => byteR (bs.getD i 0)) [(1000001, 1000001), (1000002, 1000002)] rfl ⟨lr, trivial⟩ ⟨rr, rr, trivial⟩ rfl rfl ?_; rintro x rout ⟨rfl, rfl⟩; refine ⟨rfl, ?_⟩; conv => whnf) | (refine br_intro ?_ ?_ <;> intro hb <;> (try simp only [brs] at hb) <;> conv => whnf) | omega | (refine And.intro ?_ ?_; ((try dsimp only); first | omega | (refine szA rfl ?_; omega) | (refine szB rfl ?_; omega) | (unfold inI64; omega) | exact rfl | (simp only [List.toList_toArray, List.length_cons, List.length_nil]; omega) | (simp only [lns] at *; omega) | decide | (unfold inI64; decide)); conv => whnf) | decide | assumption)
 refine .ret _ ?_
 conv => whnf
 refine ⟨[(1000001, bCel 14), (14, bytB (bs ++ s))], ⟨congrArg SV.tup ?_, rfl⟩, rr, le_bytApp, trivial⟩
 repeat' (refine cons_eq ?_ ?_)
 all_goals (conv => lhs; whnf)
abbrev Part := Int ⊕ List UInt8
def partF : Part → List DV
 | .inl n => [.ifc 3 (.int .i64 n)]
 | .inr s => [.ifc 9 (.str s)]
def partS : Part → List UInt8
 | .inl n => Lib.itoa n
 | .inr s => s
def part0 : Part := .inr []
def partOk (p : Part) : Prop := match p with | .inl n => -9223372036854775808 ≤ n ∧ n ≤ 9223372036854775807 | .inr _ => True
theorem zWJoin (l : List Part) (hl : l.length ≤ 2^20) (hk : ∀ p ∈ l, partOk p) (hj : (Lib.join (l.map partS) [32]).length ≤ 2^40) : FSpec Tryz.prog 66 [.d (seqD 1 partF part0 l)] kx (fun x r => x = .d (.str (Lib.join (l.map partS) [32])) ∧ r = kx) := by
 refine spec_of hT (C := []) Tryz.func66 rfl Tryz.call66 rfl rfl rfl ?_
 conv => whnf
 refine LoopX.rule hT (C := []) (ι := Nat) (fun i => i ≤ l.length) (fun i => mkSt [(3, .buf 3), (8, .d (seqD 1 partF part0 l)), (9, .d (.int .i64 l.length)), (10, .d (.int .i64 i))] [(1000009, KX), (3, seqB 9 1 sF [] ((l.take i).map partS))]) (fun i => l.length - i) 0 (by simp) ?_ ?_
 · exact (Entails.nil 3 3 9 1 (rowF sF [] []) rfl rfl (by decide)).trans (by (refine Entails.mk' [(1000009, 1000009), (3, 3)] rfl rfl ?_ ?_ <;> repeat' (first | exact True.intro | exact lr | exact rr | exact SV.le_int (by omega) | exact SV.le_any _ | refine And.intro ?_ ?_)); done)
 intro i hi
 conv => whnf
 repeat' (first | (refine br_intro ?_ ?_ <;> intro hb <;> (try simp only [brs] at hb) <;> conv => whnf) | omega | (refine And.intro ?_ ?_; ((try dsimp only); first | omega | (refine szA rfl ?_; omega) | (refine szB rfl ?_; omega) | (unfold inI64; omega) | exact rfl | (simp only [List.toList_toArray, List.length_cons, List.length_nil]; omega) | (simp only [lns] at *; omega) | decide | (unfold inI64; decide)); conv => whnf) | decide | assumption)
 · have hlt : i < l.length := by simpa using hb
   have hln : ((l.take i).map partS).length = i := by simp; omega
   have hsn : (l.take (i + 1)).map partS = (l.take i).map partS ++ [partS (l.getD i part0)] := by
    have : l.take (i + 1) = l.take i ++ [l.getD i part0] := by rw [List.take_add_one]; simp [List.getD_eq_getElem?_getD, hlt]
    rw [this, List.map_append]; rfl
   have hpk := hk _ (getD_mem (x := part0) hlt)
   have hpf : rowF partF part0 l (i : Int).toNat = partF (l.getD i part0) := rfl
   cases hp : l.getD i part0 with
   | inl n =>
     rw [hp] at hpk hsn
     rw [hpf, hp]
     conv => whnf
     repeat' (first | (refine CallX.kn (zItoa n hpk.1 hpk.2) rfl rfl rfl rfl ?_; conv => whnf) | (refine br_intro ?_ ?_ <;> intro hb <;> (try simp only [brs] at hb) <;> conv => whnf) | omega | (refine And.intro ?_ ?_; ((try dsimp only); first | omega | (refine szA rfl ?_; omega) | (refine szB rfl ?_; omega) | (unfold inI64; omega) | exact rfl | (simp only [List.toList_toArray, List.length_cons, List.length_nil]; omega) | (simp only [lns] at *; omega) | decide | (unfold inI64; decide)); conv => whnf) | decide | assumption)
     refine ⟨i + 1, by omega, by omega, ?_⟩
     rw [hsn]
     exact (by (refine Entails.mk' [(1000009, 1000009), (3, 22)] rfl rfl ?_ ?_ <;> repeat' (first | exact True.intro | exact lr | exact rr | (exact Res.le_snocF rfl) | exact SV.le_int (by omega) | exact SV.le_any _ | refine And.intro ?_ ?_)); done)
   | inr s =>
     rw [hp] at hsn
     rw [hpf, hp]
     conv => whnf
     repeat' (first | (refine br_intro ?_ ?_ <;> intro hb <;> (try simp only [brs] at hb) <;> conv => whnf) | omega | (refine And.intro ?_ ?_; ((try dsimp only); first | omega | (refine szA rfl ?_; omega) | (refine szB rfl ?_; omega) | (unfold inI64; omega) | exact rfl | (simp only [List.toList_toArray, List.length_cons, List.length_nil]; omega) | (simp only [lns] at *; omega) | decide | (unfold inI64; decide)); conv => whnf) | decide | assumption)
     refine ⟨i + 1, by omega, by omega, ?_⟩
     rw [hsn]
     exact (by (refine Entails.mk' [(1000009, 1000009), (3, 29)] rfl rfl ?_ ?_ <;> repeat' (first | exact True.intro | exact lr | exact rr | (exact Res.le_snocF rfl) | exact SV.le_int (by omega) | exact SV.le_any _ | refine And.intro ?_ ?_)); done)
 · have hi2 : i = l.length := by omega
   subst hi2
   rw [List.take_length]
   refine CallX.freeze _ _ _ _ 3 9 1 _ _ rfl rfl ?_
   conv => whnf
   repeat' (first | (refine CallX.exact (zJoin (l.map partS) [32] hj (by simp; omega)) rfl rfl ?_; rotate_right; conv => whnf) | (refine br_intro ?_ ?_ <;> intro hb <;> (try simp only [brs] at hb) <;> conv => whnf) | omega | (refine And.intro ?_ ?_; ((try dsimp only); first | omega | (refine szA rfl ?_; omega) | (refine szB rfl ?_; omega) | (unfold inI64; omega) | exact rfl | (simp only [List.toList_toArray, List.length_cons, List.length_nil]; omega) | (simp only [lns] at *; omega) | decide | (unfold inI64; decide)); conv => whnf) | decide | assumption)
   refine .ret _ ?_
   conv => whnf
   refine ⟨kx, ⟨?_, rfl⟩, rr, trivial⟩
   conv => lhs; whnf
def isAtoi (s : List UInt8) : Bool := match Lib.atoiAll s with | .ok n => Lib.itoa n == s | _ => false
def numN (s : List UInt8) : Int := match Lib.atoiAll s with | .ok n => n | .range => Lib.atoiSat s | _ => 0
def numOk (s : List UInt8) : Bool := isAtoi s && decide ((Lib.trimPrefix s [45]).length ≤ 9)
def digs : List UInt8 := [48, 49, 50, 51, 52, 53, 54, 55, 56, 57]
theorem digit_mem (u : Nat) (h : u < 10) : digs.contains (UInt8.ofNat (48 + u)) = true := by
 have : ∀ u, u < 10 → digs.contains (UInt8.ofNat (48 + u)) = true := by decide
 exact this u h
theorem dec_digits : ∀ (n u : Nat), u < n → Lib.decDigits u ≠ [] ∧ ∀ b ∈ Lib.decDigits u, digs.contains b = true := by
 intro n
 induction n with
 | zero => intro u h; omega
 | succ n ih =>
   intro u hu
   rw [Lib.decDigits]
   split
   · rename_i h
     exact ⟨by simp, fun b hb => by rw [List.mem_singleton] at hb; subst hb; exact digit_mem u h⟩
   · rename_i h
     refine ⟨by simp, fun b hb => ?_⟩
     rcases List.mem_append.1 hb with q | q
     · exact (ih (u / 10) (by omega)).2 b q
     · rw [List.mem_singleton] at q; subst q; exact digit_mem _ (Nat.mod_lt _ (by decide))
theorem trim_itoa (n : Int) : Lib.trimPrefix (Lib.itoa n) [45] = Lib.decDigits n.natAbs := by
 unfold Lib.itoa
 split
 · rename_i h
   simp [Lib.trimPrefix, Lib.hasPrefix]
 · rename_i h
   have hn : n.toNat = n.natAbs := by omega
   rw [hn]
   obtain ⟨h1, h2⟩ := dec_digits (n.natAbs + 1) n.natAbs (by omega)
   cases hd : Lib.decDigits n.natAbs with
   | nil => exact absurd hd h1
   | cons b r =>
     have hb := h2 b (by rw [hd]; exact List.mem_cons_self)
     have hne : b ≠ 45 := fun e => by subst e; revert hb; decide
     have hne' : ¬ 45 = b := fun e => hne e.symm
     simp [Lib.trimPrefix, Lib.hasPrefix, hne']
def lnsF {α : Type} (tk : List UInt8 → α → Bool × α) : Nat → Nat → List UInt8 → α → (Nat × Bool) × α
 | 0, at', _, a => ((at', false), a)
 | n + 1, at', t, a => if t = [] then ((0, true), a) else
    if (Lib.cut t [10]).2.2 = false then ((at', false), a) else
    if (tk (Lib.cut t [10]).1 a).1 = false then ((at', false), (tk (Lib.cut t [10]).1 a).2) else lnsF tk n (at' + 1) (Lib.cut t [10]).2.1 (tk (Lib.cut t [10]).1 a).2
theorem cut_len {t : List UInt8} (h : (Lib.cut t [10]).2.2 = true) : (Lib.cut t [10]).1.length + (Lib.cut t [10]).2.1.length + 1 = t.length := by
 have hge := Lib.index_ge t [10]
 unfold Lib.cut at h ⊢
 split at h
 · rename_i h0
   rw [if_pos h0]
   have hr := Lib.index_room t [10] h0
   simp only [List.length_take, List.length_drop, List.length_singleton] at hr ⊢
   omega
 · cases h
theorem cut_le (t : List UInt8) : (Lib.cut t [10]).1.length ≤ t.length := by
 unfold Lib.cut
 split
 · simp; omega
 · simp
theorem lxF_pos {p : Nat → Bool} {n k : Nat} (hk : k < n) (h : p k = true) : 0 ≤ ixF p n := by
 have hb := ixF_bd (p := p) (n := n)
 rcases Int.lt_or_le (ixF p n) 0 with q | q
 · exfalso
   have hn : ∀ m, ixF p m < 0 → ∀ j, j < m → p j = false := by
    intro m
    induction m with
    | zero => intro _ j hj; omega
    | succ m ih =>
      intro hm j hj
      rw [ixF] at hm
      split at hm
      · rename_i hz
        by_cases hjm : j = m
        · subst hjm
          split at hm
          · omega
          · rename_i hf; simpa using hf
        · exact ih (by omega) j (by omega)
      · rename_i hz; have := (ixF_bd (p := p) (n := m)).1; omega
   rw [hn n q k hk] at h
   cases h
 · exact q
theorem ix_mem (l : List (List UInt8)) (v : List UInt8) : decide (0 ≤ ixF (fun i => l.getD i [] == v) l.length) = decide (v ∈ l) := by
 rw [decide_eq_decide]
 constructor
 · intro h
   have := ixF_bd (p := fun i => l.getD i [] == v) (n := l.length)
   rw [← eq_of_beq (this.2.2 h)]
   exact getD_mem (by omega)
 · intro h
   obtain ⟨j, hj, rfl⟩ := mem_getD (d := []) h
   exact lxF_pos hj (by simp)
theorem lz143 (l : List (List UInt8)) (hl : l.length ≤ 2^40) (v : List UInt8) : FSpec Tryz.prog 143 [.d (strs l), .d (.str v)] [] (fun x r => x = .d (.int .i64 (ixF (fun i => l.getD i [] == v) l.length)) ∧ r = []) := by
 refine spec_of hT (C := []) Tryz.func143 rfl Tryz.call143 rfl rfl rfl ?_
 conv => whnf
 refine LoopX.rule hT (C := []) (ι := Nat) (fun i => i ≤ l.length ∧ ∀ j, j < i → (l.getD j [] == v) = false) (fun i => mkSt [(0, .d (strs l)), (1, .d (.str v)), (7, .d (.int .i64 l.length)), (8, .d (.int .i64 i))] []) (fun i => l.length - i) 0 ⟨by simp, fun j hj => absurd hj (Nat.not_lt_zero j)⟩ (by (refine Entails.mk' [] rfl rfl ?_ ?_ <;> repeat' (first | exact True.intro | exact lr | exact rr | exact SV.le_int (by omega) | exact SV.le_any _ | refine And.intro ?_ ?_)); done) ?_
 rintro i ⟨p1, p2⟩
 have e1 : (i : Int).toNat = i := Int.toNat_natCast i
 conv => whnf
 repeat' (first | (refine br_intro ?_ ?_ <;> intro hb <;> (try simp only [brs] at hb) <;> conv => whnf) | omega | (refine And.intro ?_ ?_; ((try dsimp only); first | omega | (refine szA rfl ?_; omega) | (refine szB rfl ?_; omega) | (unfold inI64; omega) | exact rfl | (simp only [List.toList_toArray, List.length_cons, List.length_nil]; omega) | (simp only [lns] at *; omega) | decide | (unfold inI64; decide)); conv => whnf) | decide | assumption)
 · refine .ret _ ?_
   conv => whnf
   refine ⟨[], ⟨?_, rfl⟩, trivial⟩
   conv => lhs; whnf
   congr 2
   exact (ixF_hit (by omega) p2 (by rw [← hb]; simp)).symm
 · exact ⟨i + 1, ⟨by omega, all_step p2 (beq_eq_false_iff_ne.2 fun q => hb q.symm)⟩, by omega, (by (refine Entails.mk' [] rfl rfl ?_ ?_ <;> repeat' (first | exact True.intro | exact lr | exact rr | exact SV.le_int (by omega) | exact SV.le_any _ | refine And.intro ?_ ?_)); done)⟩
 · refine .ret _ ?_
   conv => whnf
   refine ⟨[], ⟨?_, rfl⟩, trivial⟩
   conv => lhs; whnf
   congr 2
   have : i = l.length := by omega
   subst this
   exact (ixF_none p2).symm
theorem lz78 (l : List (List UInt8)) (hl : l.length ≤ 2^40) (v : List UInt8) : FSpec Tryz.prog 78 [.d (strs l), .d (.str v)] [] (fun x r => x = .d (.bool (decide (v ∈ l))) ∧ r = []) := by
 refine spec_of hT (C := []) Tryz.func78 rfl Tryz.call78 rfl rfl rfl ?_
 conv => whnf
 repeat' (first | (refine CallX.exact (lz143 l hl v) rfl rfl ?_; rotate_right; conv => whnf) | (refine br_intro ?_ ?_ <;> intro hb <;> (try simp only [brs] at hb) <;> conv => whnf) | omega | (refine And.intro ?_ ?_; ((try dsimp only); first | omega | (refine szA rfl ?_; omega) | (refine szB rfl ?_; omega) | (unfold inI64; omega) | exact rfl | (simp only [List.toList_toArray, List.length_cons, List.length_nil]; omega) | (simp only [lns] at *; omega) | decide | (unfold inI64; decide)); conv => whnf) | decide | assumption)
 refine .ret _ ?_
 conv => whnf
 refine ⟨[], ⟨?_, rfl⟩, trivial⟩
 conv => lhs; whnf
 rw [← ix_mem]
theorem atoi_bd {s : List UInt8} {v : Int} (h : Lib.atoiAll s = .ok v) : -9223372036854775808 ≤ v ∧ v ≤ 9223372036854775807 := by
 unfold Lib.atoiAll at h
 split at h
 · cases h
 · simp only at h
   split at h
   · cases h
   · cases h
   · split at h
     · cases h
     · split at h
       · cases h
       · cases h
         rename_i h1 h2
         split
         · rename_i hq
           simp [hq] at h2
           omega
         · rename_i hq
           simp [hq] at h1
           omega
theorem lz129 (s : List UInt8) (hs : s.length ≤ 2^40) : FSpec Tryz.prog 129 [.d (.str s)] kx (fun x r => x = .tup [.d (.int .i64 (numN s)), .d (.bool (numOk s))] ∧ r = kx) := by
 refine spec_of hT (C := []) Tryz.func129 rfl Tryz.call129 rfl rfl rfl ?_
 conv => whnf
 refine CallX.of (zAtoi s hs) [(1000009, 1000009)] rfl ⟨lr, trivial⟩ ⟨rr, trivial⟩ rfl rfl ?_
 rintro x rout ⟨hx, rfl⟩
 unfold atoiX at hx
 cases hA : Lib.atoiAll s with
 | ok v =>
   rw [hA] at hx
   simp only at hx
   subst hx
   obtain ⟨hv0, hv1⟩ := atoi_bd hA
   refine ⟨rfl, ?_⟩
   conv => whnf
   repeat' (first | (refine CallX.exact (zTrimP s [45]) rfl rfl ?_; rotate_right; conv => whnf) | (refine CallX.kn (zItoa v hv0 hv1) rfl rfl rfl rfl ?_; conv => whnf) | (refine br_intro ?_ ?_ <;> intro hb <;> (try simp only [brs] at hb) <;> conv => whnf) | omega | (refine And.intro ?_ ?_; ((try dsimp only); first | omega | (refine szA rfl ?_; omega) | (refine szB rfl ?_; omega) | (unfold inI64; omega) | exact rfl | (simp only [List.toList_toArray, List.length_cons, List.length_nil]; omega) | (simp only [lns] at *; omega) | decide | (unfold inI64; decide)); conv => whnf) | decide | assumption)
   · refine .ret _ ?_
     conv => whnf
     refine ⟨kx, ⟨congrArg SV.tup ?_, rfl⟩, rr, trivial⟩
     repeat' (refine cons_eq ?_ ?_)
     all_goals (conv => lhs; whnf)
     all_goals try (with_reducible rfl)
     · unfold numN; rw [hA]
     · unfold numOk isAtoi; rw [hA]; simp [hb]; omega
   · refine .ret _ ?_
     conv => whnf
     refine ⟨kx, ⟨congrArg SV.tup ?_, rfl⟩, rr, trivial⟩
     repeat' (refine cons_eq ?_ ?_)
     all_goals (conv => lhs; whnf)
     all_goals try (with_reducible rfl)
     · unfold numN; rw [hA]
     · unfold numOk isAtoi; rw [hA]; simp [hb]
 | range =>
   rw [hA] at hx
   simp only at hx
   obtain ⟨t, p, rfl⟩ := hx
   refine ⟨rfl, ?_⟩
   conv => whnf
   repeat' (first | (refine br_intro ?_ ?_ <;> intro hb <;> (try simp only [brs] at hb) <;> conv => whnf) | omega | (refine And.intro ?_ ?_; ((try dsimp only); first | omega | (refine szA rfl ?_; omega) | (refine szB rfl ?_; omega) | (unfold inI64; omega) | exact rfl | (simp only [List.toList_toArray, List.length_cons, List.length_nil]; omega) | (simp only [lns] at *; omega) | decide | (unfold inI64; decide)); conv => whnf) | decide | assumption)
   refine .ret _ ?_
   conv => whnf
   refine ⟨kx, ⟨congrArg SV.tup ?_, rfl⟩, rr, trivial⟩
   repeat' (refine cons_eq ?_ ?_)
   all_goals (conv => lhs; whnf)
   all_goals try (with_reducible rfl)
   · unfold numN; rw [hA]
   · unfold numOk isAtoi; rw [hA]; rfl
 | _ =>
   rw [hA] at hx
   simp only at hx
   obtain ⟨t, p, rfl⟩ := hx
   refine ⟨rfl, ?_⟩
   conv => whnf
   repeat' (first | (refine br_intro ?_ ?_ <;> intro hb <;> (try simp only [brs] at hb) <;> conv => whnf) | omega | (refine And.intro ?_ ?_; ((try dsimp only); first | omega | (refine szA rfl ?_; omega) | (refine szB rfl ?_; omega) | (unfold inI64; omega) | exact rfl | (simp only [List.toList_toArray, List.length_cons, List.length_nil]; omega) | (simp only [lns] at *; omega) | decide | (unfold inI64; decide)); conv => whnf) | decide | assumption)
   refine .ret _ ?_
   conv => whnf
   refine ⟨kx, ⟨congrArg SV.tup ?_, rfl⟩, rr, trivial⟩
   repeat' (refine cons_eq ?_ ?_)
   all_goals (conv => lhs; whnf)
   all_goals try (with_reducible rfl)
   · unfold numN; rw [hA]
   · unfold numOk isAtoi; rw [hA]; rfl
theorem split_len (s p : List UInt8) (hp : p ≠ []) : (Lib.split s p).length ≤ s.length + 1 := by
 have key : ∀ (n : Nat) (s : List UInt8), s.length ≤ n → ∀ k, (Lib.splitK p 0 k s).length ≤ s.length + 1 := by
  intro n
  induction n with
  | zero =>
    intro s hs k
    cases k with
    | zero => simp [Lib.splitK]
    | succ k =>
      unfold Lib.splitK
      split
      · simp
      · rename_i h
        have := Lib.drop_shorter hp h
        omega
  | succ n ih =>
    intro s hs k
    cases k with
    | zero => simp [Lib.splitK]
    | succ k =>
      unfold Lib.splitK
      split
      · simp
      · rename_i h
        have h1 := Lib.drop_shorter hp h
        have h2 := ih (s.drop ((Lib.index s p).toNat + p.length)) (by omega) k
        simp only [List.length_cons]
        omega
 exact key s.length s (Nat.le_refl _) _
theorem split_mem {s p : List UInt8} {x : List UInt8} (h : x ∈ Lib.split s p) : x.length ≤ s.length := by
 have key : ∀ (k : Nat) (s : List UInt8), ∀ x ∈ Lib.splitK p 0 k s, x.length ≤ s.length := by
  intro k
  induction k with
  | zero => intro s x hx; simp [Lib.splitK] at hx; subst hx; exact Nat.le_refl _
  | succ k ih =>
    intro s x hx
    unfold Lib.splitK at hx
    split at hx
    · simp at hx; subst hx; exact Nat.le_refl _
    · rcases List.mem_cons.1 hx with q | q
      · subst q; simp; omega
      · have := ih _ x q; simp at this; omega
 exact key _ s x h
def wrdsOk (l : List (List UInt8)) : Bool := !decide ([] ∈ l)
theorem lz96 (s : List UInt8) (hs : s.length ≤ 2^30) : FSpec Tryz.prog 96 [.d (.str s)] kx (fun x r => x = .tup [.d (strs (Lib.split s [32])), .d (.bool (wrdsOk (Lib.split s [32])))] ∧ r = kx) := by
 have hl := split_len s [32] (by decide)
 refine spec_of hT (C := []) Tryz.func96 rfl Tryz.call96 rfl rfl rfl ?_
 conv => whnf
 repeat' (first | (refine CallX.kn (zSplit s [32] (by omega) (by decide)) rfl rfl rfl rfl ?_; conv => whnf) | (refine CallX.exact (lz78 (Lib.split s [32]) (by omega) []) rfl rfl ?_; rotate_right; conv => whnf) | (refine br_intro ?_ ?_ <;> intro hb <;> (try simp only [brs] at hb) <;> conv => whnf) | omega | (refine And.intro ?_ ?_; ((try dsimp only); first | omega | (refine szA rfl ?_; omega) | (refine szB rfl ?_; omega) | (unfold inI64; omega) | exact rfl | (simp only [List.toList_toArray, List.length_cons, List.length_nil]; omega) | (simp only [lns] at *; omega) | decide | (unfold inI64; decide)); conv => whnf) | decide | assumption)
 refine .ret _ ?_
 conv => whnf
 refine ⟨kx, ⟨congrArg SV.tup ?_, rfl⟩, rr, trivial⟩
 repeat' (refine cons_eq ?_ ?_)
 all_goals (conv => lhs; whnf)
 all_goals try (with_reducible rfl)
 all_goals rfl
theorem lz79 (l : List (List UInt8)) (hl : l.length ≤ 2^30) (hk : ∀ x ∈ l, x.length ≤ 2^40) : FSpec Tryz.prog 79 [.d (strs l)] kx (fun x r => x = .tup [.d (bif l.all numOk then ints (l.map numN) else .nilsl), .d (.bool (l.all numOk))] ∧ r = kx) := by
 refine spec_of hT (C := []) Tryz.func79 rfl Tryz.call79 rfl rfl rfl ?_
 conv => whnf
 refine LoopX.rule hT (C := []) (ι := Nat) (fun i => i ≤ l.length ∧ ∀ j, j < i → numOk (l.getD j []) = true) (fun i => mkSt [(4, .buf 4), (9, .d (strs l)), (10, .d (.int .i64 l.length)), (11, .d (.int .i64 i))] [(1000009, KX), (4, seqB 3 1 iF 0 ((l.take i).map numN))]) (fun i => l.length - i) 0 ⟨by simp, fun j hj => absurd hj (Nat.not_lt_zero j)⟩ ?_ ?_
 · exact (Entails.nil 4 4 3 1 (rowF iF 0 []) rfl rfl (by decide)).trans (by (refine Entails.mk' [(1000009, 1000009), (4, 4)] rfl rfl ?_ ?_ <;> repeat' (first | exact True.intro | exact lr | exact rr | exact SV.le_int (by omega) | exact SV.le_any _ | refine And.intro ?_ ?_)); done)
 rintro i ⟨hi, hp⟩
 have hln : ((l.take i).map numN).length = i := by simp; omega
 conv => whnf
 refine br_intro (fun hb => ?_) (fun hb => ?_)
 · conv => whnf
   have hlt : i < l.length := by simpa using hb
   have hx : l.getD i [] ∈ l := getD_mem hlt
   have hc := lz129 (l.getD i []) (hk _ hx)
   cases hn : numOk (l.getD i []) with
   | true =>
     rw [hn] at hc
     skip
     repeat' (first | (refine CallX.kn hc rfl rfl rfl rfl ?_; conv => whnf) | (refine br_intro ?_ ?_ <;> intro hb <;> (try simp only [brs] at hb) <;> conv => whnf) | omega | (refine And.intro ?_ ?_; ((try dsimp only); first | omega | (refine szA rfl ?_; omega) | (refine szB rfl ?_; omega) | (unfold inI64; omega) | exact rfl | (simp only [List.toList_toArray, List.length_cons, List.length_nil]; omega) | (simp only [lns] at *; omega) | decide | (unfold inI64; decide)); conv => whnf) | decide | assumption)
     have hsn : (l.take (i + 1)).map numN = (l.take i).map numN ++ [numN (l.getD i [])] := by
      have : l.take (i + 1) = l.take i ++ [l.getD i []] := by rw [List.take_add_one]; simp [List.getD_eq_getElem?_getD, hlt]
      rw [this, List.map_append]; rfl
     refine ⟨i + 1, ⟨by omega, all_step hp hn⟩, by omega, ?_⟩
     rw [hsn]
     exact (by (refine Entails.mk' [(1000009, 1000009), (4, 25)] rfl rfl ?_ ?_ <;> repeat' (first | exact True.intro | exact lr | exact rr | (exact Res.le_snocF rfl) | exact SV.le_int (by omega) | exact SV.le_any _ | refine And.intro ?_ ?_)); done)
   | false =>
     rw [hn] at hc
     have hall : l.all numOk = false := by
      rw [Bool.eq_false_iff]
      intro h
      have := List.all_eq_true.1 h _ hx
      rw [hn] at this; cases this
     repeat' (first | (refine CallX.kn hc rfl rfl rfl rfl ?_; conv => whnf) | (refine br_intro ?_ ?_ <;> intro hb <;> (try simp only [brs] at hb) <;> conv => whnf) | omega | (refine And.intro ?_ ?_; ((try dsimp only); first | omega | (refine szA rfl ?_; omega) | (refine szB rfl ?_; omega) | (unfold inI64; omega) | exact rfl | (simp only [List.toList_toArray, List.length_cons, List.length_nil]; omega) | (simp only [lns] at *; omega) | decide | (unfold inI64; decide)); conv => whnf) | decide | assumption)
     rw [hall]
     refine .ret _ ?_
     conv => whnf
     refine ⟨kx, ⟨congrArg SV.tup ?_, rfl⟩, rr, trivial⟩
     repeat' (refine cons_eq ?_ ?_)
     all_goals (conv => lhs; whnf)
     all_goals try (with_reducible rfl)
     all_goals rfl
 · conv => whnf
   have hi2 : i = l.length := by simp at hb; omega
   subst hi2
   rw [List.take_length]
   have hall : l.all numOk = true := List.all_eq_true.2 fun x hx => by
    obtain ⟨j, hj, rfl⟩ := mem_getD (d := []) hx
    exact hp j hj
   rw [hall]
   repeat' (first | (refine br_intro ?_ ?_ <;> intro hb <;> (try simp only [brs] at hb) <;> conv => whnf) | omega | (refine And.intro ?_ ?_; ((try dsimp only); first | omega | (refine szA rfl ?_; omega) | (refine szB rfl ?_; omega) | (unfold inI64; omega) | exact rfl | (simp only [List.toList_toArray, List.length_cons, List.length_nil]; omega) | (simp only [lns] at *; omega) | decide | (unfold inI64; decide)); conv => whnf) | decide | assumption)
   refine .freeze _ 4 3 1 _ _ rfl ?_
   refine .ret _ ?_
   conv => whnf
   refine ⟨kx, ⟨congrArg SV.tup ?_, rfl⟩, rr, trivial⟩
   repeat' (refine cons_eq ?_ ?_)
   all_goals (conv => lhs; whnf)
   all_goals try (with_reducible rfl)
   all_goals rfl
abbrev capC (ct d : Nat) : Res := .cells ct [.buf d]
def Taker {α : Type} (g ct e k : Nat) (F : α → List DV) (d : α) (tk : List UInt8 → List α → Bool × List α) : Prop :=
 (∀ line l, (tk line l).2.length ≤ l.length + 1) ∧ ∀ line l, line.length ≤ 2^20 → l.length ≤ 2^21 →
   FSpec Tryz.prog g [.d (.str line), .ptr 1000005 0] [(1000009, KX), (1000005, capC ct 1000003), (1000003, seqB e k F d l)] (fun x r => x = .d (.bool (tk line l).1) ∧ r = [(1000009, KX), (1000005, capC ct 46), (46, seqB e k F d (tk line l).2)])
theorem lz75 {α : Type} {g ct e k : Nat} {F : α → List DV} {d : α} {tk : List UInt8 → List α → Bool × List α} (hg : Taker g ct e k F d tk) (text : List UInt8) (ht : text.length ≤ 2^20) (l0 : List α) (hl0 : l0.length ≤ 2^20) :
 FSpec Tryz.prog 75 [.d (.str text), .fn g [.ptr 1000005 0]] [(1000009, KX), (1000005, capC ct 1000003), (1000003, seqB e k F d l0)] (fun x r => x = .tup [.d (.int .i64 (lnsF tk (text.length + 1) 0 text l0).1.1), .d (.bool (lnsF tk (text.length + 1) 0 text l0).1.2)] ∧
  r = [(1000009, KX), (1000005, capC ct 40), (40, seqB e k F d (lnsF tk (text.length + 1) 0 text l0).2)]) := by
 generalize hR : lnsF tk (text.length + 1) 0 text l0 = R
 refine spec_of hT (C := []) Tryz.func75 rfl Tryz.call75 rfl rfl rfl ?_
 conv => whnf
 refine LoopX.rule hT (C := []) (ι := Nat × Nat × List UInt8 × List α) (fun (n, a, t, l) => (lnsF tk n a t l = R ∧ t.length < n) ∧ t.length + a ≤ text.length ∧ l.length ≤ l0.length + a)
  (fun (n, a, t, l) => mkSt [(0, .d (.str t)), (1, .fn g [.ptr 1000005 0]), (6, .d (.int .i64 a))] [(1000009, KX), (1000005, capC ct 40), (40, seqB e k F d l)])
  (fun (n, _, _, _) => n) (text.length + 1, 0, text, l0) ⟨⟨hR, Nat.lt_succ_self _⟩, Nat.le_refl _, by simp⟩ (by (refine Entails.mk' [(1000009, 1000009), (1000005, 1000005), (40, 1000003)] rfl rfl ?_ ?_ <;> repeat' (first | exact True.intro | exact lr | exact rr | exact SV.le_int (by omega) | exact SV.le_any _ | refine And.intro ?_ ?_)); done) ?_
 rintro ⟨n, a, t, l⟩ ⟨⟨h1, h2⟩, h3, h4⟩
 obtain ⟨m, rfl⟩ : ∃ m, n = m + 1 := ⟨n - 1, by omega⟩
 have hcl := cut_le t
 have htl : (tk (Lib.cut t [10]).1 l).2.length ≤ l.length + 1 := hg.1 _ _
 have hc := hg.2 (Lib.cut t [10]).1 l (by omega) (by omega)
 conv => whnf
 repeat' (first | (refine CallX.kn (zCut t [10] (by omega)) rfl rfl rfl rfl ?_; conv => whnf) | (refine CallX.of hc [(1000009, 1000009), (1000005, 1000005), (1000003, 40), (46, 41)] rfl ⟨lr, lr, trivial⟩ ⟨rr, rr, rr, trivial⟩ rfl rfl ?_; rintro x rout ⟨rfl, rfl⟩; refine ⟨rfl, ?_⟩; conv => whnf) | (refine br_intro ?_ ?_ <;> intro hb <;> (try simp only [brs] at hb) <;> conv => whnf) | omega | (refine And.intro ?_ ?_; ((try dsimp only); first | omega | (refine szA rfl ?_; omega) | (refine szB rfl ?_; omega) | (unfold inI64; omega) | exact rfl | (simp only [List.toList_toArray, List.length_cons, List.length_nil]; omega) | (simp only [lns] at *; omega) | decide | (unfold inI64; decide)); conv => whnf) | decide | assumption)
 · rename_i hb0
   obtain rfl : R = ((a, false), l) := by rw [← h1]; simp [lnsF, hb0, hb]
   refine .ret _ ?_
   conv => whnf
   refine ⟨[(1000009, KX), (1000005, capC ct 40), (40, seqB e k F d l)], ⟨congrArg SV.tup ?_, rfl⟩, rr, rr, rr, trivial⟩
   repeat' (refine cons_eq ?_ ?_)
   all_goals (conv => lhs; whnf)
   all_goals rfl
 · rename_i hb0 hb1
   obtain rfl : R = ((a, false), (tk (Lib.cut t [10]).1 l).2) := by rw [← h1]; simp [lnsF, hb0, hb1, hb]
   refine .ent _ (mkSt [(4, .d (.int .i64 a)), (5, .d (.bool false))] [(1000009, KX), (1000005, capC ct 40), (40, seqB e k F d (tk (Lib.cut t [10]).1 l).2)]) (by (refine Entails.mk' [(1000009, 1000009), (1000005, 1000005), (40, 41)] rfl rfl ?_ ?_ <;> repeat' (first | exact True.intro | exact lr | exact rr | exact SV.le_int (by omega) | exact SV.le_any _ | refine And.intro ?_ ?_)); done) ?_
   refine .ret _ ?_
   conv => whnf
   refine ⟨[(1000009, KX), (1000005, capC ct 40), (40, seqB e k F d (tk (Lib.cut t [10]).1 l).2)], ⟨congrArg SV.tup ?_, rfl⟩, rr, rr, rr, trivial⟩
   repeat' (refine cons_eq ?_ ?_)
   all_goals (conv => lhs; whnf)
   all_goals rfl
 · rename_i hb0 hb1
   have hlen := cut_len hb1
   refine ⟨(m, a + 1, (Lib.cut t [10]).2.1, (tk (Lib.cut t [10]).1 l).2), ⟨⟨by rw [← h1]; simp [lnsF, hb0, hb1, hb], by omega⟩, by omega, by omega⟩, Nat.lt_succ_self m, (by (refine Entails.mk' [(1000009, 1000009), (1000005, 1000005), (40, 41)] rfl rfl ?_ ?_ <;> repeat' (first | exact True.intro | exact lr | exact rr | exact SV.le_int (by omega) | exact SV.le_any _ | refine And.intro ?_ ?_)); done)⟩
 · obtain rfl : R = ((0, true), l) := by rw [← h1]; simp [lnsF, hb]
   refine .ret _ ?_
   conv => whnf
   refine ⟨[(1000009, KX), (1000005, capC ct 40), (40, seqB e k F d l)], ⟨congrArg SV.tup ?_, rfl⟩, rr, rr, rr, trivial⟩
   repeat' (refine cons_eq ?_ ?_)
   all_goals (conv => lhs; whnf)
   all_goals rfl
def oXTpA95_4 : List (Nat × List Nat) := [(0, []), (1, []), (2, []), (3, [0, 1, 2]), (4, [0, 1, 2]), (5, [0, 1, 2]), (6, []), (7, []), (8, []), (9, []), (10, [9]), (11, [10]), (12, [])]
def oXTpA95_6 : List (Nat × List Nat) := [(0, []), (1, [0]), (2, [0]), (3, [0]), (4, [0, 1, 2, 3]), (5, [0, 1, 2, 3]), (6, [0, 1, 2, 3]), (7, [0, 1, 2, 3, 4, 5, 6]), (8, [0, 1, 2, 3, 4, 5, 6]), (9, [0, 1, 2, 3, 4, 5, 6]), (10, [0, 1, 2, 3, 4, 5, 6, 7, 8, 9]), (11, [0, 1, 2, 3, 4, 5, 6, 7, 8, 9]), (12, [0, 1, 2, 3, 4, 5, 6, 7, 8, 9]), (13, [0]), (14, [0]), (15, []), (16, [])]
def tkPas (line : List UInt8) (l : List Pas) : Bool × List Pas :=
 bif wrdsOk (Lib.split line [32]) && decide ((Lib.split line [32]).length = 4) && [(Lib.split line [32]).getD 0 [], (Lib.split line [32]).getD 3 []].all numOk then
  (true, l ++ [⟨numN ((Lib.split line [32]).getD 0 []), (Lib.split line [32]).getD 1 [], (Lib.split line [32]).getD 2 [], numN ((Lib.split line [32]).getD 3 [])⟩]) else (false, l)
theorem lz95 (line : List UInt8) (l : List Pas) (h1 : line.length ≤ 2^20) (h2 : l.length ≤ 2^21) :
 FSpec Tryz.prog 95 [.d (.str line), .ptr 1000005 0] [(1000009, KX), (1000005, capC 42 1000003), (1000003, seqB 51 4 paF pa0 l)] (fun x r => x = .d (.bool (tkPas line l).1) ∧ r = [(1000009, KX), (1000005, capC 42 46), (46, seqB 51 4 paF pa0 (tkPas line l).2)]) := by
 have hsl := split_len line [32] (by decide)
 have hmem : ∀ i, ((Lib.split line [32]).getD i []).length ≤ 2^40 := fun i => by
  rcases Nat.lt_or_ge i (Lib.split line [32]).length with q | q
  · have := split_mem (getD_mem (x := []) q); omega
  · rw [List.getD_eq_getElem?_getD, List.getElem?_eq_none q]; simp
 have hN := lz79 [(Lib.split line [32]).getD 0 [], (Lib.split line [32]).getD 3 []] (by simp) (by intro x hx; simp at hx; rcases hx with rfl | rfl <;> exact hmem _)
 unfold tkPas
 generalize hW : Lib.split line [32] = W at hsl hmem hN
 have hWz := lz96 line (by omega)
 rw [hW] at hWz
 cases hA : [W.getD 0 [], W.getD 3 []].all numOk with
 | false =>
   rw [hA] at hN
   rw [Bool.and_false, cond_false]
   refine spec_of hT (C := []) Tryz.func95 rfl Tryz.call95 rfl rfl rfl ?_
   conv => whnf
   repeat' (first | (refine CallX.kn hWz rfl rfl rfl rfl ?_; conv => whnf) | (refine CallX.look hN [(1000009, 1000009)] rfl ⟨SV.le_lit rfl rfl, trivial⟩ ⟨⟨_, rfl, rfl⟩, trivial⟩ rfl rfl rfl ?_; conv => whnf) | (refine br_intro ?_ ?_ <;> intro hb <;> (try simp only [brs] at hb) <;> conv => whnf) | (refine RegX.rule (id := 4) hT rfl [] oXTpA95_4 (by decide +kernel) ?_; conv => whnf) | (refine RegX.rule (id := 6) hT rfl [] oXTpA95_6 (by decide +kernel) ?_; conv => whnf) | omega | (refine And.intro ?_ ?_; ((try dsimp only); first | omega | (refine szA rfl ?_; omega) | (refine szB rfl ?_; omega) | (unfold inI64; omega) | exact rfl | (simp only [List.toList_toArray, List.length_cons, List.length_nil]; omega) | (simp only [lns] at *; omega) | decide | (unfold inI64; decide)); conv => whnf) | decide | assumption)
   all_goals
    refine .ent _ (mkSt [(3, .d (.bool false))] [(1000009, KX), (1000005, capC 42 46), (46, seqB 51 4 paF pa0 l)]) (by (refine Entails.mk' [(1000009, 1000009), (1000005, 1000005), (46, 1000003)] rfl rfl ?_ ?_ <;> repeat' (first | exact True.intro | exact lr | exact rr | exact SV.le_int (by omega) | exact SV.le_any _ | refine And.intro ?_ ?_)); done) ?_
    refine .ret _ ?_
    conv => whnf
    exact ⟨[(1000009, KX), (1000005, capC 42 46), (46, seqB 51 4 paF pa0 l)], ⟨rfl, rfl⟩, rr, rr, rr, trivial⟩
 | true =>
   rw [hA] at hN
   rw [Bool.and_true]
   replace hN : FSpec Tryz.prog 79 [.d (strs [W.getD 0 [], W.getD 3 []])] kx (fun x r => x = .tup [.d (ints [numN (W.getD 0 []), numN (W.getD 3 [])]), .d (.bool true)] ∧ r = kx) := hN
   refine spec_of hT (C := []) Tryz.func95 rfl Tryz.call95 rfl rfl rfl ?_
   conv => whnf
   repeat' (first | (refine CallX.kn hWz rfl rfl rfl rfl ?_; conv => whnf) | (refine CallX.look hN [(1000009, 1000009)] rfl ⟨SV.le_lit rfl rfl, trivial⟩ ⟨⟨_, rfl, rfl⟩, trivial⟩ rfl rfl rfl ?_; conv => whnf) | (refine br_intro ?_ ?_ <;> intro hb <;> (try simp only [brs] at hb) <;> conv => whnf) | (refine RegX.rule (id := 4) hT rfl [] oXTpA95_4 (by decide +kernel) ?_; conv => whnf) | (refine RegX.rule (id := 6) hT rfl [] oXTpA95_6 (by decide +kernel) ?_; conv => whnf) | omega | (refine And.intro ?_ ?_; ((try dsimp only); first | omega | (refine szA rfl ?_; omega) | (refine szB rfl ?_; omega) | (unfold inI64; omega) | exact rfl | (simp only [List.toList_toArray, List.length_cons, List.length_nil]; omega) | (simp only [lns] at *; omega) | decide | (unfold inI64; decide)); conv => whnf) | decide | assumption)
   · rw [hb, Bool.false_and, cond_false]
     refine .ent _ (mkSt [(3, .d (.bool false))] [(1000009, KX), (1000005, capC 42 46), (46, seqB 51 4 paF pa0 l)]) (by (refine Entails.mk' [(1000009, 1000009), (1000005, 1000005), (46, 1000003)] rfl rfl ?_ ?_ <;> repeat' (first | exact True.intro | exact lr | exact rr | exact SV.le_int (by omega) | exact SV.le_any _ | refine And.intro ?_ ?_)); done) ?_
     refine .ret _ ?_
     conv => whnf
     exact ⟨[(1000009, KX), (1000005, capC 42 46), (46, seqB 51 4 paF pa0 l)], ⟨rfl, rfl⟩, rr, rr, rr, trivial⟩
   · have hb' : decide (W.length = 4) = false := by simp; omega
     rw [hb', Bool.and_false, cond_false]
     refine .ent _ (mkSt [(3, .d (.bool false))] [(1000009, KX), (1000005, capC 42 46), (46, seqB 51 4 paF pa0 l)]) (by (refine Entails.mk' [(1000009, 1000009), (1000005, 1000005), (46, 1000003)] rfl rfl ?_ ?_ <;> repeat' (first | exact True.intro | exact lr | exact rr | exact SV.le_int (by omega) | exact SV.le_any _ | refine And.intro ?_ ?_)); done) ?_
     refine .ret _ ?_
     conv => whnf
     exact ⟨[(1000009, KX), (1000005, capC 42 46), (46, seqB 51 4 paF pa0 l)], ⟨rfl, rfl⟩, rr, rr, rr, trivial⟩
   · rename_i hb0
     have hb' : decide (W.length = 4) = true := by simp; omega
     rw [hb', hb0, Bool.and_true, cond_true]
     refine .ent _ (mkSt [(3, .d (.bool true))] [(1000009, KX), (1000005, capC 42 46), (46, seqB 51 4 paF pa0 (l ++ [⟨numN (W.getD 0 []), W.getD 1 [], W.getD 2 [], numN (W.getD 3 [])⟩]))]) (by (refine Entails.mk' [(1000009, 1000009), (1000005, 1000005), (46, 46)] rfl rfl ?_ ?_ <;> repeat' (first | exact True.intro | exact lr | exact rr | (exact Res.le_snocF rfl) | exact SV.le_int (by omega) | exact SV.le_any _ | refine And.intro ?_ ?_)); done) ?_
     refine .ret _ ?_
     conv => whnf
     exact ⟨[(1000009, KX), (1000005, capC 42 46), (46, seqB 51 4 paF pa0 _)], ⟨rfl, rfl⟩, rr, rr, rr, trivial⟩
theorem lookL_rot {a b c : Nat} {x y z : Res} (h1 : Nat.beq a c = false) (h2 : Nat.beq b c = false) : lookL [(c, z), (a, x), (b, y)] = lookL [(a, x), (b, y), (c, z)] := by
 have e1 : a ≠ c := fun q => by rw [q] at h1; simp at h1
 have e2 : b ≠ c := fun q => by rw [q] at h2; simp at h2
 funext d
 by_cases q1 : d = a
 · subst q1; simp [lookL, nbeq_ne e1]
 · by_cases q2 : d = b
   · subst q2; simp [lookL, nbeq_ne e2, nbeq_ne q1]
   · simp [lookL, nbeq_ne q1, nbeq_ne q2]
theorem reordF {P : Program} {f : FuncId} {args : List SV} {rin rin' : List (Nat × Res)} {post : SV → List (Nat × Res) → Prop} (h : FSpec P f args rin post) (e : lookL rin' = lookL rin) : FSpec P f args rin' post :=
 ⟨h.enter, fun G β w vs hp hl hd => by
   have := h.calls G β w vs (by rw [← e]; exact hp) hl hd
   rw [e]; exact this⟩
theorem lnsNil {α : Type} {f g ct e k : Nat} {F : α → List DV} {d : α} {text : List UInt8} {post : SV → List (Nat × Res) → Prop} (hk : 0 < k)
 (h : FSpec Tryz.prog f [.d (.str text), .fn g [.ptr 1000005 0]] [(1000009, KX), (1000005, capC ct 1000003), (1000003, seqB e k F d [])] post) :
 FSpec Tryz.prog f [.d (.str text), .fn g [.ptr 1000005 0]] [(1000005, .cells ct [.d .nilsl]), (1000009, KX)] post :=
 FSpec.nilCell (c := 1000005) (d := 1000003) (e := e) (k := k) (j := 0) (ce := ct) (l := [.d .nilsl]) (g := rowF F d []) (rest := [(1000009, KX)]) (reordF h (lookL_rot rfl rfl).symm) hk rfl rfl rfl
def redF {α : Type} (tk : List UInt8 → List α → Bool × List α) (fe : List α → Int) (text : List UInt8) : List α × Nat × Int :=
 bif decide (200000 < text.length) then ([], 0, 2) else
 bif (lnsF tk (text.length + 1) 0 text []).1.2 then (bif decide (fe (lnsF tk (text.length + 1) 0 text []).2 = 0) then ((lnsF tk (text.length + 1) 0 text []).2, 0, 0) else ([], 0, fe (lnsF tk (text.length + 1) 0 text []).2))
 else ([], (lnsF tk (text.length + 1) 0 text []).1.1, 9)
theorem tkPas_len (line : List UInt8) (l : List Pas) : (tkPas line l).2.length ≤ l.length + 1 := by
 unfold tkPas
 generalize (wrdsOk (Lib.split line [32]) && decide ((Lib.split line [32]).length = 4) && [(Lib.split line [32]).getD 0 [], (Lib.split line [32]).getD 3 []].all numOk) = c
 cases c <;> simp
theorem tk95 : Taker 95 42 51 4 paF pa0 tkPas := ⟨tkPas_len, lz95⟩
theorem lnsF_all {α : Type} {tk : List UInt8 → List α → Bool × List α} {Q : α → Prop} {N : Nat} (hQ : ∀ line l, line.length ≤ N → (∀ x ∈ l, Q x) → ∀ x ∈ (tk line l).2, Q x) : ∀ (n a : Nat) (t : List UInt8) (l : List α), t.length ≤ N → (∀ x ∈ l, Q x) → ∀ x ∈ (lnsF tk n a t l).2, Q x := by
 intro n
 induction n with
 | zero => intro a t l _ h; exact h
 | succ n ih =>
   intro a t l ht h
   have h1 := cut_le t
   have h2 := hQ (Lib.cut t [10]).1 l (by omega) h
   unfold lnsF
   split
   · exact h
   · split
     · exact h
     · split
       · exact h2
       · rename_i hc _
         have := cut_len (by simpa using hc)
         exact ih _ _ _ (by omega) h2
theorem lnsF_len {α : Type} {tk : List UInt8 → List α → Bool × List α} (hQ : ∀ line l, (tk line l).2.length ≤ l.length + 1) : ∀ (n a : Nat) (t : List UInt8) (l : List α), (lnsF tk n a t l).2.length ≤ l.length + n := by
 intro n
 induction n with
 | zero => intro a t l; exact Nat.le_refl _
 | succ n ih =>
   intro a t l
   have h2 := hQ (Lib.cut t [10]).1 l
   unfold lnsF
   split
   · simp only; omega
   · split
     · simp only; omega
     · split
       · simp only; omega
       · have := ih (a + 1) (Lib.cut t [10]).2.1 (tk (Lib.cut t [10]).1 l).2
         omega
theorem tkPas_ok (line : List UInt8) (l : List Pas) (h1 : line.length ≤ 2^40) (h : ∀ p ∈ l, p.gate.length ≤ 2^40 ∧ p.plate.length ≤ 2^40) : ∀ p ∈ (tkPas line l).2, p.gate.length ≤ 2^40 ∧ p.plate.length ≤ 2^40 := by
 have hmem : ∀ i, ((Lib.split line [32]).getD i []).length ≤ 2^40 := fun i => by
  rcases Nat.lt_or_ge i (Lib.split line [32]).length with q | q
  · have := split_mem (getD_mem (x := []) q); omega
  · rw [List.getD_eq_getElem?_getD, List.getElem?_eq_none q]; simp
 unfold tkPas
 generalize (wrdsOk (Lib.split line [32]) && decide ((Lib.split line [32]).length = 4) && [(Lib.split line [32]).getD 0 [], (Lib.split line [32]).getD 3 []].all numOk) = c
 cases c with
 | false => exact h
 | true =>
   intro p hp
   rcases List.mem_append.1 hp with q | q
   · exact h p q
   · simp at q; subst q; exact ⟨hmem 1, hmem 2⟩
theorem pOk_rd (text : List UInt8) (ht : text.length ≤ 2^20) : pOk (lnsF tkPas (text.length + 1) 0 text []).2 :=
 ⟨by have := lnsF_len tkPas_len (text.length + 1) 0 text []; simp only [List.length_nil] at this; omega, lnsF_all (N := 2^40) (fun line l h1 h => tkPas_ok line l h1 h) _ _ _ _ (by omega) (by simp)⟩
theorem lz24 (text : List UInt8) (ht : text.length ≤ 2^20) : FSpec Tryz.prog 24 [.d (.str text)] kx (fun x r => x = .tup [.d (seqD 4 paF pa0 (redF tkPas formE text).1), .d (.int .i64 (redF tkPas formE text).2.1), .d (.int .i64 (redF tkPas formE text).2.2)] ∧ r = kx) := by
 have hL := lnsNil (by decide) (lz75 tk95 text ht [] (by simp))
 have hlen := lnsF_len (tk := tkPas) (tk95).1 (text.length + 1) 0 text []
 have hok := pOk_rd text ht
 unfold redF
 generalize lnsF tkPas (text.length + 1) 0 text [] = R at hL hlen hok ⊢
 obtain ⟨⟨ra, rb⟩, rl⟩ := R
 refine spec_of hT (C := []) Tryz.func24 rfl Tryz.call24 rfl rfl rfl ?_
 conv => whnf
 repeat' (first | (refine CallX.of hL [(1000005, 5), (1000009, 1000009), (40, 41)] rfl ⟨lr, lr, trivial⟩ ⟨rr, rr, trivial⟩ rfl rfl ?_; rintro x rout ⟨rfl, rfl⟩; refine ⟨rfl, ?_⟩; conv => whnf) | (refine CallX.freeze _ _ _ _ 41 51 4 _ _ rfl rfl ?_; refine CallX.pure (s152 rl hok) ⟨lr, trivial⟩ rfl ?_; conv => whnf) | (refine br_intro ?_ ?_ <;> intro hb <;> (try simp only [brs] at hb) <;> conv => whnf) | omega | (refine And.intro ?_ ?_; ((try dsimp only); first | omega | (refine szA rfl ?_; omega) | (refine szB rfl ?_; omega) | (unfold inI64; omega) | exact rfl | (simp only [List.toList_toArray, List.length_cons, List.length_nil]; omega) | (simp only [lns] at *; omega) | decide | (unfold inI64; decide)); conv => whnf) | decide | assumption)
 · have q : decide (200000 < text.length) = true := by simp; omega
   rw [q, cond_true]
   refine .weak _ ?_
   conv => whnf
   exact ⟨.tup [.d (seqD 4 paF pa0 []), .d (.int .i64 0), .d (.int .i64 2)], kx, SV.le_tup ⟨SV.le_nilS, lr, lr, trivial⟩, ⟨rfl, rfl⟩, rr, trivial⟩
 · have q : decide (200000 < text.length) = false := by simp; omega
   simp only [q, hb, cond_false]
   refine .weak _ ?_
   conv => whnf
   exact ⟨.tup [.d (seqD 4 paF pa0 []), .d (.int .i64 ra), .d (.int .i64 9)], kx, SV.le_tup ⟨SV.le_nilS, lr, lr, trivial⟩, ⟨rfl, rfl⟩, rr, trivial⟩
 · rename_i hb0 hb1
   have q : decide (200000 < text.length) = false := by simp; omega
   have q2 : decide (formE rl = 0) = false := by simp [hb]
   simp only [q, q2, hb1, cond_false, cond_true]
   refine .weak _ ?_
   conv => whnf
   exact ⟨.tup [.d (seqD 4 paF pa0 []), .d (.int .i64 0), .d (.int .i64 (formE rl))], kx, SV.le_tup ⟨SV.le_nilS, lr, lr, trivial⟩, ⟨rfl, rfl⟩, rr, trivial⟩
 · rename_i hb0 hb1
   have q : decide (200000 < text.length) = false := by simp; omega
   have q2 : decide (formE rl = 0) = true := by simp [hb]
   simp only [q, q2, hb1, cond_false, cond_true]
   refine .ret _ ?_
   conv => whnf
   refine ⟨kx, ⟨congrArg SV.tup ?_, rfl⟩, rr, trivial⟩
   repeat' (refine cons_eq ?_ ?_)
   all_goals (conv => lhs; whnf)
   all_goals try (with_reducible rfl)
   all_goals rfl
theorem dec_len : ∀ (k u : Nat), u < 10 ^ (k + 1) → (Lib.decDigits u).length ≤ k + 1 := by
 intro k
 induction k with
 | zero =>
   intro u h
   rw [Lib.decDigits, dif_pos (by omega)]; simp
 | succ k ih =>
   intro u h
   rw [Lib.decDigits]
   split
   · simp
   · have := ih (u / 10) (by rw [Nat.pow_succ] at h; omega)
     simp; omega
theorem itoa_len {n : Int} (h0 : -2^60 ≤ n) (h1 : n ≤ 2^60) : (Lib.itoa n).length ≤ 20 := by
 have key : ∀ u : Nat, u ≤ 2^60 → (Lib.decDigits u).length ≤ 19 := fun u hu => dec_len 18 u (by omega)
 unfold Lib.itoa
 split
 · have := key n.natAbs (by omega)
   simp; omega
 · have := key n.toNat (by omega)
   omega
def lnOk (ps : List Part) : Prop := ps.length ≤ 8 ∧ ∀ p ∈ ps, (partS p).length ≤ 2^10
theorem join_len : ∀ (l : List (List UInt8)) (sep : List UInt8) (N : Nat), (∀ x ∈ l, x.length ≤ N) → (Lib.join l sep).length ≤ l.length * (N + sep.length) := by
 intro l sep N h
 cases l with
 | nil => simp [Lib.join_nil]
 | cons x r =>
   rw [Lib.join_cons, List.length_append]
   have h1 := h x List.mem_cons_self
   have key : ∀ r : List (List UInt8), (∀ z ∈ r, z.length ≤ N) → (Lib.joinTail sep r).length ≤ r.length * (N + sep.length) := by
    intro r
    induction r with
    | nil => intro _; simp [Lib.joinTail]
    | cons y r ih =>
      intro hr
      have h3 := hr y List.mem_cons_self
      have h4 := ih (fun z hz => hr z (List.mem_cons_of_mem _ hz))
      unfold Lib.joinTail at h4 ⊢
      simp only [List.map_cons, List.flatten_cons, List.length_append, List.length_cons] at h4 ⊢
      rw [Nat.add_mul, Nat.one_mul]; omega
   have h2 := key r (fun z hz => h z (List.mem_cons_of_mem _ hz))
   simp only [List.length_cons]
   rw [Nat.add_mul, Nat.one_mul]; omega
theorem lnOk_len {ps : List Part} (h : lnOk ps) : (Lib.join (ps.map partS) [32]).length ≤ 2^14 := by
 have := join_len (ps.map partS) [32] (2^10) (fun x hx => by
  obtain ⟨p, hp, rfl⟩ := List.mem_map.1 hx
  exact h.2 p hp)
 have h8 := h.1
 simp only [List.length_map, List.length_singleton] at this
 have h3 : ps.length * (2 ^ 10 + 1) ≤ 8 * (2^10 + 1) := Nat.mul_le_mul_right _ h8
 omega
def lnB (ps : List Part) : List UInt8 := Lib.join (ps.map partS) [32] ++ [10]
def txF {α : Type} (pf : α → List Part) (l : List α) : List UInt8 := (l.map fun p => lnB (pf p)).flatten
theorem txF_len {α : Type} {pf : α → List Part} : ∀ {l : List α}, (∀ p ∈ l, lnOk (pf p)) → (txF pf l).length ≤ l.length * 2^15 := by
 intro l
 induction l with
 | nil => intro _; simp [txF]
 | cons x r ih =>
   intro h
   have h1 := lnOk_len (h x List.mem_cons_self)
   have h2 := ih (fun p hp => h p (List.mem_cons_of_mem _ hp))
   simp only [txF, List.map_cons, List.flatten_cons, List.length_append, List.length_cons, List.length_nil, lnB] at h2 ⊢
   rw [Nat.add_mul, Nat.one_mul]; omega
theorem txF_snoc {α : Type} {pf : α → List Part} {l : List α} {d : α} {i : Nat} (hi : i < l.length) : txF pf (l.take (i + 1)) = txF pf (l.take i) ++ lnB (pf (l.getD i d)) := by
 have : l.take (i + 1) = l.take i ++ [l.getD i d] := by rw [List.take_add_one]; simp [List.getD_eq_getElem?_getD, hi]
 rw [this]; simp [txF]
def pasP (p : Pas) : List Part := [.inl p.tm, .inr p.gate, .inr p.plate, .inl p.cents]
def pas1 (p : Pas) : Prop := (p.gate.length ≤ 2^10 ∧ p.plate.length ≤ 2^10) ∧ (-2^60 ≤ p.tm ∧ p.tm ≤ 2^60) ∧ -2^60 ≤ p.cents ∧ p.cents ≤ 2^60
theorem pas1_ln {p : Pas} (h : pas1 p) : lnOk (pasP p) := by
 obtain ⟨⟨h1, h2⟩, ⟨h3, h4⟩, h5, h6⟩ := h
 refine ⟨by simp [pasP], fun q hq => ?_⟩
 simp only [pasP, List.mem_cons, List.not_mem_nil, or_false] at hq
 have e1 := itoa_len h3 h4
 have e2 := itoa_len h5 h6
 rcases hq with rfl | rfl | rfl | rfl <;> simp only [partS] <;> omega
theorem pas1_ok {p : Pas} (h : pas1 p) : ∀ q ∈ pasP p, partOk q := by
 obtain ⟨_, ⟨h3, h4⟩, h5, h6⟩ := h
 intro q hq
 simp only [pasP, List.mem_cons, List.not_mem_nil, or_false] at hq
 rcases hq with rfl | rfl | rfl | rfl <;> simp only [partOk] <;> first | trivial | omega
theorem pas1_0 : pas1 pa0 := by simp [pas1, pa0]
theorem lz20 (l : List Pas) (hk : pOk l) (hl : l.length ≤ 2^15 ∧ ∀ p ∈ l, pas1 p)  : FSpec Tryz.prog 20 [.d (seqD 4 paF pa0 l)] kx (fun x r => x = .tup [.d (.str (if formE l = 0 then txF pasP l else [])), .d (.int .i64 (formE l))] ∧ r = kx) := by
 have hq : ∀ i, pas1 (l.getD i pa0) := fun i => by
  rcases Nat.lt_or_ge i l.length with q | q
  · exact hl.2 _ (getD_mem q)
  · rw [List.getD_eq_getElem?_getD, List.getElem?_eq_none q]; exact pas1_0
 have hJ := fun i => lnOk_len (pas1_ln (hq i))
 have hC := fun i => zWJoin (pasP (l.getD i pa0)) (by simp [pasP]) (pas1_ok (hq i)) (by have := hJ i; omega)
 have hT' := fun i => txF_len (pf := pasP) (l := l.take i) (fun p hp => pas1_ln (hl.2 p (List.mem_of_mem_take hp)))
 have hlen := hl.1
 refine spec_of hT (C := []) Tryz.func20 rfl Tryz.call20 rfl rfl rfl ?_
 conv => whnf
 repeat' (first | (refine CallX.exact (s152 l hk) rfl rfl ?_; rotate_right; conv => whnf) | (refine br_intro ?_ ?_ <;> intro hb <;> (try simp only [brs] at hb) <;> conv => whnf) | omega | (refine And.intro ?_ ?_; ((try dsimp only); first | omega | (refine szA rfl ?_; omega) | (refine szB rfl ?_; omega) | (unfold inI64; omega) | exact rfl | (simp only [List.toList_toArray, List.length_cons, List.length_nil]; omega) | (simp only [lns] at *; omega) | decide | (unfold inI64; decide)); conv => whnf) | decide | assumption)
 · refine .ret _ ?_
   conv => whnf
   refine ⟨kx, ⟨congrArg SV.tup ?_, rfl⟩, rr, trivial⟩
   repeat' (refine cons_eq ?_ ?_)
   all_goals (conv => lhs; whnf)
   all_goals try (with_reducible rfl)
   · rw [if_neg hb]
 have h0 := hb
 rw [h0, if_pos rfl]
 rcases Nat.eq_zero_or_pos l.length with h00 | h00
 · refine LoopX.unroll hT (C := []) (fun _ _ h => h) (fun _ h => h) ?_
   conv => whnf
   repeat' (first | (refine CallX.of zStrN [(1000001, 5)] rfl ⟨lr, trivial⟩ ⟨rr, trivial⟩ rfl rfl ?_; rintro x rout ⟨rfl, rfl⟩; refine ⟨rfl, ?_⟩; conv => whnf) | (refine br_intro ?_ ?_ <;> intro hb <;> (try simp only [brs] at hb) <;> conv => whnf) | omega | (refine And.intro ?_ ?_; ((try dsimp only); first | omega | (refine szA rfl ?_; omega) | (refine szB rfl ?_; omega) | (unfold inI64; omega) | exact rfl | (simp only [List.toList_toArray, List.length_cons, List.length_nil]; omega) | (simp only [lns] at *; omega) | decide | (unfold inI64; decide)); conv => whnf) | decide | assumption)
   have : l = [] := List.eq_nil_of_length_eq_zero h00
   subst this
   refine .ret _ ?_
   conv => whnf
   refine ⟨kx, ⟨congrArg SV.tup ?_, rfl⟩, rr, trivial⟩
   repeat' (refine cons_eq ?_ ?_)
   all_goals (conv => lhs; whnf)
   all_goals try (with_reducible rfl)
   all_goals rfl
 have hJ0 := hJ 0
 refine LoopX.unroll hT (C := []) (fun _ _ h => h) (fun _ h => h) ?_
 conv => whnf
 repeat' (first | (refine CallX.look (hC 0) [(1000009, 1000009)] rfl ⟨SV.le_lit rfl rfl, trivial⟩ ⟨⟨_, rfl, rfl⟩, trivial⟩ rfl rfl rfl ?_; conv => whnf) | (refine CallX.of (zWrN (lnB (pasP (l.getD 0 pa0))) (by unfold lnB; have := hJ 0; simp only [List.length_append, List.length_singleton]; omega)) [(1000001, 5), (14, 40)] rfl ⟨lr, lr, trivial⟩ ⟨rr, trivial⟩ rfl rfl ?_; rintro x rout ⟨rfl, rfl⟩; refine ⟨rfl, ?_⟩; conv => whnf) | (refine br_intro ?_ ?_ <;> intro hb <;> (try simp only [brs] at hb) <;> conv => whnf) | omega | (refine And.intro ?_ ?_; ((try dsimp only); first | omega | (refine szA rfl ?_; omega) | (refine szB rfl ?_; omega) | (unfold inI64; omega) | exact rfl | (simp only [List.toList_toArray, List.length_cons, List.length_nil]; omega) | (simp only [lns] at *; omega) | decide | (unfold inI64; decide)); conv => whnf) | decide | assumption)
 have he1 : lnB (pasP (l.getD 0 pa0)) = txF pasP (l.take 1) := by rw [txF_snoc (d := pa0) h00]; simp [txF]
 refine LoopX.rule hT (C := []) (ι := Nat) (fun i => i ≤ l.length) (fun i => mkSt [(5, .ptr 5 0), (13, .d (seqD 4 paF pa0 l)), (14, .d (.int .i64 l.length)), (15, .d (.int .i64 i))] [(1000009, KX), (5, .cells 98 [.ptr 5 0, .buf 40]), (40, bytB (txF pasP (l.take i)))]) (fun i => l.length - i) 1 h00 ?_ ?_
 · rw [← he1]
   exact (by (refine Entails.mk' [(1000009, 1000009), (5, 5), (40, 40)] rfl rfl ?_ ?_ <;> repeat' (first | exact True.intro | exact lr | exact rr | exact SV.le_int (by omega) | exact SV.le_any _ | refine And.intro ?_ ?_)); done)
 intro i hi
 have hJi := hJ i
 have hTi := hT' i
 have hTl : (l.take i).length = i := by simp; omega
 rw [hTl] at hTi
 conv => whnf
 repeat' (first | (refine CallX.look (hC i) [(1000009, 1000009)] rfl ⟨SV.le_lit rfl rfl, trivial⟩ ⟨⟨_, rfl, rfl⟩, trivial⟩ rfl rfl rfl ?_; conv => whnf) | (refine CallX.of (zWrB (txF pasP (l.take i)) (lnB (pasP (l.getD i pa0))) (by unfold lnB; simp only [List.length_append, List.length_singleton]; omega)) [(1000001, 5), (1000002, 40), (14, 41)] rfl ⟨lr, lr, trivial⟩ ⟨rr, rr, trivial⟩ rfl rfl ?_; rintro x rout ⟨rfl, rfl⟩; refine ⟨rfl, ?_⟩; conv => whnf) | (refine CallX.of (zStrB (txF pasP (l.take i)) (.ptr 1000001 0)) [(1000001, 5), (1000002, 40)] rfl ⟨lr, trivial⟩ ⟨rr, rr, trivial⟩ rfl rfl ?_; rintro x rout ⟨rfl, rfl⟩; refine ⟨rfl, ?_⟩; conv => whnf) | (refine br_intro ?_ ?_ <;> intro hb <;> (try simp only [brs] at hb) <;> conv => whnf) | omega | (refine And.intro ?_ ?_; ((try dsimp only); first | omega | (refine szA rfl ?_; omega) | (refine szB rfl ?_; omega) | (unfold inI64; omega) | exact rfl | (simp only [List.toList_toArray, List.length_cons, List.length_nil]; omega) | (simp only [lns] at *; omega) | decide | (unfold inI64; decide)); conv => whnf) | decide | assumption)
 · have hlt : i < l.length := by omega
   refine ⟨i + 1, by omega, by omega, ?_⟩
   rw [txF_snoc (d := pa0) hlt]
   exact (by (refine Entails.mk' [(1000009, 1000009), (5, 5), (40, 41)] rfl rfl ?_ ?_ <;> repeat' (first | exact True.intro | exact lr | exact rr | exact SV.le_int (by omega) | exact SV.le_any _ | refine And.intro ?_ ?_)); done)
 · have : i = l.length := by omega
   subst this
   refine .ret _ ?_
   conv => whnf
   refine ⟨kx, ⟨congrArg SV.tup ?_, rfl⟩, rr, trivial⟩
   repeat' (refine cons_eq ?_ ?_)
   all_goals (conv => lhs; whnf)
   all_goals try (with_reducible rfl)
   · rw [List.take_length]
def oXTpD26_6 : List (Nat × List Nat) := [(0, []), (1, [0]), (2, []), (3, []), (4, [0, 1, 2, 3]), (5, [0, 1, 2, 3, 4]), (6, [0, 1, 2, 3]), (7, [0, 1, 2, 3]), (8, [])]
theorem lpas_eq {a b : Pas} : a = b ↔ ((a.tm = b.tm ∧ a.gate = b.gate) ∧ a.plate = b.plate) ∧ a.cents = b.cents := by cases a; cases b; simp [and_assoc]
instance : DecidableEq Pas := fun _ _ => decidable_of_iff _ lpas_eq.symm
theorem lz26 (l m : List Pas) (hl : l.length ≤ 2^40) : FSpec Tryz.prog 26 [.d (pass l), .d (pass m)] [] (fun x r => x = .d (.bool (decide (l = m))) ∧ r = []) := by
 refine spec_of hT (C := []) Tryz.func26 rfl Tryz.call26 rfl rfl rfl ?_
 conv => whnf
 repeat' (first | (refine br_intro ?_ ?_ <;> intro hb <;> (try simp only [brs] at hb) <;> conv => whnf) | (refine RegX.rule (id := 6) hT rfl [] oXTpD26_6 (by decide +kernel) ?_; conv => whnf) | omega | (refine And.intro ?_ ?_; ((try dsimp only); first | omega | (refine szA rfl ?_; omega) | (refine szB rfl ?_; omega) | (unfold inI64; omega) | exact rfl | (simp only [List.toList_toArray, List.length_cons, List.length_nil]; omega) | (simp only [lns] at *; omega) | decide | (unfold inI64; decide)); conv => whnf) | decide | assumption)
 · refine .ret _ ?_
   conv => whnf
   refine ⟨[], ⟨?_, rfl⟩, trivial⟩
   conv => lhs; whnf
   have : ¬ l = m := fun q => by subst q; simp at hb
   simp [this]
 have hlen : l.length = m.length := by
  omega
 refine LoopX.rule hT (C := []) (ι := Nat) (fun i => i ≤ l.length ∧ ∀ j, j < i → l.getD j pa0 = m.getD j pa0) (fun i => mkSt [(0, .d (pass l)), (1, .d (pass m)), (12, .d (.int .i64 l.length)), (13, .d (.int .i64 i))] []) (fun i => l.length - i) 0 ⟨by simp, fun j hj => absurd hj (Nat.not_lt_zero j)⟩ (by (refine Entails.mk' [] rfl rfl ?_ ?_ <;> repeat' (first | exact True.intro | exact lr | exact rr | exact SV.le_int (by omega) | exact SV.le_any _ | refine And.intro ?_ ?_)); done) ?_
 rintro i ⟨p1, p2⟩
 have e1 : (i : Int).toNat = i := Int.toNat_natCast i
 conv => whnf
 repeat' (first | (refine br_intro ?_ ?_ <;> intro hb <;> (try simp only [brs] at hb) <;> conv => whnf) | (refine RegX.rule (id := 6) hT rfl [] oXTpD26_6 (by decide +kernel) ?_; conv => whnf) | omega | (refine And.intro ?_ ?_; ((try dsimp only); first | omega | (refine szA rfl ?_; omega) | (refine szB rfl ?_; omega) | (unfold inI64; omega) | exact rfl | (simp only [List.toList_toArray, List.length_cons, List.length_nil]; omega) | (simp only [lns] at *; omega) | decide | (unfold inI64; decide)); conv => whnf) | decide | assumption)
 · refine .ret _ ?_
   conv => whnf
   refine ⟨[], ⟨?_, rfl⟩, trivial⟩
   conv => lhs; whnf
   have : ¬ l = m := fun q => by subst q; simp at hb
   simp [this]
 · exact ⟨i + 1, ⟨by omega, all_step p2 (by rw [lpas_eq]; simpa [and_assoc] using hb)⟩, by omega, (by (refine Entails.mk' [] rfl rfl ?_ ?_ <;> repeat' (first | exact True.intro | exact lr | exact rr | exact SV.le_int (by omega) | exact SV.le_any _ | refine And.intro ?_ ?_)); done)⟩
 · refine .ret _ ?_
   conv => whnf
   refine ⟨[], ⟨?_, rfl⟩, trivial⟩
   conv => lhs; whnf
   have : i = l.length := by omega
   subst this
   simp [eq_of_getD pa0 hlen p2]
theorem pSh_tx {l : List Pas} {k : Nat} (h : pSh l k) (hk : k ≤ 2^15) : l.length ≤ 2^15 ∧ ∀ p ∈ l, pas1 p :=
 ⟨by have := h.1; omega, fun p hp => by
   obtain ⟨h1, h2, h3, h4, h5⟩ := h.2 p hp
   exact ⟨⟨by omega, by omega⟩, ⟨by omega, by omega⟩, by omega, by omega⟩⟩
end Go.Proofs.YtgeakdcbpjmkbaaGreatDoor
namespace Go.Proofs
open Go.Shelf
end Go.Proofs
set_option maxRecDepth 20000
namespace Go.Proofs.YtgeakdcbpjmkbaaGreatDoor
open Go Go.Eng Go.RowKit
end Go.Proofs.YtgeakdcbpjmkbaaGreatDoor
namespace Go.Proofs
open Go.Shelf
end Go.Proofs
set_option maxRecDepth 20000
namespace Go.Proofs.YtgeakdcbpjmkbaaGreatDoor
open Go Go.Eng Go.Shelf
end Go.Proofs.YtgeakdcbpjmkbaaGreatDoor
set_option maxRecDepth 20000
namespace Go.Proofs.YtgeakdcbpjmkbaaGreatDoor
open Go Go.Eng Go.Shelf Go.RowKit
theorem mrk_eq {a b : Mrk} : a = b ↔ (((a.pan = b.pan ∧ a.kind = b.kind) ∧ a.x = b.x) ∧ a.y = b.y) ∧ a.size = b.size := by cases a; cases b; simp [and_assoc]
instance : DecidableEq Mrk := fun _ _ => decidable_of_iff _ mrk_eq.symm
theorem ixB {c : UInt8} {b : List UInt8} : ∀ {a : List UInt8}, c ∉ a → Lib.index (a ++ c :: b) [c] = a.length
 | [], _ => by simp [Lib.index, List.isPrefixOf]
 | x :: r, h => by
   have h1 : ¬ c = x := fun e => h (by simp [e])
   have h2 := ixB (b := b) (a := r) (fun q => h (List.mem_cons_of_mem _ q))
   rw [List.cons_append, Lib.index, h2]
   simp [List.isPrefixOf, h1]
theorem ixB0 {c : UInt8} : ∀ {a : List UInt8}, c ∉ a → Lib.index a [c] = -1
 | [], _ => by simp [Lib.index]
 | x :: r, h => by
   have h1 : ¬ c = x := fun e => h (by simp [e])
   have h2 := ixB0 (a := r) (fun q => h (List.mem_cons_of_mem _ q))
   rw [Lib.index, h2]
   simp [List.isPrefixOf, h1]
theorem cutB {a b : List UInt8} {c : UInt8} (h : c ∉ a) : Lib.cut (a ++ c :: b) [c] = (a, b, true) := by
 unfold Lib.cut
 rw [ixB h, if_pos (by omega)]
 simp
theorem join_cc (x y : List UInt8) (r : List (List UInt8)) (sep : List UInt8) : Lib.join (x :: y :: r) sep = x ++ sep ++ Lib.join (y :: r) sep := by
 rw [Lib.join_cons, Lib.join_cons]; simp [Lib.joinTail]
theorem splitK_join {c : UInt8} : ∀ (ws : List (List UInt8)) (k : Nat), ws ≠ [] → (∀ w ∈ ws, c ∉ w) → ws.length ≤ k + 1 → Lib.splitK [c] 0 k (Lib.join ws [c]) = ws
 | [], _, h, _, _ => absurd rfl h
 | [x], k, _, h, _ => by
   rw [Lib.join_one]
   cases k with
   | zero => rfl
   | succ k => unfold Lib.splitK; rw [ixB0 (h x (by simp))]; simp
 | x :: y :: r, k, _, h, hk => by
   obtain ⟨k, rfl⟩ : ∃ m, k = m + 1 := ⟨k - 1, by simp at hk; omega⟩
   rw [join_cc, List.append_assoc, List.singleton_append]
   unfold Lib.splitK
   rw [ixB (h x (by simp))]
   have ih := splitK_join (c := c) (y :: r) k (by simp) (fun w hw => h w (List.mem_cons_of_mem _ hw)) (by simp at hk ⊢; omega)
   have e : (x ++ c :: Lib.join (y :: r) [c]).drop (x.length + 1) = Lib.join (y :: r) [c] := by simp
   have q : ¬ ((x.length : Int) == -1) = true := by simp
   rw [if_neg q]
   simp only [Int.toNat_natCast, Nat.add_zero, List.length_singleton, e, ih, List.take_left]
theorem count_join {c : UInt8} : ∀ (ws : List (List UInt8)) (f : Nat), ws ≠ [] → (∀ w ∈ ws, c ∉ w) → ws.length ≤ f → ws.length ≤ Lib.countFrom [c] f (Lib.join ws [c]) + 1
 | [], _, h, _, _ => absurd rfl h
 | [x], f, _, h, _ => by simp
 | x :: y :: r, f, _, h, hf => by
   obtain ⟨f, rfl⟩ : ∃ m, f = m + 1 := ⟨f - 1, by simp at hf; omega⟩
   rw [join_cc, List.append_assoc, List.singleton_append]
   unfold Lib.countFrom
   rw [ixB (h x (by simp))]
   have ih := count_join (c := c) (y :: r) f (by simp) (fun w hw => h w (List.mem_cons_of_mem _ hw)) (by simp at hf ⊢; omega)
   have e : (x ++ c :: Lib.join (y :: r) [c]).drop (x.length + 1) = Lib.join (y :: r) [c] := by simp
   have q : ¬ ((x.length : Int) == -1) = true := by simp
   rw [if_neg q]
   simp only [Int.toNat_natCast, List.length_singleton, e]
   simp only [List.length_cons] at ih ⊢
   omega
theorem join_ge (c : UInt8) : ∀ (ws : List (List UInt8)), ws.length ≤ (Lib.join ws [c]).length + 1
 | [] => by simp
 | [x] => by simp
 | x :: y :: r => by
   have := join_ge c (y :: r)
   rw [join_cc]
   simp only [List.length_append, List.length_cons, List.length_nil] at this ⊢
   omega
theorem split_join {c : UInt8} {ws : List (List UInt8)} (h0 : ws ≠ []) (h : ∀ w ∈ ws, c ∉ w) : Lib.split (Lib.join ws [c]) [c] = ws :=
 splitK_join ws _ h0 h (count_join ws _ h0 h (join_ge c ws))
theorem dig_nat (d : Nat) (h : d < 10) : (UInt8.ofNat (48 + d)).toNat = 48 + d := by
 have : ∀ d, d < 10 → (UInt8.ofNat (48 + d)).toNat = 48 + d := by decide
 exact this d h
theorem parse_dec : ∀ (n u : Nat), u ≤ n → u < 10 ^ 12 → ∀ r, Lib.parseUint10 0 (Lib.decDigits u ++ r) = Lib.parseUint10 u r := by
 intro n
 induction n with
 | zero =>
   intro u hu h r
   rw [Lib.decDigits, dif_pos (by omega), List.singleton_append, Lib.parseUint10, dig_nat u (by omega)]
   rw [if_pos (by omega), if_neg (by omega), if_neg (by omega)]
   congr 1; omega
 | succ n ih =>
   intro u hu h r
   rw [Lib.decDigits]
   split
   · rename_i h10
     rw [List.singleton_append, Lib.parseUint10, dig_nat u h10]
     rw [if_pos (by omega), if_neg (by omega), if_neg (by omega)]
     congr 1; omega
   · rename_i h10
     have hm : u % 10 < 10 := Nat.mod_lt _ (by decide)
     rw [List.append_assoc, ih (u / 10) (by omega) (by omega), List.singleton_append, Lib.parseUint10, dig_nat _ hm]
     rw [if_pos (by omega), if_neg (by omega), if_neg (by omega)]
     congr 1; omega
theorem mag_dec (u : Nat) (h : u < 10 ^ 12) : Lib.parseMag (Lib.decDigits u) = .ok u := by
 unfold Lib.parseMag
 rw [if_neg (dec_digits (u + 1) u (by omega)).1]
 have := parse_dec u u (Nat.le_refl _) h []
 rw [List.append_nil] at this
 rw [this, Lib.parseUint10]
theorem atoi_itoa (n : Int) (h0 : -10 ^ 9 < n) (h1 : n < 10 ^ 9) : Lib.atoiAll (Lib.itoa n) = .ok n := by
 unfold Lib.itoa
 split
 · rename_i hn
   unfold Lib.atoiAll
   have e45 : (45 : UInt8).toNat = 45 := rfl
   simp only [e45]
   rw [if_pos (Or.inr trivial), mag_dec _ (by omega)]
   simp only
   rw [if_neg (by simp), if_neg (by simp; omega)]
   simp; omega
 · rename_i hn
   have hm := mag_dec n.toNat (by omega)
   obtain ⟨d1, d2⟩ := dec_digits (n.toNat + 1) n.toNat (by omega)
   cases hd : Lib.decDigits n.toNat with
   | nil => exact absurd hd d1
   | cons b r =>
     rw [hd] at hm
     have hb := d2 b (by rw [hd]; exact List.mem_cons_self)
     have hb2 : b.toNat ≠ 43 ∧ b.toNat ≠ 45 := by
      simp only [digs, List.contains_eq_mem, List.mem_cons, List.not_mem_nil, or_false, decide_eq_true_eq] at hb
      rcases hb with rfl | rfl | rfl | rfl | rfl | rfl | rfl | rfl | rfl | rfl <;> decide
     unfold Lib.atoiAll
     simp only
     rw [if_neg (by omega), hm]
     simp only
     rw [if_neg (by omega), if_neg (by omega), if_neg (by omega)]
     simp; omega
theorem num_itoa {n : Int} (h0 : -10 ^ 9 < n) (h1 : n < 10 ^ 9) : numN (Lib.itoa n) = n ∧ numOk (Lib.itoa n) = true := by
 have h := atoi_itoa n h0 h1
 refine ⟨by unfold numN; rw [h], ?_⟩
 unfold numOk isAtoi
 rw [h, trim_itoa]
 have := dec_len 8 n.natAbs (by omega)
 simp; omega
theorem itoa_ch {n : Int} {c : UInt8} (h : c ∈ Lib.itoa n) : c = 45 ∨ digs.contains c = true := by
 unfold Lib.itoa at h
 split at h
 · rcases List.mem_cons.1 h with q | q
   · exact .inl q
   · exact .inr ((dec_digits (n.natAbs + 1) n.natAbs (by omega)).2 c q)
 · exact .inr ((dec_digits (n.toNat + 1) n.toNat (by omega)).2 c h)
theorem itoa_ne (n : Int) : Lib.itoa n ≠ [] := by
 unfold Lib.itoa
 split
 · simp
 · exact (dec_digits (n.toNat + 1) n.toNat (by omega)).1
theorem itoa_32 (n : Int) : (32 : UInt8) ∉ Lib.itoa n := fun h => by
 rcases itoa_ch h with q | q
 · revert q; decide
 · revert q; decide
theorem itoa_10 (n : Int) : (10 : UInt8) ∉ Lib.itoa n := fun h => by
 rcases itoa_ch h with q | q
 · revert q; decide
 · revert q; decide
theorem join_no {c : UInt8} {sep : List UInt8} (hs : c ∉ sep) : ∀ {ws : List (List UInt8)}, (∀ w ∈ ws, c ∉ w) → c ∉ Lib.join ws sep
 | [], _ => by simp [Lib.join_nil]
 | [x], h => by rw [Lib.join_one]; exact h x (by simp)
 | x :: y :: r, h => by
   have ih := join_no hs (ws := y :: r) (fun w hw => h w (List.mem_cons_of_mem _ hw))
   have hx := h x (by simp)
   rw [join_cc]
   simp only [List.mem_append, not_or]
   exact ⟨⟨hx, hs⟩, ih⟩
theorem lines_back {α : Type} {tk : List UInt8 → List α → Bool × List α} {pf : α → List Part} {Q : α → Prop}
 (h1 : ∀ p, Q p → (10 : UInt8) ∉ Lib.join ((pf p).map partS) [32]) (h2 : ∀ p l, Q p → tk (Lib.join ((pf p).map partS) [32]) l = (true, l ++ [p])) :
 ∀ (m : List α) (n a : Nat) (l : List α), (∀ p ∈ m, Q p) → m.length < n → lnsF tk n a (txF pf m) l = ((0, true), l ++ m)
 | [], n, a, l, _, hn => by
   obtain ⟨n, rfl⟩ : ∃ k, n = k + 1 := ⟨n - 1, by simp at hn; omega⟩
   simp [lnsF, txF]
 | p :: m, n, a, l, hq, hn => by
   obtain ⟨n, rfl⟩ : ∃ k, n = k + 1 := ⟨n - 1, by simp at hn; omega⟩
   have hp := hq p (by simp)
   have e : txF pf (p :: m) = Lib.join ((pf p).map partS) [32] ++ 10 :: txF pf m := by simp [txF, lnB]
   have hc := cutB (b := txF pf m) (h1 p hp)
   rw [e]
   unfold lnsF
   rw [if_neg (by simp), hc]
   simp only
   rw [if_neg (by simp), h2 p l hp]
   simp only
   rw [if_neg (by simp), lines_back h1 h2 m n (a + 1) (l ++ [p]) (fun q hm => hq q (List.mem_cons_of_mem _ hm)) (by simp at hn ⊢; omega)]
   simp
theorem txF_ge {α : Type} {pf : α → List Part} : ∀ (l : List α), l.length ≤ (txF pf l).length
 | [] => by simp
 | x :: r => by
   have := txF_ge (pf := pf) r
   simp only [txF, List.map_cons, List.flatten_cons, List.length_append, List.length_cons, lnB, List.length_nil] at this ⊢
   omega
theorem txF_le {α : Type} {pf : α → List Part} {N : Nat} : ∀ {l : List α}, (∀ p ∈ l, (lnB (pf p)).length ≤ N) → (txF pf l).length ≤ l.length * N := by
 intro l
 induction l with
 | nil => intro _; simp [txF]
 | cons x r ih =>
   intro h
   have h1 := h x List.mem_cons_self
   have h2 := ih (fun p hp => h p (List.mem_cons_of_mem _ hp))
   simp only [txF, List.map_cons, List.flatten_cons, List.length_append, List.length_cons] at h2 ⊢
   rw [Nat.add_mul, Nat.one_mul]; omega
theorem key_no {s : List UInt8} (h : isKeyB s = true) : ((32 : UInt8) ∉ s ∧ (10 : UInt8) ∉ s) ∧ s ≠ [] ∧ s.length ≤ 40 := by
 unfold isKeyB at h
 rw [Bool.and_eq_true, Bool.and_eq_true] at h
 obtain ⟨⟨h1, h2⟩, h3⟩ := h
 have hc : ∀ c ∈ s, c ≠ 32 ∧ c ≠ 10 := fun c hc => by
  obtain ⟨i, hi, rfl⟩ := mem_getD (d := 0) hc
  have := List.all_eq_true.1 h1 i (List.mem_range.2 hi)
  rw [keyCh_iff] at this
  constructor
  · intro e; rw [e] at this; revert this; show ¬ _; simp
  · intro e; rw [e] at this; revert this; show ¬ _; simp
 exact ⟨⟨fun q => (hc _ q).1 rfl, fun q => (hc _ q).2 rfl⟩, by simpa using h2, by simpa using h3⟩
theorem redF_back {α : Type} {tk : List UInt8 → List α → Bool × List α} {fe : List α → Int} {pf : α → List Part} {Q : α → Prop} {l : List α}
 (h1 : ∀ p, Q p → (10 : UInt8) ∉ Lib.join ((pf p).map partS) [32]) (h2 : ∀ p l, Q p → tk (Lib.join ((pf p).map partS) [32]) l = (true, l ++ [p]))
 (hq : ∀ p ∈ l, Q p) (hf : fe l = 0) (hs : (txF pf l).length ≤ 200000) : redF tk fe (txF pf l) = (l, 0, 0) := by
 have hb := lines_back h1 h2 l ((txF pf l).length + 1) 0 [] hq (by have := txF_ge (pf := pf) l; omega)
 unfold redF
 rw [hb]
 have : decide (200000 < (txF pf l).length) = false := by simp; omega
 simp [this, hf]
def oXDNtA175_8 : List (Nat × List Nat) := [(0, []), (1, []), (2, []), (3, []), (4, []), (5, [3, 4]), (6, [3, 4, 5]), (7, [3, 4, 5]), (8, [3, 4]), (9, [3, 4]), (10, [3, 4]), (11, []), (12, []), (13, [])]
def oXDNtA107_1 : List (Nat × List Nat) := [(0, []), (2, [0]), (3, [0]), (5, [0, 2, 3]), (7, [0, 2, 3, 5]), (8, [0, 2, 3, 5, 7]), (9, [0, 2, 3, 5, 7]), (10, [0, 2, 3, 5]), (1, [2, 3, 5, 7, 8, 9, 10]), (4, [5, 7, 8, 9, 10]), (6, [7, 8, 9, 10]), (11, []), (12, []), (13, []), (14, [])]
def oXDNtA107_5 : List (Nat × List Nat) := [(0, []), (1, []), (2, [0, 1]), (3, [0, 1, 2]), (4, [0, 1, 2]), (5, [0, 1]), (6, [0, 1]), (7, [0, 1, 2, 3, 4, 5, 6]), (8, [0, 1, 2, 3, 4, 5, 6]), (9, [0, 1]), (10, [0, 1, 2, 3, 4, 5, 6, 7, 8, 9]), (11, [0, 1, 2, 3, 4, 5, 6, 7, 8, 9]), (12, [0, 1]), (13, []), (14, []), (15, [])]
structure Ntr where
 name : Int
 pay : Int
 step : Int
 late : Int
def ntrF : Ntr → List DV := fun r => [.int .i64 r.name, .int .i64 r.pay, .int .i64 r.step, .int .i64 r.late]
structure Ntc where
 key : List UInt8
 plate : List UInt8
 tm : Int
 came : Int
 cents : Int
def ntcF : Ntc → List DV := fun n => [.str n.key, .str n.plate, .int .i64 n.tm, .int .i64 n.came, .int .i64 n.cents]
def ntc0 : Ntc := ⟨[], [], 0, 0, 0⟩
abbrev ntcs (l : List Ntc) : DV := seqD 5 ntcF ntc0 l
def ntrE (r : Ntr) : Int := if (0 ≤ r.name ∧ r.name ≤ 4000) ∧ (0 ≤ r.pay ∧ r.pay ≤ 4000) ∧ (1 ≤ r.step ∧ r.step ≤ 4000) ∧ (0 ≤ r.late ∧ r.late ≤ 1000000) then 0 else 1
def ntcE (l : List Ntc) (i : Nat) : Int :=
 if isKeyB (l.getD i ntc0).key = false then 5 else if 0 < i ∧ strLe (l.getD i ntc0).key (l.getD (i - 1) ntc0).key = true then 7 else if isPlateB (l.getD i ntc0).plate = false then 3
 else if ¬ ((0 ≤ (l.getD i ntc0).tm ∧ (l.getD i ntc0).tm ≤ (l.getD i ntc0).came) ∧ (0 ≤ (l.getD i ntc0).came ∧ (l.getD i ntc0).came ≤ 5761439) ∧ (0 ≤ (l.getD i ntc0).cents ∧ (l.getD i ntc0).cents ≤ 1000000)) then 1 else 0
def ntcsE (l : List Ntc) : Int := if 200 < l.length then 2 else firstAt (ntcE l) l.length
def ntK (n : Ntc) : Prop := n.key.length ≤ 2^40 ∧ n.plate.length ≤ 2^40
def ntOk (l : List Ntc) : Prop := l.length ≤ 2^40 ∧ ∀ x ∈ l, ntK x
theorem sNtRules (r : Ntr) : FSpec Tryz.prog 174 [.agg ((ntrF r).map .d)] [] (fun x o => x = .d (.int .i64 (ntrE r)) ∧ o = []) := by
 refine spec_of hT (C := []) Tryz.func174 rfl Tryz.call174 rfl rfl rfl ?_
 conv => whnf
 repeat' (first | (refine CallX.exact (s119 _ _ _) rfl rfl ?_; rotate_right; conv => whnf) | (refine CallX.exact (s107 _ _) rfl rfl ?_; rotate_right; conv => whnf) | (refine br_intro ?_ ?_ <;> intro hb <;> (try simp only [brs] at hb) <;> conv => whnf) | omega | (refine And.intro ?_ ?_; ((try dsimp only); first | omega | (refine szA rfl ?_; omega) | (refine szB rfl ?_; omega) | (unfold inI64; omega) | exact rfl | (simp only [List.toList_toArray, List.length_cons, List.length_nil]; omega) | (simp only [lns] at *; omega) | decide | (unfold inI64; decide)); conv => whnf) | decide | assumption)
 all_goals
  refine .ret _ ?_
  conv => whnf
  refine ⟨[], ⟨?_, rfl⟩, trivial⟩
  conv => lhs; whnf
  congr 2
  unfold ntrE; grind
theorem sMoment (n : Int) : FSpec Tryz.prog 176 [.d (.int .i64 n)] [] (fun x o => x = .d (.int .i64 (if 0 ≤ n ∧ n ≤ 5761439 then 0 else 1)) ∧ o = []) := by
 refine spec_of hT (C := []) Tryz.func176 rfl Tryz.call176 rfl rfl rfl ?_
 conv => whnf
 repeat' (first | (refine CallX.exact (s154 _) rfl rfl ?_; rotate_right; conv => whnf) | (refine CallX.exact (s107 _ _) rfl rfl ?_; rotate_right; conv => whnf) | (refine br_intro ?_ ?_ <;> intro hb <;> (try simp only [brs] at hb) <;> conv => whnf) | omega | (refine And.intro ?_ ?_; ((try dsimp only); first | omega | (refine szA rfl ?_; omega) | (refine szB rfl ?_; omega) | (unfold inI64; omega) | exact rfl | (simp only [List.toList_toArray, List.length_cons, List.length_nil]; omega) | (simp only [lns] at *; omega) | decide | (unfold inI64; decide)); conv => whnf) | decide | assumption)
 refine .ret _ ?_
 conv => whnf
 refine ⟨[], ⟨?_, rfl⟩, trivial⟩
 conv => lhs; whnf
 congr 2
 grind
theorem sNotices (l : List Ntc) (hk : ntOk l) : FSpec Tryz.prog 175 [.d (ntcs l)] [] (fun x r => x = .d (.int .i64 (ntcsE l)) ∧ r = []) := by
 refine spec_of hT (C := []) Tryz.func175 rfl Tryz.call175 rfl rfl rfl ?_
 conv => whnf
 refine br_intro (fun h0 => ?_) (fun h0 => ?_)
 · simp at h0
   conv => whnf
   refine .ret _ ?_
   conv => whnf
   refine ⟨[], ⟨?_, rfl⟩, trivial⟩
   conv => lhs; whnf
   unfold ntcsE; rw [if_pos (by omega)]
 simp at h0
 conv => whnf
 refine LoopX.rule hT (C := []) (ι := Nat) (fun i => i ≤ l.length ∧ ∀ j, j < i → ntcE l j = 0) (fun i => mkSt [(0, .d (ntcs l)), (8, .d (ntcs l)), (9, .d (.int .i64 l.length)), (10, .d (.int .i64 i))] []) (fun i => l.length - i) 0 ⟨by omega, by omega⟩ (by (refine Entails.mk' [] rfl rfl ?_ ?_ <;> repeat' (first | exact True.intro | exact lr | exact rr | exact SV.le_int (by omega) | exact SV.le_any _ | refine And.intro ?_ ?_)); done) ?_
 rintro i ⟨p1, p2⟩
 have hx : (i : Int) < l.length → ntK (l.getD (i : Int).toNat ntc0) := fun hi => hk.2 _ (getD_mem (by omega))
 have e1 : (i : Int).toNat = i := Int.toNat_natCast i
 have hbad : ∀ e : Int, i < l.length → e ≠ 0 → ntcE l i = e → ntcsE l = e := fun e h h1 h2 => by
  unfold ntcsE; rw [if_neg (by omega)]
  exact firstAt_eq h p2 h1 h2
 conv => whnf
 repeat' (first | (refine CallX.exact (s108 _ (hx (by omega)).1) rfl rfl ?_; rotate_right; conv => whnf) | (refine CallX.exact (s185 _ (hx (by omega)).2) rfl rfl ?_; rotate_right; conv => whnf) | (refine CallX.exact (s119 _ _ _) rfl rfl ?_; rotate_right; conv => whnf) | (refine CallX.exact (s154 _) rfl rfl ?_; rotate_right; conv => whnf) | (refine br_intro ?_ ?_ <;> intro hb <;> (try simp only [brs] at hb) <;> conv => whnf) | (refine RegX.rule (id := 8) hT rfl [] oXDNtA175_8 (by decide +kernel) ?_; conv => whnf) | omega | (refine And.intro ?_ ?_; ((try dsimp only); first | omega | (refine szA rfl ?_; omega) | (refine szB rfl ?_; omega) | (unfold inI64; omega) | exact rfl | (simp only [List.toList_toArray, List.length_cons, List.length_nil]; omega) | (simp only [lns] at *; omega) | decide | (unfold inI64; decide)); conv => whnf) | decide | assumption)
 all_goals first
  | (refine ⟨i + 1, ⟨by omega, first_step p2 (by clear p2 hbad hk hx; simp only [e1, toNat_pred] at *; unfold ntcE strLe; grind)⟩, by omega, (by (refine Entails.mk' [] rfl rfl ?_ ?_ <;> repeat' (first | exact True.intro | exact lr | exact rr | exact SV.le_int (by omega) | exact SV.le_any _ | refine And.intro ?_ ?_)); done)⟩)
  | (refine .ret _ ?_
     conv => whnf
     refine ⟨[], ⟨?_, rfl⟩, trivial⟩
     conv => lhs; whnf
     congr 2
     first
      | exact (hbad _ (by omega) (by decide) (by clear p2 hbad hk hx; simp only [e1, toNat_pred] at *; unfold ntcE strLe; grind)).symm
      | (have : i = l.length := by omega
         subst this
         unfold ntcsE; rw [if_neg (by omega), firstAt_zero p2]))
def dueE (r : Ntr) (n : Ntc) (t : Int) : Int := firstE [ntrE r, ntcsE [n], if 0 ≤ t ∧ t ≤ 5761439 then 0 else 1, if t < n.came then 11 else 0]
def dueO (r : Ntr) (n : Ntc) (t : Int) : Int := (max 0 (t.tdiv 1440 - n.came.tdiv 1440 - r.pay) + r.step - 1).tdiv r.step
def dueV (r : Ntr) (n : Ntc) (t : Int) : Int := n.cents + dueO r n t * r.late
theorem ntc_one {n : Ntc} (h : ntcsE [n] = 0) : isKeyB n.key = true ∧ isPlateB n.plate = true ∧ (0 ≤ n.tm ∧ n.tm ≤ n.came) ∧ (0 ≤ n.came ∧ n.came ≤ 5761439) ∧ (0 ≤ n.cents ∧ n.cents ≤ 1000000) := by
 have h : ntcE [n] 0 = 0 := by simpa [ntcsE, firstAt] using h
 unfold ntcE at h
 simp only [List.getD_cons_zero] at h
 grind
theorem ntr_zero {r : Ntr} (h : ntrE r = 0) : (0 ≤ r.name ∧ r.name ≤ 4000) ∧ (0 ≤ r.pay ∧ r.pay ≤ 4000) ∧ (1 ≤ r.step ∧ r.step ≤ 4000) ∧ (0 ≤ r.late ∧ r.late ≤ 1000000) := by unfold ntrE at h; grind
theorem dueE_zero {r : Ntr} {n : Ntc} {t : Int} (h : dueE r n t = 0) : ntrE r = 0 ∧ ntcsE [n] = 0 ∧ (0 ≤ t ∧ t ≤ 5761439) ∧ n.came ≤ t := by
 unfold dueE at h
 simp only [firstE] at h
 grind
theorem mul_bdN {a b A B : Int} (h0 : 0 ≤ a) (h1 : a ≤ A) (h2 : 0 ≤ b) (h3 : b ≤ B) : 0 ≤ a * b ∧ a * b ≤ A * B :=
 ⟨Int.mul_nonneg h0 h2, Int.mul_le_mul h1 h3 h2 (by omega)⟩
theorem tdiv_bd {a b : Int} (h0 : 0 ≤ a) (h1 : 1 ≤ b) : 0 ≤ a.tdiv b ∧ a.tdiv b ≤ a := by
 refine ⟨Int.tdiv_nonneg h0 (by omega), ?_⟩
 have h4 := Int.tmod_add_mul_tdiv a b
 have h2 : 0 ≤ a.tmod b := Int.tmod_nonneg _ h0
 have h5 : a.tdiv b * 1 ≤ a.tdiv b * b := Int.mul_le_mul_of_nonneg_left h1 (Int.tdiv_nonneg h0 (by omega))
 rw [Int.mul_comm] at h4
 omega
theorem dueO_bd {r : Ntr} {n : Ntc} {t : Int} (h1 : ntrE r = 0) (hc : 0 ≤ n.came) (ht : n.came ≤ t) (ht2 : t ≤ 5761439) : 0 ≤ dueO r n t ∧ dueO r n t ≤ 10000 := by
 obtain ⟨_, h2, h3, _⟩ := ntr_zero h1
 unfold dueO
 have a1 := tdiv_bd (a := t) (b := 1440) (by omega) (by omega)
 have a2 := tdiv_bd (a := n.came) (b := 1440) (by omega) (by omega)
 have h4 := Int.tmod_add_mul_tdiv t 1440
 have h5 : 0 ≤ t.tmod 1440 := Int.tmod_nonneg _ (by omega)
 obtain ⟨q, hq⟩ : ∃ q, q = max 0 (t.tdiv 1440 - n.came.tdiv 1440 - r.pay) + r.step - 1 := ⟨_, rfl⟩
 have hq0 : 0 ≤ q ∧ q ≤ 10000 := by omega
 rw [← hq]
 have := tdiv_bd hq0.1 h3.1
 omega
def dueW (r : Ntr) (n : Ntc) (t : Int) : SV := if dueE r n t = 0 then .tup [.d (.int .i64 (dueV r n t)), .d (.int .i64 0)] else .tup [.d (.int .i64 0), .d (.int .i64 (dueE r n t))]
theorem ntOk_one {n : Ntc} (h : ntK n) : ntOk [n] := ⟨by simp, fun x hx => by rw [List.mem_singleton] at hx; rw [hx]; exact h⟩
theorem sDue (r : Ntr) (n : Ntc) (t : Int) (hn : ntK n) : FSpec Tryz.prog 107 [.agg ((ntrF r).map .d), .agg ((ntcF n).map .d), .d (.int .i64 t)] [] (fun x o => x = dueW r n t ∧ o = []) := by
 have h105 := s105 [ntrE r, ntcsE [n], if 0 ≤ t ∧ t ≤ 5761439 then 0 else 1, if decide (t < n.came) = true then 11 else 0] (by simp)
 have hE : firstE [ntrE r, ntcsE [n], if 0 ≤ t ∧ t ≤ 5761439 then 0 else 1, if decide (t < n.came) = true then 11 else 0] = dueE r n t := by
  unfold dueE; simp only [decide_eq_true_eq]
 rw [hE] at h105
 unfold dueW
 by_cases hz : dueE r n t = 0
 · rw [if_pos hz]
   rw [hz] at h105
   obtain ⟨h1, h2, h3, h4⟩ := dueE_zero hz
   obtain ⟨_, _, _, h5, h6⟩ := ntc_one h2
   obtain ⟨_, h7, h8, h9⟩ := ntr_zero h1
   have hO := dueO_bd h1 h5.1 h4 h3.2
   have hM := mul_bdN hO.1 hO.2 h9.1 h9.2
   have a1 := tdiv_bd (a := t) (b := 1440) (by omega) (by omega)
   have a2 := tdiv_bd (a := n.came) (b := 1440) (by omega) (by omega)
   have hM1 : inI64 (dueO r n t * r.late) := by unfold inI64; omega
   have hM2 : inI64 (dueV r n t) := by unfold dueV inI64; omega
   have hq : inI64 (max 0 (t.tdiv 1440 - n.came.tdiv 1440 - r.pay) + r.step) := by unfold inI64; omega
   have hq2 : inI64 (max 0 (t.tdiv 1440 - n.came.tdiv 1440 - r.pay) + r.step - 1) := by unfold inI64; omega
   have hq3 : inI64 (dueO r n t) := by unfold inI64; omega
   refine spec_of hT (C := []) Tryz.func107 rfl Tryz.call107 rfl rfl rfl ?_
   conv => whnf
   repeat' (first | (refine CallX.exact (sNtRules r) rfl rfl ?_; rotate_right; conv => whnf) | (refine CallX.pure (sNotices [n] (ntOk_one hn)) ⟨SV.le_lit (by rfl) (by rfl), trivial⟩ rfl ?_; conv => whnf) | (refine CallX.exact (sMoment t) rfl rfl ?_; rotate_right; conv => whnf) | (refine CallX.exact (s107 _ _) rfl rfl ?_; rotate_right; conv => whnf) | (refine CallX.pure h105 ⟨SV.le_lit (by rfl) (by rfl), trivial⟩ rfl ?_; conv => whnf) | (refine And.intro hq ?_; conv => whnf) | (refine And.intro hq2 ?_; conv => whnf) | (refine And.intro hq3 ?_; conv => whnf) | (refine And.intro hM1 ?_; conv => whnf) | (refine And.intro hM2 ?_; conv => whnf) | (refine br_intro ?_ ?_ <;> intro hb <;> (try simp only [brs] at hb) <;> conv => whnf) | (refine RegX.rule (id := 1) hT rfl [] oXDNtA107_1 (by decide +kernel) ?_; conv => whnf) | (refine RegX.rule (id := 5) hT rfl [] oXDNtA107_5 (by decide +kernel) ?_; conv => whnf) | omega | (refine And.intro ?_ ?_; ((try dsimp only); first | omega | (refine szA rfl ?_; omega) | (refine szB rfl ?_; omega) | (unfold inI64; omega) | exact rfl | (simp only [List.toList_toArray, List.length_cons, List.length_nil]; omega) | (simp only [lns] at *; omega) | decide | (unfold inI64; decide)); conv => whnf) | decide | assumption)
   refine .ret _ ?_
   conv => whnf
   refine ⟨[], ⟨congrArg SV.tup ?_, rfl⟩, trivial⟩
   repeat' (refine cons_eq ?_ ?_)
   all_goals (conv => lhs; whnf)
   all_goals try (with_reducible rfl)
   all_goals rfl
 · rw [if_neg hz]
   generalize dueE r n t = e at h105 hz
   refine spec_of hT (C := []) Tryz.func107 rfl Tryz.call107 rfl rfl rfl ?_
   conv => whnf
   repeat' (first | (refine CallX.exact (sNtRules r) rfl rfl ?_; rotate_right; conv => whnf) | (refine CallX.pure (sNotices [n] (ntOk_one hn)) ⟨SV.le_lit (by rfl) (by rfl), trivial⟩ rfl ?_; conv => whnf) | (refine CallX.exact (sMoment t) rfl rfl ?_; rotate_right; conv => whnf) | (refine CallX.exact (s107 _ _) rfl rfl ?_; rotate_right; conv => whnf) | (refine CallX.pure h105 ⟨SV.le_lit (by rfl) (by rfl), trivial⟩ rfl ?_; conv => whnf) | (refine br_intro ?_ ?_ <;> intro hb <;> (try simp only [brs] at hb) <;> conv => whnf) | (refine RegX.rule (id := 1) hT rfl [] oXDNtA107_1 (by decide +kernel) ?_; conv => whnf) | (refine RegX.rule (id := 5) hT rfl [] oXDNtA107_5 (by decide +kernel) ?_; conv => whnf) | omega | (refine And.intro ?_ ?_; ((try dsimp only); first | omega | (refine szA rfl ?_; omega) | (refine szB rfl ?_; omega) | (unfold inI64; omega) | exact rfl | (simp only [List.toList_toArray, List.length_cons, List.length_nil]; omega) | (simp only [lns] at *; omega) | decide | (unfold inI64; decide)); conv => whnf) | decide | assumption)
   refine .ret _ ?_
   conv => whnf
   refine ⟨[], ⟨congrArg SV.tup ?_, rfl⟩, trivial⟩
   repeat' (refine cons_eq ?_ ?_)
   all_goals (conv => lhs; whnf)
   all_goals try (with_reducible rfl)
   all_goals rfl
end Go.Proofs.YtgeakdcbpjmkbaaGreatDoor
namespace Go.Proofs
open Go.Shelf
def Tryz.laysGrowE_ren : Go.Shelf.Ren := ⟨fun | 4 => 205 | n => n, fun | 22 => 26 | 25 => 39 | 3 => 3 | 4 => 4 | 9 => 9 | 20 => 20 | 0 => 0 | n => n, fun | n => n⟩
theorem Tryz.laysGrowE : Go.Proofs.Lays8.n4 Tryz.prog Tryz.laysGrowE_ren := {
 mixed := by kernel_rfl
 f4 := ⟨Tryz.f205.name, by decide, Tryz.func205.trans (congrArg some (by kernel_rfl))⟩
 t0 := Tryz.underlying0
 a0 := Tryz.isAgg0
 z0 := Tryz.sizeOf0
 v0 := Tryz.zeroValue0
 t3 := Tryz.underlying3
 a3 := Tryz.isAgg3
 z3 := Tryz.sizeOf3
 v3 := Tryz.zeroValue3
 t4 := Tryz.underlying4
 a4 := Tryz.isAgg4
 z4 := Tryz.sizeOf4
 v4 := Tryz.zeroValue4
 t9 := Tryz.underlying9
 a9 := Tryz.isAgg9
 z9 := Tryz.sizeOf9
 v9 := Tryz.zeroValue9
 t20 := Tryz.underlying20
 a20 := Tryz.isAgg20
 z20 := Tryz.sizeOf20
 v20 := Tryz.zeroValue20
 t22 := Tryz.underlying26
 a22 := Tryz.isAgg26
 z22 := Tryz.sizeOf26
 v22 := Tryz.zeroValue26 }
end Go.Proofs
set_option maxRecDepth 20000
namespace Go.Proofs.YtgeakdcbpjmkbaaGreatDoor
open Go Go.Eng Go.RowKit
structure Ent where
 tm : Int
 desk : List UInt8
 no : Int
 words : List UInt8
def enF : Ent → List DV := fun x => [.int .i64 x.tm, .str x.desk, .int .i64 x.no, .str x.words]
def en0 : Ent := ⟨0, [], 0, []⟩
abbrev ents (l : List Ent) : DV := seqD 4 enF en0 l
theorem sGrowE (n : Nat) (hn : n ≤ 2^20) : FSpec Tryz.prog 205 [.d .nilsl, .d (.int .i64 n)] [] (fun y r => y = .buf 1000001 ∧ r = [(1000001, .buf 39 4 0 fun _ => [])]) := by
 refine FSpec.ofRow (by decide) Tryz.call205 (fun G β w vs _ hl hd => ?_)
 match vs, hl with
 | [u, v], _ =>
   have hu := hd 0 _ _ rfl rfl
   have hv := hd 1 _ _ rfl rfl
   cases hu with | d _ _ hu => cases hu with | nilsl =>
   cases hv with | d _ _ hv => cases hv with | int _ _ =>
   by_cases h0 : n = 0
   · subst h0
     refine (Go.Proofs.Any8.slices_Grow_room Go.Proofs.Tryz.laysGrowE none 0 0 0 w (by decide) (by decide) (by decide) (by decide)).mono ?_
     rintro e w' ⟨rfl, rfl⟩
     exact ⟨Below.refl _ _, _, rfl, .inl rfl⟩
   · obtain ⟨_, inf, hi, hsz, hby, hz⟩ := hT.get (t := 39) (i := (T 39).get rfl) rfl
     have hg1 := grownCap_ge w (0 + n) 0 39
     have hg2 := grownCap_le_maxLen w (0 + n) 0 39 (by simp only [maxLen]; omega)
     refine (Go.Proofs.Any8.slices_Grow_grow Go.Proofs.Tryz.laysGrowE inf _ hi hz (by rw [hsz]; decide) none 0 0 n [] w (Nat.le_refl _) (by omega) (by rw [hby]; show (0 + n) * 48 ≤ _; omega) (by omega) (by simp) (fun _ => rfl) (fun a h => by cases h)).mono ?_
     rintro e w' ⟨rfl, rfl⟩
     refine ⟨⟨rfl, rfl, rfl, ?_, fun b hb => ?_⟩, _, rfl, .inr ⟨_, _, _, rfl, Nat.le_refl _, Array.getElem?_push_size, hg2, ?_⟩⟩
     · show w.heap.size ≤ (w.heap.push _).size
       rw [Array.size_push]; omega
     · show (w.heap.push _)[b]? = w.heap[b]?
       rw [Array.getElem?_push]; exact if_neg (by omega)
     · rw [Array.size_append, Array.size_append, size_zeroCells, size_zeroCells]
       show 0 + (0 + n - 0) * 4 + (grownCap w (0 + n) 0 39 - (0 + n)) * 4 = grownCap w (0 + n) 0 39 * 4
       omega
end Go.Proofs.YtgeakdcbpjmkbaaGreatDoor
