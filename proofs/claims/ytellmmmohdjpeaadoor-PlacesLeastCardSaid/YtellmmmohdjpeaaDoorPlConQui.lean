/- PlacesLeast is proved: for every input the law returns true, and its argument reads afterwards as it read before. Conditions: those of the given row alone. -/
import Derived.Shelf.Spec.SlicesGrow
import Derived.Test.YtellmmmohdjpeaaDoorProg
import Derived.Test.YtellmmmohdjpeaaDoorPlConQua
import Derived.Test.YtellmmmohdjpeaaDoorPlEngTwo
set_option linter.unusedVariables false
set_option linter.unusedSimpArgs false
namespace Go.Proofs
open Go.Shelf
def Tryd.lays181_ren : Go.Shelf.Ren := ⟨fun | 4 => 181 | n => n, fun | 22 => 108 | 25 => 140 | 3 => 3 | 4 => 4 | 9 => 9 | 20 => 20 | 0 => 0 | n => n, fun | n => n⟩
theorem Tryd.lays181 : Go.Proofs.Lays8.n4 Tryd.prog Tryd.lays181_ren := {
  mixed := by kernel_rfl
  f4 := ⟨Tryd.f181.name, by decide, Tryd.func181.trans (congrArg some (by kernel_rfl))⟩
  t0 := Tryd.underlying0
  a0 := Tryd.isAgg0
  z0 := Tryd.sizeOf0
  v0 := Tryd.zeroValue0
  t3 := Tryd.underlying3
  a3 := Tryd.isAgg3
  z3 := Tryd.sizeOf3
  v3 := Tryd.zeroValue3
  t4 := Tryd.underlying4
  a4 := Tryd.isAgg4
  z4 := Tryd.sizeOf4
  v4 := Tryd.zeroValue4
  t9 := Tryd.underlying9
  a9 := Tryd.isAgg9
  z9 := Tryd.sizeOf9
  v9 := Tryd.zeroValue9
  t20 := Tryd.underlying20
  a20 := Tryd.isAgg20
  z20 := Tryd.sizeOf20
  v20 := Tryd.zeroValue20
  t22 := Tryd.underlying108
  a22 := Tryd.isAgg108
  z22 := Tryd.sizeOf108
  v22 := Tryd.zeroValue108 }
end Go.Proofs

set_option maxRecDepth 20000
namespace Go.Proofs.YtellmmmohdjpeaaDoor
open Go Go.Eng Go.RowKit
-- slices.Grow of passages, from nil
theorem s181 (n : Nat) (hn : n ≤ 2^20) : FSpec Tryd.prog 181 [.d .nilsl, .d (.int .i64 n)] [] (fun y r => y = .buf 1000001 ∧ r = [(1000001, .buf 140 4 0 fun _ => [])]) := by
  refine FSpec.ofRow (by decide) Tryd.call181 (fun G β w vs _ hl hd => ?_)
  match vs, hl with
  | [u, v], _ =>
    have hu := hd 0 _ _ rfl rfl
    have hv := hd 1 _ _ rfl rfl
    cases hu with | d _ _ hu => cases hu with | nilsl =>
    cases hv with | d _ _ hv => cases hv with | int _ _ =>
    by_cases h0 : n = 0
    · subst h0
      refine (Go.Proofs.Any8.slices_Grow_room Go.Proofs.Tryd.lays181 none 0 0 0 w (by decide) (by decide) (by decide) (by decide)).mono ?_
      rintro e w' ⟨rfl, rfl⟩
      exact ⟨Below.refl _ _, _, rfl, .inl rfl⟩
    · obtain ⟨_, inf, hi, hsz, hby, hz⟩ := hT.get (t := 140) (i := (T 140).get rfl) rfl
      have hg1 := grownCap_ge w (0 + n) 0 140
      have hg2 := grownCap_le_maxLen w (0 + n) 0 140 (by simp only [maxLen]; omega)
      refine (Go.Proofs.Any8.slices_Grow_grow Go.Proofs.Tryd.lays181 inf _ hi hz (by rw [hsz]; decide) none 0 0 n [] w (Nat.le_refl _) (by omega) (by rw [hby]; show (0 + n) * 48 ≤ _; omega) (by omega) (by simp) (fun _ => rfl) (fun a h => by cases h)).mono ?_
      rintro e w' ⟨rfl, rfl⟩
      refine ⟨⟨rfl, rfl, rfl, ?_, fun b hb => ?_⟩, _, rfl, .inr ⟨_, _, _, rfl, Nat.le_refl _, Array.getElem?_push_size, hg2, ?_⟩⟩
      · show w.heap.size ≤ (w.heap.push _).size
        rw [Array.size_push]; omega
      · show (w.heap.push _)[b]? = w.heap[b]?
        rw [Array.getElem?_push]; exact if_neg (by omega)
      · rw [Array.size_append, Array.size_append, size_zeroCells, size_zeroCells]
        show 0 + (0 + n - 0) * 4 + (grownCap w (0 + n) 0 140 - (0 + n)) * 4 = grownCap w (0 + n) 0 140 * 4
        omega
end Go.Proofs.YtellmmmohdjpeaaDoor
set_option maxRecDepth 20000
namespace Go.Proofs.YtellmmmohdjpeaaDoor
open Go Go.Eng
theorem Res.le_appF {α : Type} {f : α → List DV} {d : α} {l m : List α} {e k : Nat} : Res.le (.buf e k (l.length + m.length) (appGet l.length (rowF f d l) (rowF f d m))) (seqB e k f d (l ++ m)) := by
  refine Res.le_buf (by simp) (fun i hi => ?_)
  by_cases h : i < l.length
  · rw [appGet_lt h]; simp only [rowF]; rw [List.getD_eq_getElem?_getD, List.getD_eq_getElem?_getD, List.getElem?_append_left h]
  · rw [appGet_ge (by omega)]; simp only [rowF]; rw [List.getD_eq_getElem?_getD, List.getD_eq_getElem?_getD, List.getElem?_append_right (by omega)]
def psF : List Pas → List DV := fun l => [pass l]
abbrev passs (l : List (List Pas)) : DV := seqD 1 psF [] l
def lens (l : List (List Pas)) : Nat := (l.map List.length).sum
theorem lens_take {l : List (List Pas)} {i : Nat} (h : i < l.length) : lens (l.take (i + 1)) = lens (l.take i) + (l.getD i []).length := by
  unfold lens; rw [take_snocD (d := []) h]; simp
theorem lens_le {l : List (List Pas)} {i : Nat} : lens (l.take i) ≤ lens l := by
  have h := congrArg lens (List.take_append_drop i l)
  have h2 : lens (l.take i ++ l.drop i) = lens (l.take i) + lens (l.drop i) := by unfold lens; rw [List.map_append, List.sum_append]
  omega
theorem flat_len (l : List (List Pas)) : l.flatten.length = lens l := by
  unfold lens; rw [List.length_flatten]
-- slices.Concat of passages
theorem s149 (l : List (List Pas)) (hl : l.length ≤ 2^20) (hn : lens l ≤ 2^20) :
    FSpec Tryd.prog 149 [.d (passs l)] [] (fun y r => y = .buf 6 ∧ r = [(6, seqB 140 4 paF pa0 l.flatten)]) := by
  refine spec_of hT (C := []) Tryd.func149 rfl Tryd.call149 rfl rfl rfl ?_
  conv => whnf
  refine LoopX.rule hT (C := []) (ι := Nat) (fun i => i ≤ l.length) (fun i => mkSt [(0, .d (passs l)), (3, .d (.int .i64 (lens (l.take i)))), (9, .d (passs l)), (10, .d (.int .i64 l.length)), (11, .d (.int .i64 i))] []) (fun i => l.length - i) 0 (by omega) (by refine Entails.mk' [] rfl rfl ?_ ?_ <;> repeat' (first | exact True.intro | exact SV.le_refl _ | exact Res.le_refl _ | exact SV.le_int (by omega) | exact SV.le_any _ | refine And.intro ?_ ?_)) ?_
  rintro i p1
  have e1 : (i : Int).toNat = i := Int.toNat_natCast i
  have hls : lens (l.take i) ≤ lens l := lens_le
  have hls2 : i < l.length → lens (l.take i) + (l.getD (i : Int).toNat []).length ≤ lens l := fun h => by rw [e1, ← lens_take h]; exact lens_le
  conv => whnf
  repeat' (first
    | (refine br_intro (fun hb => ?_) (fun hb => ?_) <;> (try simp only [decide_eq_true_eq, decide_eq_false_iff_not, Bool.not_eq_true', Bool.not_eq_false', Bool.and_eq_true, Bool.or_eq_true, beq_iff_eq, not_and, Int.not_le, Int.not_lt, Int.toNat_natCast, beq_eq_false_iff_ne, ne_eq, eq_self, not_true_eq_false, not_false_eq_true] at hb) <;> (conv => whnf))
    | omega
    | (refine And.intro ?_ ?_; ((try dsimp only); first | omega | (refine ⟨by omega, by omega, Int.le_trans (Int.mul_le_mul_of_nonneg_right (Int.ofNat_le.2 (Nat.le_of_ble_eq_true (rfl : Nat.ble _ 1024 = true))) (by omega)) (by omega), by omega⟩) | (refine Nat.le_trans (Nat.mul_le_mul_left _ (Nat.le_of_ble_eq_true (rfl : Nat.ble _ 1024 = true))) ?_; omega) | (unfold inI64; omega) | (constructor <;> omega) | (simp only [inI64, List.length_cons, List.length_append, List.length_nil, List.length_set] at *; omega) | decide | (unfold inI64; decide)); conv => whnf)
    | omega | decide | assumption)
  · refine ⟨i + 1, by omega, by omega, Entails.mk' [] rfl rfl ⟨SV.le_refl _, SV.le_int ?_, SV.le_refl _, SV.le_refl _, SV.le_refl _, trivial⟩ trivial⟩
    rw [lens_take (by omega), e1]; omega
  have hi : i = l.length := by omega
  subst hi
  rw [List.take_length] at *
  refine CallX.of (s181 (lens l) hn) [(1000001, 24)] rfl ⟨SV.le_refl _, SV.le_refl _, trivial⟩ trivial rfl rfl ?_
  rintro x rout ⟨rfl, rfl⟩
  refine ⟨rfl, ?_⟩
  conv => whnf
  repeat' (first
    | (refine br_intro (fun hb => ?_) (fun hb => ?_) <;> (try simp only [decide_eq_true_eq, decide_eq_false_iff_not, Bool.not_eq_true', Bool.not_eq_false', Bool.and_eq_true, Bool.or_eq_true, beq_iff_eq, not_and, Int.not_le, Int.not_lt, Int.toNat_natCast, beq_eq_false_iff_ne, ne_eq, eq_self, not_true_eq_false, not_false_eq_true] at hb) <;> (conv => whnf))
    | omega
    | (refine And.intro ?_ ?_; ((try dsimp only); first | omega | (refine ⟨by omega, by omega, Int.le_trans (Int.mul_le_mul_of_nonneg_right (Int.ofNat_le.2 (Nat.le_of_ble_eq_true (rfl : Nat.ble _ 1024 = true))) (by omega)) (by omega), by omega⟩) | (refine Nat.le_trans (Nat.mul_le_mul_left _ (Nat.le_of_ble_eq_true (rfl : Nat.ble _ 1024 = true))) ?_; omega) | (unfold inI64; omega) | (constructor <;> omega) | (simp only [inI64, List.length_cons, List.length_append, List.length_nil, List.length_set] at *; omega) | decide | (unfold inI64; decide)); conv => whnf)
    | omega | decide | assumption)
  refine LoopX.rule hT (C := []) (ι := Nat) (fun i => i ≤ l.length) (fun i => mkSt [(6, .buf 6), (25, .d (passs l)), (26, .d (.int .i64 l.length)), (27, .d (.int .i64 i))] [(6, seqB 140 4 paF pa0 (l.take i).flatten)]) (fun i => l.length - i) 0 (by omega) ?_ ?_
  · exact Entails.mk' [(6, 24)] rfl rfl ⟨SV.le_refl _, SV.le_refl _, SV.le_refl _, SV.le_refl _, trivial⟩ ⟨Res.le_buf rfl (fun i hi => absurd hi (by omega)), trivial⟩
  rintro i p1
  have e1 : (i : Int).toNat = i := Int.toNat_natCast i
  have hls : lens (l.take i) ≤ lens l := lens_le
  have hf := flat_len (l.take i)
  have hls2 : (i : Int) < l.length → (l.take i).flatten.length + (l.getD (i : Int).toNat []).length ≤ 2^20 := fun h => by rw [e1, hf, ← lens_take (by omega)]; exact Nat.le_trans lens_le hn
  conv => whnf
  repeat' (first
    | (refine br_intro (fun hb => ?_) (fun hb => ?_) <;> (try simp only [decide_eq_true_eq, decide_eq_false_iff_not, Bool.not_eq_true', Bool.not_eq_false', Bool.and_eq_true, Bool.or_eq_true, beq_iff_eq, not_and, Int.not_le, Int.not_lt, Int.toNat_natCast, beq_eq_false_iff_ne, ne_eq, eq_self, not_true_eq_false, not_false_eq_true] at hb) <;> (conv => whnf))
    | omega
    | (refine And.intro ?_ ?_; ((try dsimp only); first | omega | (refine ⟨by omega, by omega, Int.le_trans (Int.mul_le_mul_of_nonneg_right (Int.ofNat_le.2 (Nat.le_of_ble_eq_true (rfl : Nat.ble _ 1024 = true))) (by omega)) (by omega), by omega⟩) | (refine Nat.le_trans (Nat.mul_le_mul_left _ (Nat.le_of_ble_eq_true (rfl : Nat.ble _ 1024 = true))) ?_; omega) | (unfold inI64; omega) | (constructor <;> omega) | (simp only [inI64, List.length_cons, List.length_append, List.length_nil, List.length_set] at *; omega) | decide | (unfold inI64; decide)); conv => whnf)
    | omega | decide | assumption)
  · have e2 : (l.take (i + 1)).flatten = (l.take i).flatten ++ l.getD (i : Int).toNat [] := by rw [take_snocD (d := []) (by omega), e1]; simp
    refine ⟨i + 1, by omega, by omega, Entails.mk' [(6, 33)] rfl rfl ⟨SV.le_refl _, SV.le_refl _, SV.le_refl _, SV.le_refl _, trivial⟩ ⟨?_, trivial⟩⟩
    rw [e2]; exact Res.le_appF
  · have hi : i = l.length := by omega
    subst hi
    refine .ret _ ?_
    conv => whnf
    refine ⟨_, ⟨rfl, rfl⟩, ?_, trivial⟩
    rw [List.take_length]; exact Res.le_refl _
end Go.Proofs.YtellmmmohdjpeaaDoor
set_option maxRecDepth 20000
namespace Go.Proofs.YtellmmmohdjpeaaDoor
open Go Go.Eng
theorem swap_mid {A B : List Pas} {x y : Pas} {D b : List Pas} {j : Nat} (hb : (y :: A).reverse ++ [x] ++ B ++ D = b) (hj : j = A.length + 1) :
    b.getD j pa0 = x ∧ b.getD (j - 1) pa0 = y ∧ (b.set j y).set (j - 1) x = A.reverse ++ [x] ++ (y :: B) ++ D := by
  subst hj
  refine ⟨?_, ?_, ?_⟩
  · rw [← hb, show (y :: A).reverse ++ [x] ++ B ++ D = (y :: A).reverse ++ x :: (B ++ D) by simp]
    exact getD_mid _ _ _ _ (by simp)
  · rw [← hb, show (y :: A).reverse ++ [x] ++ B ++ D = A.reverse ++ y :: ([x] ++ B ++ D) by simp]
    exact getD_mid _ _ _ _ (by simp)
  · rw [← hb]
    have := swap_lemma A.reverse (B ++ D) x y
    simp only [List.length_reverse] at this
    simp only [List.reverse_cons, List.append_assoc, List.singleton_append, List.cons_append, List.nil_append, Nat.add_sub_cancel] at this ⊢
    exact this
-- insertion sort of passages, in full
theorem s208f (g : FuncId) (cmp : Pas → Pas → Int) (l : List Pas) (hl : l.length ≤ 2^40)
    (hcmp : ∀ p q, p ∈ l → q ∈ l → FSpec Tryd.prog g [.agg ((paF p).map .d), .agg ((paF q).map .d)] [] (fun y r => y = .d (.int .i64 (cmp p q)) ∧ r = [])) :
    FSpec Tryd.prog 208 [.buf 1000001, .d (.int .i64 0), .d (.int .i64 l.length), .fn g []] [(1000001, seqB 140 4 paF pa0 l)]
      (fun y r => y = .tup [] ∧ r = [(1000001, seqB 140 4 paF pa0 (isort cmp l))]) := by
  refine spec_of hT (C := []) Tryd.func208 rfl Tryd.call208 rfl rfl rfl ?_
  conv => whnf
  repeat' (first
    | (refine br_intro (fun hb => ?_) (fun hb => ?_) <;> (try simp only [decide_eq_true_eq, decide_eq_false_iff_not, Bool.not_eq_true', Bool.not_eq_false', Bool.and_eq_true, Bool.or_eq_true, beq_iff_eq, not_and, Int.not_le, Int.not_lt, Int.toNat_natCast, beq_eq_false_iff_ne, ne_eq, eq_self, not_true_eq_false, not_false_eq_true] at hb) <;> (conv => whnf))
    | (refine RegX.rule (id := 4) hT rfl [] [(0, []), (1, [0]), (2, []), (3, []), (4, []), (5, [4]), (6, [4, 5]), (7, [4]), (8, [4]), (9, [4, 5, 6, 7, 8]), (10, [4, 5, 6, 7, 8, 9]), (11, [4, 5, 6, 7, 8, 9]), (12, [4, 5, 6, 7, 8]), (13, [4, 5, 6, 7, 8]), (14, []), (15, []), (16, [])] (by decide +kernel) ?_; conv => whnf)
    | (refine RegX.rule (id := 6) hT rfl [] [(0, []), (1, [0]), (2, [0, 1]), (3, [0, 1, 2]), (4, [0, 1, 2]), (5, [0, 1, 2, 3, 4]), (6, [0, 1, 2, 3, 4, 5]), (7, [0, 1, 2, 3, 4, 5]), (8, [0, 1, 2, 3, 4]), (9, [0, 1, 2, 3, 4]), (10, [0, 1, 2, 3, 4, 5, 6, 7, 8, 9]), (11, [0, 1, 2, 3, 4, 5, 6, 7, 8, 9, 10]), (12, [0, 1, 2, 3, 4, 5, 6, 7, 8, 9]), (13, [0, 1, 2, 3, 4, 5, 6, 7, 8, 9]), (14, [2, 3, 4]), (15, [2, 3, 4]), (16, []), (17, [])] (by decide +kernel) ?_; conv => whnf)
    | omega
    | (refine And.intro ?_ ?_; ((try dsimp only); first | omega | (refine ⟨by omega, by omega, Int.le_trans (Int.mul_le_mul_of_nonneg_right (Int.ofNat_le.2 (Nat.le_of_ble_eq_true (rfl : Nat.ble _ 1024 = true))) (by omega)) (by omega), by omega⟩) | (refine Nat.le_trans (Nat.mul_le_mul_left _ (Nat.le_of_ble_eq_true (rfl : Nat.ble _ 1024 = true))) ?_; omega) | (unfold inI64; omega) | (constructor <;> omega) | (simp only [inI64, List.length_cons, List.length_append, List.length_nil, List.length_set] at *; omega) | decide | (unfold inI64; decide)); conv => whnf)
    | omega | decide | assumption)
  refine LoopX.rule hT (C := []) (ι := Nat × List Pas) (fun (i, c) => 1 ≤ i ∧ (i ≤ l.length ∨ i = 1) ∧ c = (isortR cmp (l.take i)).reverse ++ l.drop i)
    (fun (i, c) => mkSt [(0, .buf 1000001), (1, .d (.int .i64 0)), (2, .d (.int .i64 l.length)), (3, .fn g []), (8, .d (.int .i64 i))] [(1000001, seqB 140 4 paF pa0 c)])
    (fun (i, _) => l.length - i) (1, l) ⟨by simp, by simp, by cases l with | nil => rfl | cons x l => simp [isortR, insR]⟩ (by refine Entails.mk' [(1000001, 1000001)] rfl rfl ?_ ?_ <;> repeat' (first | exact True.intro | exact SV.le_refl _ | exact Res.le_refl _ | exact SV.le_int (by omega) | exact SV.le_any _ | refine And.intro ?_ ?_)) ?_
  rintro ⟨i, c⟩ ⟨p1, p2, p3⟩
  conv => whnf
  repeat' (first
    | (refine br_intro (fun hb => ?_) (fun hb => ?_) <;> (try simp only [decide_eq_true_eq, decide_eq_false_iff_not, Bool.not_eq_true', Bool.not_eq_false', Bool.and_eq_true, Bool.or_eq_true, beq_iff_eq, not_and, Int.not_le, Int.not_lt, Int.toNat_natCast, beq_eq_false_iff_ne, ne_eq, eq_self, not_true_eq_false, not_false_eq_true] at hb) <;> (conv => whnf))
    | (refine RegX.rule (id := 4) hT rfl [] [(0, []), (1, [0]), (2, []), (3, []), (4, []), (5, [4]), (6, [4, 5]), (7, [4]), (8, [4]), (9, [4, 5, 6, 7, 8]), (10, [4, 5, 6, 7, 8, 9]), (11, [4, 5, 6, 7, 8, 9]), (12, [4, 5, 6, 7, 8]), (13, [4, 5, 6, 7, 8]), (14, []), (15, []), (16, [])] (by decide +kernel) ?_; conv => whnf)
    | (refine RegX.rule (id := 6) hT rfl [] [(0, []), (1, [0]), (2, [0, 1]), (3, [0, 1, 2]), (4, [0, 1, 2]), (5, [0, 1, 2, 3, 4]), (6, [0, 1, 2, 3, 4, 5]), (7, [0, 1, 2, 3, 4, 5]), (8, [0, 1, 2, 3, 4]), (9, [0, 1, 2, 3, 4]), (10, [0, 1, 2, 3, 4, 5, 6, 7, 8, 9]), (11, [0, 1, 2, 3, 4, 5, 6, 7, 8, 9, 10]), (12, [0, 1, 2, 3, 4, 5, 6, 7, 8, 9]), (13, [0, 1, 2, 3, 4, 5, 6, 7, 8, 9]), (14, [2, 3, 4]), (15, [2, 3, 4]), (16, []), (17, [])] (by decide +kernel) ?_; conv => whnf)
    | omega
    | (refine And.intro ?_ ?_; ((try dsimp only); first | omega | (refine ⟨by omega, by omega, Int.le_trans (Int.mul_le_mul_of_nonneg_right (Int.ofNat_le.2 (Nat.le_of_ble_eq_true (rfl : Nat.ble _ 1024 = true))) (by omega)) (by omega), by omega⟩) | (refine Nat.le_trans (Nat.mul_le_mul_left _ (Nat.le_of_ble_eq_true (rfl : Nat.ble _ 1024 = true))) ?_; omega) | (unfold inI64; omega) | (constructor <;> omega) | (simp only [inI64, List.length_cons, List.length_append, List.length_nil, List.length_set] at *; omega) | decide | (unfold inI64; decide)); conv => whnf)
    | omega | decide | assumption)
  · have hi : i < l.length := by omega
    have hx : l[i] ∈ l := List.getElem_mem hi
    have hmem : ∀ y ∈ isortR cmp (l.take i), y ∈ l := fun y hy => List.mem_of_mem_take ((isortR_mem cmp _).1 hy)
    have hlr : (isortR cmp (l.take i)).length = i := by rw [isortR_length, List.length_take]; omega
    have hc : c = (isortR cmp (l.take i)).reverse ++ [l[i]] ++ [] ++ l.drop (i + 1) := by rw [p3, List.drop_eq_getElem_cons hi]; simp
    refine LoopX.rule hT (C := []) (ι := List Pas × List Pas × List Pas) (fun (A, B, b) => insR cmp l[i] (isortR cmp (l.take i)) = B.reverse ++ insR cmp l[i] A ∧ A.length + B.length = i ∧ (∀ y ∈ A, y ∈ l) ∧ A.reverse ++ [l[i]] ++ B ++ l.drop (i + 1) = b)
      (fun (A, B, b) => mkSt [(0, .buf 1000001), (1, .d (.int .i64 0)), (2, .d (.int .i64 l.length)), (3, .fn g []), (8, .d (.int .i64 i)), (9, .d (.int .i64 A.length))] [(1000001, seqB 140 4 paF pa0 b)])
      (fun (A, _, _) => A.length) (isortR cmp (l.take i), [], c) ⟨by simp, by simpa using hlr, hmem, hc.symm⟩ ?_ ?_
    · exact Entails.mk' [(1000001, 1000001)] rfl rfl ⟨SV.le_refl _, SV.le_refl _, SV.le_refl _, SV.le_refl _, SV.le_refl _, SV.le_int (by omega), trivial⟩ ⟨Res.le_refl _, trivial⟩
    rintro ⟨A, B, b⟩ ⟨q1, q2, q3, hbd⟩
    have hlen : b.length = l.length := by rw [← hbd]; simp; omega
    have hfin : A = [] ∨ (∃ y A', A = y :: A' ∧ 0 ≤ cmp l[i] y) → isortR cmp (l.take (i + 1)) = B.reverse ++ l[i] :: A ∧ b = (isortR cmp (l.take (i + 1))).reverse ++ l.drop (i + 1) := fun h => by
      have e : isortR cmp (l.take (i + 1)) = B.reverse ++ l[i] :: A := by
        rw [take_snoc hi, isortR_snoc, q1]
        rcases h with rfl | ⟨y, A', rfl, h⟩
        · rfl
        · rw [insR, if_neg (by omega)]
      exact ⟨e, by rw [e, ← hbd]; simp⟩
    conv => whnf
    repeat' (first
      | (refine br_intro (fun hb => ?_) (fun hb => ?_) <;> (try simp only [decide_eq_true_eq, decide_eq_false_iff_not, Bool.not_eq_true', Bool.not_eq_false', Bool.and_eq_true, Bool.or_eq_true, beq_iff_eq, not_and, Int.not_le, Int.not_lt, Int.toNat_natCast, beq_eq_false_iff_ne, ne_eq, eq_self, not_true_eq_false, not_false_eq_true] at hb) <;> (conv => whnf))
      | (refine RegX.rule (id := 4) hT rfl [] [(0, []), (1, [0]), (2, []), (3, []), (4, []), (5, [4]), (6, [4, 5]), (7, [4]), (8, [4]), (9, [4, 5, 6, 7, 8]), (10, [4, 5, 6, 7, 8, 9]), (11, [4, 5, 6, 7, 8, 9]), (12, [4, 5, 6, 7, 8]), (13, [4, 5, 6, 7, 8]), (14, []), (15, []), (16, [])] (by decide +kernel) ?_; conv => whnf)
      | (refine RegX.rule (id := 6) hT rfl [] [(0, []), (1, [0]), (2, [0, 1]), (3, [0, 1, 2]), (4, [0, 1, 2]), (5, [0, 1, 2, 3, 4]), (6, [0, 1, 2, 3, 4, 5]), (7, [0, 1, 2, 3, 4, 5]), (8, [0, 1, 2, 3, 4]), (9, [0, 1, 2, 3, 4]), (10, [0, 1, 2, 3, 4, 5, 6, 7, 8, 9]), (11, [0, 1, 2, 3, 4, 5, 6, 7, 8, 9, 10]), (12, [0, 1, 2, 3, 4, 5, 6, 7, 8, 9]), (13, [0, 1, 2, 3, 4, 5, 6, 7, 8, 9]), (14, [2, 3, 4]), (15, [2, 3, 4]), (16, []), (17, [])] (by decide +kernel) ?_; conv => whnf)
      | omega
      | (refine And.intro ?_ ?_; ((try dsimp only); first | omega | (refine ⟨by omega, by omega, Int.le_trans (Int.mul_le_mul_of_nonneg_right (Int.ofNat_le.2 (Nat.le_of_ble_eq_true (rfl : Nat.ble _ 1024 = true))) (by omega)) (by omega), by omega⟩) | (refine Nat.le_trans (Nat.mul_le_mul_left _ (Nat.le_of_ble_eq_true (rfl : Nat.ble _ 1024 = true))) ?_; omega) | (unfold inI64; omega) | (constructor <;> omega) | (simp only [inI64, List.length_cons, List.length_append, List.length_nil, List.length_set] at *; omega) | decide | (unfold inI64; decide)); conv => whnf)
      | omega | decide | assumption)
    · cases A with
      | nil => simp at hb
      | cons y A =>
      obtain ⟨g1, g2, g3⟩ := swap_mid (j := (((y :: A).length : Int)).toNat) hbd (by simp)
      have ej : ((((y :: A).length : Int)) - 1).toNat = (((y :: A).length : Int)).toNat - 1 := by omega
      refine CallX.of (hcmp l[i] y hx (q3 y (by simp))) [] rfl ⟨by rw [← g1]; exact SV.le_refl _, by rw [← g2, ← ej]; exact SV.le_refl _, trivial⟩ trivial rfl rfl ?_
      rintro x rout ⟨rfl, rfl⟩
      refine ⟨rfl, ?_⟩
      conv => whnf
      repeat' (first
        | (refine br_intro (fun hb => ?_) (fun hb => ?_) <;> (try simp only [decide_eq_true_eq, decide_eq_false_iff_not, Bool.not_eq_true', Bool.not_eq_false', Bool.and_eq_true, Bool.or_eq_true, beq_iff_eq, not_and, Int.not_le, Int.not_lt, Int.toNat_natCast, beq_eq_false_iff_ne, ne_eq, eq_self, not_true_eq_false, not_false_eq_true] at hb) <;> (conv => whnf))
        | (refine RegX.rule (id := 4) hT rfl [] [(0, []), (1, [0]), (2, []), (3, []), (4, []), (5, [4]), (6, [4, 5]), (7, [4]), (8, [4]), (9, [4, 5, 6, 7, 8]), (10, [4, 5, 6, 7, 8, 9]), (11, [4, 5, 6, 7, 8, 9]), (12, [4, 5, 6, 7, 8]), (13, [4, 5, 6, 7, 8]), (14, []), (15, []), (16, [])] (by decide +kernel) ?_; conv => whnf)
        | (refine RegX.rule (id := 6) hT rfl [] [(0, []), (1, [0]), (2, [0, 1]), (3, [0, 1, 2]), (4, [0, 1, 2]), (5, [0, 1, 2, 3, 4]), (6, [0, 1, 2, 3, 4, 5]), (7, [0, 1, 2, 3, 4, 5]), (8, [0, 1, 2, 3, 4]), (9, [0, 1, 2, 3, 4]), (10, [0, 1, 2, 3, 4, 5, 6, 7, 8, 9]), (11, [0, 1, 2, 3, 4, 5, 6, 7, 8, 9, 10]), (12, [0, 1, 2, 3, 4, 5, 6, 7, 8, 9]), (13, [0, 1, 2, 3, 4, 5, 6, 7, 8, 9]), (14, [2, 3, 4]), (15, [2, 3, 4]), (16, []), (17, [])] (by decide +kernel) ?_; conv => whnf)
        | omega
        | (refine And.intro ?_ ?_; ((try dsimp only); first | omega | (refine ⟨by omega, by omega, Int.le_trans (Int.mul_le_mul_of_nonneg_right (Int.ofNat_le.2 (Nat.le_of_ble_eq_true (rfl : Nat.ble _ 1024 = true))) (by omega)) (by omega), by omega⟩) | (refine Nat.le_trans (Nat.mul_le_mul_left _ (Nat.le_of_ble_eq_true (rfl : Nat.ble _ 1024 = true))) ?_; omega) | (unfold inI64; omega) | (constructor <;> omega) | (simp only [inI64, List.length_cons, List.length_append, List.length_nil, List.length_set] at *; omega) | decide | (unfold inI64; decide)); conv => whnf)
        | omega | decide | assumption)
      · refine ⟨(A, y :: B, _), ⟨by rw [q1]; simp [insR, hb], by simp only [List.length_cons] at q2 ⊢; omega, fun z hz => q3 z (by simp [hz]), ?_⟩, by show A.length < (y :: A).length; simp, Entails.mk' [(1000001, 1000001)] rfl rfl ⟨SV.le_refl _, SV.le_refl _, SV.le_refl _, SV.le_refl _, SV.le_refl _, SV.le_int (by simp only [List.length_cons]; omega), trivial⟩ ⟨Res.le_put2 (x := b.getD ((((y :: A).length : Int)) - 1).toNat pa0) (y := b.getD (((y :: A).length : Int)).toNat pa0) (fun _ => rfl) (fun _ => rfl), trivial⟩⟩
        rw [← g3, ej, g1, g2]
      · obtain ⟨_, h2⟩ := hfin (.inr ⟨y, A, rfl, hb⟩)
        exact ⟨(i + 1, b), ⟨by omega, by omega, h2⟩, by show l.length - (i + 1) < l.length - i; omega, (by refine Entails.mk' [(1000001, 1000001)] rfl rfl ?_ ?_ <;> repeat' (first | exact True.intro | exact SV.le_refl _ | exact Res.le_refl _ | exact SV.le_int (by omega) | exact SV.le_any _ | refine And.intro ?_ ?_))⟩
    · have hA : A = [] := List.length_eq_zero_iff.1 (by omega)
      obtain ⟨_, h2⟩ := hfin (.inl hA)
      exact ⟨(i + 1, b), ⟨by omega, by omega, h2⟩, by show l.length - (i + 1) < l.length - i; omega, (by refine Entails.mk' [(1000001, 1000001)] rfl rfl ?_ ?_ <;> repeat' (first | exact True.intro | exact SV.le_refl _ | exact Res.le_refl _ | exact SV.le_int (by omega) | exact SV.le_any _ | refine And.intro ?_ ?_))⟩
  · refine .ret _ ?_
    conv => whnf
    have e1 : c = isort cmp l := by
      rw [p3, List.take_of_length_le (by omega), List.drop_eq_nil_iff.2 (by omega), List.append_nil]; rfl
    subst e1
    exact ⟨_, ⟨rfl, rfl⟩, Res.le_refl _, trivial⟩
-- stable sort of at most twenty passages
theorem s175f (g : FuncId) (cmp : Pas → Pas → Int) (l : List Pas) (hl : l.length < 20)
    (hcmp : ∀ p q, p ∈ l → q ∈ l → FSpec Tryd.prog g [.agg ((paF p).map .d), .agg ((paF q).map .d)] [] (fun y r => y = .d (.int .i64 (cmp p q)) ∧ r = [])) :
    FSpec Tryd.prog 175 [.buf 1000001, .d (.int .i64 l.length), .fn g []] [(1000001, seqB 140 4 paF pa0 l)]
      (fun y r => y = .tup [] ∧ r = [(1000001, seqB 140 4 paF pa0 (isort cmp l))]) := by
  refine spec_of hT (C := []) Tryd.func175 rfl Tryd.call175 rfl rfl rfl ?_
  conv => whnf
  refine LoopX.rule hT (C := []) (ι := Unit) (fun _ => True) (fun _ => mkSt [(0, .buf 1000001), (1, .d (.int .i64 l.length)), (2, .fn g []), (6, .d (.int .i64 20)), (7, .d (.int .i64 0)), (8, .d (.int .i64 20))] [(1000001, seqB 140 4 paF pa0 l)]) (fun _ => 0) () trivial (by refine Entails.mk' [(1000001, 1000001)] rfl rfl ?_ ?_ <;> repeat' (first | exact True.intro | exact SV.le_refl _ | exact Res.le_refl _ | exact SV.le_int (by omega) | exact SV.le_any _ | refine And.intro ?_ ?_)) ?_
  rintro ⟨⟩ -
  conv => whnf
  repeat' (first
    | (refine br_intro (fun hb => ?_) (fun hb => ?_) <;> (try simp only [decide_eq_true_eq, decide_eq_false_iff_not, Bool.not_eq_true', Bool.not_eq_false', Bool.and_eq_true, Bool.or_eq_true, beq_iff_eq, not_and, Int.not_le, Int.not_lt, Int.toNat_natCast, beq_eq_false_iff_ne, ne_eq, eq_self, not_true_eq_false, not_false_eq_true] at hb) <;> (conv => whnf))
    | omega
    | (refine And.intro ?_ ?_; ((try dsimp only); first | omega | (refine ⟨by omega, by omega, Int.le_trans (Int.mul_le_mul_of_nonneg_right (Int.ofNat_le.2 (Nat.le_of_ble_eq_true (rfl : Nat.ble _ 1024 = true))) (by omega)) (by omega), by omega⟩) | (refine Nat.le_trans (Nat.mul_le_mul_left _ (Nat.le_of_ble_eq_true (rfl : Nat.ble _ 1024 = true))) ?_; omega) | (unfold inI64; omega) | (constructor <;> omega) | (simp only [inI64, List.length_cons, List.length_append, List.length_nil, List.length_set] at *; omega) | decide | (unfold inI64; decide)); conv => whnf)
    | omega | decide | assumption)
  refine CallX.of (s208f g cmp l (by omega) hcmp) [(1000001, 1000001)] rfl ⟨SV.le_refl _, SV.le_refl _, SV.le_refl _, SV.le_refl _, trivial⟩ ⟨Res.le_refl _, trivial⟩ rfl rfl ?_
  rintro x rout ⟨rfl, rfl⟩
  refine ⟨rfl, ?_⟩
  conv => whnf
  refine LoopX.rule hT (C := []) (ι := Unit) (fun _ => True) (fun _ => mkSt [(0, .buf 1000001), (1, .d (.int .i64 l.length)), (2, .fn g []), (6, .d (.int .i64 20))] [(1000001, seqB 140 4 paF pa0 (isort cmp l))]) (fun _ => 0) () trivial (by refine Entails.mk' [(1000001, 1000001)] rfl rfl ?_ ?_ <;> repeat' (first | exact True.intro | exact SV.le_refl _ | exact Res.le_refl _ | exact SV.le_int (by omega) | exact SV.le_any _ | refine And.intro ?_ ?_)) ?_
  rintro ⟨⟩ -
  conv => whnf
  repeat' (first
    | (refine br_intro (fun hb => ?_) (fun hb => ?_) <;> (try simp only [decide_eq_true_eq, decide_eq_false_iff_not, Bool.not_eq_true', Bool.not_eq_false', Bool.and_eq_true, Bool.or_eq_true, beq_iff_eq, not_and, Int.not_le, Int.not_lt, Int.toNat_natCast, beq_eq_false_iff_ne, ne_eq, eq_self, not_true_eq_false, not_false_eq_true] at hb) <;> (conv => whnf))
    | omega
    | (refine And.intro ?_ ?_; ((try dsimp only); first | omega | (refine ⟨by omega, by omega, Int.le_trans (Int.mul_le_mul_of_nonneg_right (Int.ofNat_le.2 (Nat.le_of_ble_eq_true (rfl : Nat.ble _ 1024 = true))) (by omega)) (by omega), by omega⟩) | (refine Nat.le_trans (Nat.mul_le_mul_left _ (Nat.le_of_ble_eq_true (rfl : Nat.ble _ 1024 = true))) ?_; omega) | (unfold inI64; omega) | (constructor <;> omega) | (simp only [inI64, List.length_cons, List.length_append, List.length_nil, List.length_set] at *; omega) | decide | (unfold inI64; decide)); conv => whnf)
    | omega | decide | assumption)
  refine .ret _ ?_
  conv => whnf
  exact ⟨_, ⟨rfl, rfl⟩, Res.le_refl _, trivial⟩
theorem s126f (g : FuncId) (cmp : Pas → Pas → Int) (l : List Pas) (hl : l.length < 20)
    (hcmp : ∀ p q, p ∈ l → q ∈ l → FSpec Tryd.prog g [.agg ((paF p).map .d), .agg ((paF q).map .d)] [] (fun y r => y = .d (.int .i64 (cmp p q)) ∧ r = [])) :
    FSpec Tryd.prog 126 [.buf 1000001, .fn g []] [(1000001, seqB 140 4 paF pa0 l)]
      (fun y r => y = .tup [] ∧ r = [(1000001, seqB 140 4 paF pa0 (isort cmp l))]) := by
  refine spec_of hT (C := []) Tryd.func126 rfl Tryd.call126 rfl rfl rfl ?_
  conv => whnf
  repeat' (first
    | (refine br_intro (fun hb => ?_) (fun hb => ?_) <;> (try simp only [decide_eq_true_eq, decide_eq_false_iff_not, Bool.not_eq_true', Bool.not_eq_false', Bool.and_eq_true, Bool.or_eq_true, beq_iff_eq, not_and, Int.not_le, Int.not_lt, Int.toNat_natCast, beq_eq_false_iff_ne, ne_eq, eq_self, not_true_eq_false, not_false_eq_true] at hb) <;> (conv => whnf))
    | omega
    | (refine And.intro ?_ ?_; ((try dsimp only); first | omega | (refine ⟨by omega, by omega, Int.le_trans (Int.mul_le_mul_of_nonneg_right (Int.ofNat_le.2 (Nat.le_of_ble_eq_true (rfl : Nat.ble _ 1024 = true))) (by omega)) (by omega), by omega⟩) | (refine Nat.le_trans (Nat.mul_le_mul_left _ (Nat.le_of_ble_eq_true (rfl : Nat.ble _ 1024 = true))) ?_; omega) | (unfold inI64; omega) | (constructor <;> omega) | (simp only [inI64, List.length_cons, List.length_append, List.length_nil, List.length_set] at *; omega) | decide | (unfold inI64; decide)); conv => whnf)
    | omega | decide | assumption)
  refine CallX.of (s175f g cmp l hl hcmp) [(1000001, 1000001)] rfl ⟨SV.le_refl _, SV.le_refl _, SV.le_refl _, trivial⟩ ⟨Res.le_refl _, trivial⟩ rfl rfl ?_
  rintro x rout ⟨rfl, rfl⟩
  refine ⟨rfl, ?_⟩
  conv => whnf
  refine .ret _ ?_
  conv => whnf
  exact ⟨_, ⟨rfl, rfl⟩, Res.le_refl _, trivial⟩
end Go.Proofs.YtellmmmohdjpeaaDoor
set_option maxRecDepth 20000
namespace Go.Proofs.YtellmmmohdjpeaaDoor
open Go Go.Eng
theorem pas_eq {a b : Pas} : a = b ↔ a.tm = b.tm ∧ a.gate = b.gate ∧ a.plate = b.plate ∧ a.cents = b.cents := by cases a; cases b; simp
instance : DecidableEq Pas := fun _ _ => decidable_of_iff _ pas_eq.symm
-- slices.Equal of passages
theorem s92 (l m : List Pas) (hl : l.length ≤ 2^40) : FSpec Tryd.prog 92 [.d (pass l), .d (pass m)] [] (fun x r => x = .d (.bool (decide (l = m))) ∧ r = []) := by
  refine spec_of hT (C := []) Tryd.func92 rfl Tryd.call92 rfl rfl rfl ?_
  conv => whnf
  repeat' (first
    | (refine br_intro (fun hb => ?_) (fun hb => ?_) <;> (try simp only [decide_eq_true_eq, decide_eq_false_iff_not, Bool.not_eq_true', Bool.not_eq_false', Bool.and_eq_true, Bool.or_eq_true, beq_iff_eq, not_and, Int.not_le, Int.not_lt, Int.toNat_natCast, beq_eq_false_iff_ne, ne_eq, eq_self, not_true_eq_false, not_false_eq_true] at hb) <;> (conv => whnf))
    | (refine RegX.rule (id := 6) hT rfl [] [(0, []), (1, [0]), (2, []), (3, []), (4, [0, 1, 2, 3]), (5, [0, 1, 2, 3, 4]), (6, [0, 1, 2, 3]), (7, [0, 1, 2, 3]), (8, [])] (by decide +kernel) ?_; conv => whnf)
    | omega
    | (refine And.intro ?_ ?_; ((try dsimp only); first | omega | (refine ⟨by omega, by omega, Int.le_trans (Int.mul_le_mul_of_nonneg_right (Int.ofNat_le.2 (Nat.le_of_ble_eq_true (rfl : Nat.ble _ 1024 = true))) (by omega)) (by omega), by omega⟩) | (refine Nat.le_trans (Nat.mul_le_mul_left _ (Nat.le_of_ble_eq_true (rfl : Nat.ble _ 1024 = true))) ?_; omega) | (unfold inI64; omega) | (constructor <;> omega) | (simp only [inI64, List.length_cons, List.length_append, List.length_nil, List.length_set] at *; omega) | decide | (unfold inI64; decide)); conv => whnf)
    | omega | decide | assumption)
  · refine .ret _ ?_
    conv => whnf
    refine ⟨[], ⟨?_, rfl⟩, trivial⟩
    conv => lhs; whnf
    have : ¬ l = m := fun q => by subst q; simp at hb
    simp [this]
  have hlen : l.length = m.length := by
    omega
  refine LoopX.rule hT (C := []) (ι := Nat) (fun i => i ≤ l.length ∧ ∀ j, j < i → l.getD j pa0 = m.getD j pa0) (fun i => mkSt [(0, .d (pass l)), (1, .d (pass m)), (12, .d (.int .i64 l.length)), (13, .d (.int .i64 i))] []) (fun i => l.length - i) 0 ⟨by omega, by omega⟩ (by refine Entails.mk' [] rfl rfl ?_ ?_ <;> repeat' (first | exact True.intro | exact SV.le_refl _ | exact Res.le_refl _ | exact SV.le_int (by omega) | exact SV.le_any _ | refine And.intro ?_ ?_)) ?_
  rintro i ⟨p1, p2⟩
  have e1 : (i : Int).toNat = i := Int.toNat_natCast i
  conv => whnf
  repeat' (first
    | (refine br_intro (fun hb => ?_) (fun hb => ?_) <;> (try simp only [decide_eq_true_eq, decide_eq_false_iff_not, Bool.not_eq_true', Bool.not_eq_false', Bool.and_eq_true, Bool.or_eq_true, beq_iff_eq, not_and, Int.not_le, Int.not_lt, Int.toNat_natCast, beq_eq_false_iff_ne, ne_eq, eq_self, not_true_eq_false, not_false_eq_true] at hb) <;> (conv => whnf))
    | (refine RegX.rule (id := 6) hT rfl [] [(0, []), (1, [0]), (2, []), (3, []), (4, [0, 1, 2, 3]), (5, [0, 1, 2, 3, 4]), (6, [0, 1, 2, 3]), (7, [0, 1, 2, 3]), (8, [])] (by decide +kernel) ?_; conv => whnf)
    | omega
    | (refine And.intro ?_ ?_; ((try dsimp only); first | omega | (refine ⟨by omega, by omega, Int.le_trans (Int.mul_le_mul_of_nonneg_right (Int.ofNat_le.2 (Nat.le_of_ble_eq_true (rfl : Nat.ble _ 1024 = true))) (by omega)) (by omega), by omega⟩) | (refine Nat.le_trans (Nat.mul_le_mul_left _ (Nat.le_of_ble_eq_true (rfl : Nat.ble _ 1024 = true))) ?_; omega) | (unfold inI64; omega) | (constructor <;> omega) | (simp only [inI64, List.length_cons, List.length_append, List.length_nil, List.length_set] at *; omega) | decide | (unfold inI64; decide)); conv => whnf)
    | omega | decide | assumption)
  · refine .ret _ ?_
    conv => whnf
    refine ⟨[], ⟨?_, rfl⟩, trivial⟩
    conv => lhs; whnf
    have : ¬ l = m := fun q => by subst q; simp at hb
    simp [this]
  · exact ⟨i + 1, ⟨by omega, all_step p2 (by rw [pas_eq]; simpa [and_assoc] using hb)⟩, by omega, (by refine Entails.mk' [] rfl rfl ?_ ?_ <;> repeat' (first | exact True.intro | exact SV.le_refl _ | exact Res.le_refl _ | exact SV.le_int (by omega) | exact SV.le_any _ | refine And.intro ?_ ?_))⟩
  · refine .ret _ ?_
    conv => whnf
    refine ⟨[], ⟨?_, rfl⟩, trivial⟩
    conv => lhs; whnf
    have : i = l.length := by omega
    subst this
    simp [eq_of_getD pa0 hlen p2]
-- toll.True
theorem s93 (g : List Gate) (p : Pas) (hg : gOk g) (hp : p.gate.length ≤ 2^40 ∧ p.plate.length ≤ 2^40) :
    FSpec Tryd.prog 93 [.d (gates g), .agg ((paF p).map .d)] [] (fun x r => x = .tup [.d (.int .i64 (if chkE g [p] = 0 then trueT g p else 0)), .d (.int .i64 (chkE g [p]))] ∧ r = []) := by
  have hk : pOk [p] := ⟨by simp, by simpa using hp⟩
  have h90 := s90 g [p] hg hk
  by_cases hz : chkE g [p] = 0
  · rw [hz] at h90 ⊢
    obtain ⟨⟨n1, n2⟩, n3, n4⟩ := chk_zero hz
    have hpt := n4 p (by simp)
    have hix : 0 ≤ gateIx g p.gate := by
      unfold chkE at hz
      rw [if_neg (by intro h; rw [if_pos h] at hz; exact h hz)] at hz
      rw [if_neg (by intro h; rw [if_pos h] at hz; exact h hz)] at hz
      have := firstAt_all hz 0 (by simp)
      unfold onG at this
      simp only [List.getD_cons_zero] at this
      split at this
      · omega
      · omega
    have h155 := s155 g hg.1 p ⟨by omega, by omega⟩ (fun x hx => by have := n2 x hx; omega) hix
    refine spec_of hT (C := []) Tryd.func93 rfl Tryd.call93 rfl rfl rfl ?_
    conv => whnf
    repeat' (first
      | (refine CallX.pure h90 ⟨SV.le_refl _, SV.le_lit (l := [p]) rfl rfl, trivial⟩ rfl ?_; conv => whnf)
      | (refine CallX.exact (h155) rfl rfl ?_; rotate_right; conv => whnf)
      | (refine br_intro (fun hb => ?_) (fun hb => ?_) <;> (try simp only [decide_eq_true_eq, decide_eq_false_iff_not, Bool.not_eq_true', Bool.not_eq_false', Bool.and_eq_true, Bool.or_eq_true, beq_iff_eq, not_and, Int.not_le, Int.not_lt, Int.toNat_natCast, beq_eq_false_iff_ne, ne_eq, eq_self, not_true_eq_false, not_false_eq_true] at hb) <;> (conv => whnf))
      | omega
      | (refine And.intro ?_ ?_; ((try dsimp only); first | omega | (refine ⟨by omega, by omega, Int.le_trans (Int.mul_le_mul_of_nonneg_right (Int.ofNat_le.2 (Nat.le_of_ble_eq_true (rfl : Nat.ble _ 1024 = true))) (by omega)) (by omega), by omega⟩) | (refine Nat.le_trans (Nat.mul_le_mul_left _ (Nat.le_of_ble_eq_true (rfl : Nat.ble _ 1024 = true))) ?_; omega) | (unfold inI64; omega) | (constructor <;> omega) | (simp only [inI64, List.length_cons, List.length_append, List.length_nil, List.length_set] at *; omega) | decide | (unfold inI64; decide)); conv => whnf)
      | omega | decide | assumption)
    all_goals
      refine .ret _ ?_
      conv => whnf
      refine ⟨[], ⟨congrArg SV.tup ?_, rfl⟩, trivial⟩
      repeat' (refine cons_eq ?_ ?_)
      all_goals (conv => lhs; whnf)
      all_goals try (with_reducible rfl)
      all_goals rfl
  · rw [if_neg hz]
    refine spec_of hT (C := []) Tryd.func93 rfl Tryd.call93 rfl rfl rfl ?_
    conv => whnf
    repeat' (first
      | (refine CallX.pure h90 ⟨SV.le_refl _, SV.le_lit (l := [p]) rfl rfl, trivial⟩ rfl ?_; conv => whnf)
      | (refine br_intro (fun hb => ?_) (fun hb => ?_) <;> (try simp only [decide_eq_true_eq, decide_eq_false_iff_not, Bool.not_eq_true', Bool.not_eq_false', Bool.and_eq_true, Bool.or_eq_true, beq_iff_eq, not_and, Int.not_le, Int.not_lt, Int.toNat_natCast, beq_eq_false_iff_ne, ne_eq, eq_self, not_true_eq_false, not_false_eq_true] at hb) <;> (conv => whnf))
      | omega
      | (refine And.intro ?_ ?_; ((try dsimp only); first | omega | (refine ⟨by omega, by omega, Int.le_trans (Int.mul_le_mul_of_nonneg_right (Int.ofNat_le.2 (Nat.le_of_ble_eq_true (rfl : Nat.ble _ 1024 = true))) (by omega)) (by omega), by omega⟩) | (refine Nat.le_trans (Nat.mul_le_mul_left _ (Nat.le_of_ble_eq_true (rfl : Nat.ble _ 1024 = true))) ?_; omega) | (unfold inI64; omega) | (constructor <;> omega) | (simp only [inI64, List.length_cons, List.length_append, List.length_nil, List.length_set] at *; omega) | decide | (unfold inI64; decide)); conv => whnf)
      | omega | decide | assumption)
    all_goals
      refine .ret _ ?_
      conv => whnf
      refine ⟨[], ⟨congrArg SV.tup ?_, rfl⟩, trivial⟩
      repeat' (refine cons_eq ?_ ?_)
      all_goals (conv => lhs; whnf)
      all_goals try (with_reducible rfl)
      all_goals rfl
end Go.Proofs.YtellmmmohdjpeaaDoor
set_option maxRecDepth 20000
namespace Go.Proofs.YtellmmmohdjpeaaDoor
open Go Go.Eng
/-- What is left of the first elements when neighbours alike are one. -/
def cptN (l : List Pas) : Nat → List Pas
  | 0 => []
  | i + 1 => cptN l i ++ if 0 < i ∧ l.getD i pa0 = l.getD (i - 1) pa0 then [] else [l.getD i pa0]
theorem cptN_len (l : List Pas) : ∀ i, (cptN l i).length ≤ i := by
  intro i
  induction i with
  | zero => simp [cptN]
  | succ i ih => rw [cptN, List.length_append]; split <;> simp <;> omega
-- slices.Compact of passages
theorem s151 (l : List Pas) (hl : l.length ≤ 2^20) :
    FSpec Tryd.prog 151 [.buf 1000001] [(1000001, seqB 140 4 paF pa0 l)]
      (fun y r => ∃ d, (d = 1000001 ∨ d = 59) ∧ y = .buf d ∧ r = [(d, seqB 140 4 paF pa0 (cptN l l.length))]) := by
  refine spec_of hT (C := []) Tryd.func151 rfl Tryd.call151 rfl rfl rfl ?_
  conv => whnf
  repeat' (first
    | (refine br_intro (fun hb => ?_) (fun hb => ?_) <;> (try simp only [decide_eq_true_eq, decide_eq_false_iff_not, Bool.not_eq_true', Bool.not_eq_false', Bool.and_eq_true, Bool.or_eq_true, beq_iff_eq, not_and, Int.not_le, Int.not_lt, Int.toNat_natCast, beq_eq_false_iff_ne, ne_eq, eq_self, not_true_eq_false, not_false_eq_true] at hb) <;> (conv => whnf))
    | (refine RegX.rule (id := 6) hT rfl [] [(0, []), (1, [0]), (2, []), (3, []), (4, [0, 1, 2, 3]), (5, [0, 1, 2, 3, 4]), (6, [0, 1, 2, 3, 4]), (7, [0, 1, 2, 3]), (8, [0, 1, 2, 3]), (9, [])] (by decide +kernel) ?_; conv => whnf)
    | (refine RegX.rule (id := 11) hT rfl [] [(0, []), (1, [0]), (2, []), (3, []), (4, [0, 1, 2, 3]), (5, [0, 1, 2, 3, 4]), (6, [0, 1, 2, 3, 4]), (7, [0, 1, 2, 3]), (8, [0, 1, 2, 3]), (9, [])] (by decide +kernel) ?_; conv => whnf)
    | omega
    | (refine And.intro ?_ ?_; ((try dsimp only); first | omega | (refine ⟨by omega, by omega, Int.le_trans (Int.mul_le_mul_of_nonneg_right (Int.ofNat_le.2 (Nat.le_of_ble_eq_true (rfl : Nat.ble _ 1024 = true))) (by omega)) (by omega), by omega⟩) | (refine Nat.le_trans (Nat.mul_le_mul_left _ (Nat.le_of_ble_eq_true (rfl : Nat.ble _ 1024 = true))) ?_; omega) | (unfold inI64; omega) | (constructor <;> omega) | (simp only [inI64, List.length_cons, List.length_append, List.length_nil, List.length_set] at *; omega) | decide | (unfold inI64; decide)); conv => whnf)
    | omega | decide | assumption)
  · have e : cptN l l.length = l := by
      match l, hb with
      | [], _ => rfl
      | [x], _ => rfl
      | _ :: _ :: _, h => simp at h; omega
    refine .ret _ ?_
    conv => whnf
    rw [e]
    exact ⟨_, ⟨1000001, .inl rfl, rfl, rfl⟩, Res.le_refl _, trivial⟩
  refine LoopX.rule hT (C := []) (ι := Nat) (fun k => 1 ≤ k ∧ k ≤ l.length ∧ cptN l k = l.take k) (fun k => mkSt [(0, .buf 1000001), (3, .d (.int .i64 k))] [(1000001, seqB 140 4 paF pa0 l)]) (fun k => l.length - k) 1 ⟨by omega, by omega, ?_⟩ (by refine Entails.mk' [(1000001, 1000001)] rfl rfl ?_ ?_ <;> repeat' (first | exact True.intro | exact SV.le_refl _ | exact Res.le_refl _ | exact SV.le_int (by omega) | exact SV.le_any _ | refine And.intro ?_ ?_)) ?_
  · cases l with
    | nil => simp at hb
    | cons x l => rfl
  rintro k ⟨p1, p2, p3⟩
  have e1 : (k : Int).toNat = k := Int.toNat_natCast k
  conv => whnf
  repeat' (first
    | (refine SliceX.first (lo := none) rfl ?_; conv => whnf)
    | (refine SliceX.look (lo := some _) rfl ?_; conv => whnf)
    | (refine br_intro (fun hb => ?_) (fun hb => ?_) <;> (try simp only [decide_eq_true_eq, decide_eq_false_iff_not, Bool.not_eq_true', Bool.not_eq_false', Bool.and_eq_true, Bool.or_eq_true, beq_iff_eq, not_and, Int.not_le, Int.not_lt, Int.toNat_natCast, beq_eq_false_iff_ne, ne_eq, eq_self, not_true_eq_false, not_false_eq_true] at hb) <;> (conv => whnf))
    | (refine RegX.rule (id := 6) hT rfl [] [(0, []), (1, [0]), (2, []), (3, []), (4, [0, 1, 2, 3]), (5, [0, 1, 2, 3, 4]), (6, [0, 1, 2, 3, 4]), (7, [0, 1, 2, 3]), (8, [0, 1, 2, 3]), (9, [])] (by decide +kernel) ?_; conv => whnf)
    | (refine RegX.rule (id := 11) hT rfl [] [(0, []), (1, [0]), (2, []), (3, []), (4, [0, 1, 2, 3]), (5, [0, 1, 2, 3, 4]), (6, [0, 1, 2, 3, 4]), (7, [0, 1, 2, 3]), (8, [0, 1, 2, 3]), (9, [])] (by decide +kernel) ?_; conv => whnf)
    | omega
    | (refine And.intro ?_ ?_; ((try dsimp only); first | omega | (refine ⟨by omega, by omega, Int.le_trans (Int.mul_le_mul_of_nonneg_right (Int.ofNat_le.2 (Nat.le_of_ble_eq_true (rfl : Nat.ble _ 1024 = true))) (by omega)) (by omega), by omega⟩) | (refine Nat.le_trans (Nat.mul_le_mul_left _ (Nat.le_of_ble_eq_true (rfl : Nat.ble _ 1024 = true))) ?_; omega) | (unfold inI64; omega) | (constructor <;> omega) | (simp only [inI64, List.length_cons, List.length_append, List.length_nil, List.length_set] at *; omega) | decide | (unfold inI64; decide)); conv => whnf)
    | omega | decide | assumption)
  · have hsub : SV.le (SV.sub 1000001 4 (k : Int).toNat (((l.length : Nat) : Int) - (k : Int)).toNat) (SV.sub 1000001 4 k (l.length - k)) := by
      rw [show (k : Int).toNat = k by omega, show (((l.length : Nat) : Int) - (k : Int)).toNat = l.length - k by omega]; exact SV.le_refl _
    have hdup : l.getD k pa0 = l.getD (k - 1) pa0 := by
      rw [toNat_pred] at hb
      exact pas_eq.2 ⟨hb.1, hb.2.1, hb.2.2.1, hb.2.2.2.1⟩
    refine LoopX.rule hT (C := []) (ι := Nat × Nat × List Pas) (fun (q, m, c) => k ≤ q ∧ q < k + m ∧ 1 ≤ m ∧ k + m ≤ l.length ∧ c.length = l.length ∧ c.take q = cptN l (k + m) ∧ ∀ j, k + m ≤ j + 1 → c.getD j pa0 = l.getD j pa0)
      (fun (q, m, c) => mkSt [(0, .buf 1000001), (3, .d (.int .i64 q)), (4, .sub 1000001 4 k (l.length - k)), (5, .d (.int .i64 m))] [(1000001, seqB 140 4 paF pa0 c)])
      (fun (_, m, _) => l.length - m) (k, 1, l) ⟨by omega, by omega, by omega, by omega, rfl, ?_, fun _ _ => rfl⟩ (by refine Entails.mk' [(1000001, 1000001)] rfl rfl ?_ ?_ <;> repeat' (first | exact True.intro | exact SV.le_refl _ | exact Res.le_refl _ | (exact hsub) | exact SV.le_int (by omega) | exact SV.le_any _ | refine And.intro ?_ ?_)) ?_
    · rw [cptN, if_pos ⟨by omega, hdup⟩, List.append_nil, p3]
    rintro ⟨q, m, c⟩ ⟨r1, r2, r3, r4, hc0, r5, r6⟩
    conv => whnf
    repeat' (first
      | (refine SliceX.first (lo := none) rfl ?_; conv => whnf)
      | (refine SliceX.look (lo := some _) rfl ?_; conv => whnf)
      | (refine br_intro (fun hb => ?_) (fun hb => ?_) <;> (try simp only [decide_eq_true_eq, decide_eq_false_iff_not, Bool.not_eq_true', Bool.not_eq_false', Bool.and_eq_true, Bool.or_eq_true, beq_iff_eq, not_and, Int.not_le, Int.not_lt, Int.toNat_natCast, beq_eq_false_iff_ne, ne_eq, eq_self, not_true_eq_false, not_false_eq_true] at hb) <;> (conv => whnf))
      | (refine RegX.rule (id := 6) hT rfl [] [(0, []), (1, [0]), (2, []), (3, []), (4, [0, 1, 2, 3]), (5, [0, 1, 2, 3, 4]), (6, [0, 1, 2, 3, 4]), (7, [0, 1, 2, 3]), (8, [0, 1, 2, 3]), (9, [])] (by decide +kernel) ?_; conv => whnf)
      | (refine RegX.rule (id := 11) hT rfl [] [(0, []), (1, [0]), (2, []), (3, []), (4, [0, 1, 2, 3]), (5, [0, 1, 2, 3, 4]), (6, [0, 1, 2, 3, 4]), (7, [0, 1, 2, 3]), (8, [0, 1, 2, 3]), (9, [])] (by decide +kernel) ?_; conv => whnf)
      | omega
      | (refine And.intro ?_ ?_; ((try dsimp only); first | omega | (refine ⟨by omega, by omega, Int.le_trans (Int.mul_le_mul_of_nonneg_right (Int.ofNat_le.2 (Nat.le_of_ble_eq_true (rfl : Nat.ble _ 1024 = true))) (by omega)) (by omega), by omega⟩) | (refine Nat.le_trans (Nat.mul_le_mul_left _ (Nat.le_of_ble_eq_true (rfl : Nat.ble _ 1024 = true))) ?_; omega) | (unfold inI64; omega) | (constructor <;> omega) | (simp only [inI64, List.length_cons, List.length_append, List.length_nil, List.length_set] at *; omega) | decide | (unfold inI64; decide)); conv => whnf)
      | omega | decide | assumption)
    · have g1 := r6 (k + m) (by omega)
      have g2 := r6 (k + m - 1) (by omega)
      rw [show k + ((m : Int) - 1).toNat = k + m - 1 by omega, g1, g2] at hb
      have hne : ¬ l.getD (k + m) pa0 = l.getD (k + m - 1) pa0 := by
        intro h
        rw [h] at hb
        simp at hb
      have eq' : (q : Int).toNat = q := Int.toNat_natCast q
      have em : k + (m : Int).toNat = k + m := by rw [Int.toNat_natCast]
      refine ⟨(q + 1, m + 1, c.set (q : Int).toNat (c.getD (k + (m : Int).toNat) pa0)), ⟨by omega, by omega, by omega, by omega, by rw [List.length_set]; exact hc0, ?_, fun j hj => ?_⟩, by show l.length - (m + 1) < l.length - m; omega, Entails.mk' [(1000001, 1000001)] rfl rfl ⟨SV.le_refl _, SV.le_int (by omega), SV.le_refl _, SV.le_int (by omega), trivial⟩ ⟨Res.le_putF (fun _ _ => rfl), trivial⟩⟩
      · rw [eq', em, g1, ← Nat.add_assoc, cptN, if_neg (fun h => hne h.2), ← r5, take_snocD (d := pa0) (by rw [List.length_set]; omega)]
        rw [List.take_set_of_le (Nat.le_refl _), List.getD_eq_getElem?_getD, List.getElem?_set_self (by omega)]; rfl
      · rw [eq', List.getD_eq_getElem?_getD, List.getElem?_set_ne (by omega), ← List.getD_eq_getElem?_getD]
        exact r6 j (by omega)
    · have g1 := r6 (k + m) (by omega)
      have g2 := r6 (k + m - 1) (by omega)
      rw [show k + ((m : Int) - 1).toNat = k + m - 1 by omega, g1, g2] at hb
      have hdup2 : l.getD (k + m) pa0 = l.getD (k + m - 1) pa0 := pas_eq.2 ⟨hb.1, hb.2.1, hb.2.2.1, hb.2.2.2.1⟩
      refine ⟨(q, m + 1, c), ⟨by omega, by omega, by omega, by omega, hc0, ?_, fun j hj => r6 j (by omega)⟩, by show l.length - (m + 1) < l.length - m; omega, (by refine Entails.mk' [(1000001, 1000001)] rfl rfl ?_ ?_ <;> repeat' (first | exact True.intro | exact SV.le_refl _ | exact Res.le_refl _ | exact SV.le_int (by omega) | exact SV.le_any _ | refine And.intro ?_ ?_))⟩
      rw [← Nat.add_assoc, cptN, if_pos ⟨by omega, hdup2⟩, List.append_nil]; exact r5
    · have hkm : k + m = l.length := by omega
      refine .ret _ ?_
      conv => whnf
      refine ⟨_, ⟨59, .inr rfl, rfl, rfl⟩, Res.le_buf (by rw [← hkm, ← r5, List.length_take]; omega) (fun i hi => ?_), trivial⟩
      have hi : i < q := by
        have : i < (q : Int).toNat := hi
        omega
      have h1 : Nat.ble (q : Int).toNat i = false := by
        rw [← Bool.not_eq_true, Nat.ble_eq]; omega
      show (bif Nat.ble (q : Int).toNat i && _ then _ else rowF paF pa0 c i) = _
      rw [h1, ← hkm, ← r5]
      simp only [Bool.false_and, cond_false, rowF]
      rw [List.getD_eq_getElem?_getD, List.getD_eq_getElem?_getD, List.getElem?_take_of_lt hi]
  · have hne : ¬ l.getD k pa0 = l.getD (k - 1) pa0 := by
      rw [toNat_pred] at hb
      intro h
      rw [h] at hb
      simp at hb
    refine ⟨k + 1, ⟨by omega, by omega, ?_⟩, by omega, (by refine Entails.mk' [(1000001, 1000001)] rfl rfl ?_ ?_ <;> repeat' (first | exact True.intro | exact SV.le_refl _ | exact Res.le_refl _ | exact SV.le_int (by omega) | exact SV.le_any _ | refine And.intro ?_ ?_))⟩
    rw [cptN, if_neg (fun h => hne h.2), p3, take_snocD (d := pa0) (by omega)]
  · have hk : k = l.length := by omega
    have e : cptN l l.length = l := by rw [← hk, p3, hk, List.take_length]
    refine .ret _ ?_
    conv => whnf
    rw [e]
    exact ⟨_, ⟨1000001, .inl rfl, rfl, rfl⟩, Res.le_refl _, trivial⟩
end Go.Proofs.YtellmmmohdjpeaaDoor
set_option maxRecDepth 20000
namespace Go.Proofs.YtellmmmohdjpeaaDoor
open Go Go.Eng
def nbE (l : List Pas) (i : Nat) : Int := if 0 < i ∧ pasCmp (l.getD (i - 1) pa0) (l.getD i pa0) = 0 then 13 else 0
def mrgL (a b : List Pas) : List Pas := cptN (isort pasCmp (a ++ b)) (isort pasCmp (a ++ b)).length
def mrgE (a b : List Pas) : Int := if firstAt (nbE (mrgL a b)) (mrgL a b).length ≠ 0 then 13 else if 1000 < (mrgL a b).length then 2 else 0
theorem isort_mem {l : List Pas} {x : Pas} : x ∈ isort pasCmp l ↔ x ∈ l := by unfold isort; rw [List.mem_reverse, isortR_mem]
theorem isort_len {l : List Pas} : (isort pasCmp l).length = l.length := by unfold isort; rw [List.length_reverse, isortR_length]
theorem cptN_mem {l : List Pas} {x : Pas} : ∀ {i : Nat}, i ≤ l.length → x ∈ cptN l i → x ∈ l := by
  intro i
  induction i with
  | zero => intro _ h; simp [cptN] at h
  | succ i ih =>
    intro hi h
    rw [cptN] at h
    rcases List.mem_append.1 h with q | q
    · exact ih (by omega) q
    · split at q
      · simp at q
      · simp at q; subst q; exact getD_mem (by omega)
theorem mrg_mem {a b : List Pas} {x : Pas} (h : x ∈ mrgL a b) : x ∈ a ∨ x ∈ b := by
  have := cptN_mem (Nat.le_refl _) h
  rw [isort_mem] at this
  exact List.mem_append.1 this
theorem mrg_len (a b : List Pas) : (mrgL a b).length ≤ a.length + b.length := by
  have := cptN_len (isort pasCmp (a ++ b)) (isort pasCmp (a ++ b)).length
  rw [isort_len, List.length_append] at this
  unfold mrgL; rw [isort_len, List.length_append]; exact this
-- Q.PassagesOf
theorem s91 (a b : List Pas) (hn : a.length + b.length < 20) (hbd : ∀ p, p ∈ a ∨ p ∈ b → -2^40 ≤ p.tm ∧ p.tm ≤ 2^40) :
    FSpec Tryd.prog 91 [.d (pass a), .d (pass b)] [] (fun x r => x = .tup [.d (if mrgE a b = 0 then pass (mrgL a b) else .nilsl), .d (.int .i64 (mrgE a b))] ∧ r = []) := by
  have hml := mrg_len a b
  have hfl : [a, b].flatten = a ++ b := by simp
  have h149 := s149 [a, b] (by simp) (by simp [lens]; omega)
  rw [hfl] at h149
  have h126 := s126f 127 pasCmp (a ++ b) (by rw [List.length_append]; exact hn) (fun p q hp hq => s127 p q (hbd p (List.mem_append.1 hp)) (hbd q (List.mem_append.1 hq)))
  have h151 := s151 (isort pasCmp (a ++ b)) (by rw [isort_len, List.length_append]; omega)
  rw [show cptN (isort pasCmp (a ++ b)) (isort pasCmp (a ++ b)).length = mrgL a b from rfl] at h151
  refine spec_of hT (C := []) Tryd.func91 rfl Tryd.call91 rfl rfl rfl ?_
  conv => whnf
  refine CallX.of h149 [(6, 11)] rfl ⟨SV.le_lit (l := [a, b]) rfl rfl, trivial⟩ trivial rfl rfl ?_
  rintro x rout ⟨rfl, rfl⟩
  refine ⟨rfl, ?_⟩
  conv => whnf
  repeat' (first
    | (refine br_intro (fun hb => ?_) (fun hb => ?_) <;> (try simp only [decide_eq_true_eq, decide_eq_false_iff_not, Bool.not_eq_true', Bool.not_eq_false', Bool.and_eq_true, Bool.or_eq_true, beq_iff_eq, not_and, Int.not_le, Int.not_lt, Int.toNat_natCast, beq_eq_false_iff_ne, ne_eq, eq_self, not_true_eq_false, not_false_eq_true] at hb) <;> (conv => whnf))
    | (refine RegX.rule (id := 7) hT rfl [] [(0, []), (1, []), (2, []), (3, []), (4, [3]), (5, [3]), (6, []), (7, []), (8, [3, 4, 5, 6, 7]), (9, [3, 4, 5, 6, 7, 8]), (10, [3, 4, 5, 6, 7]), (11, [3, 4, 5, 6, 7]), (12, []), (13, []), (14, [])] (by decide +kernel) ?_; conv => whnf)
    | omega
    | (refine And.intro ?_ ?_; ((try dsimp only); first | omega | (refine ⟨by omega, by omega, Int.le_trans (Int.mul_le_mul_of_nonneg_right (Int.ofNat_le.2 (Nat.le_of_ble_eq_true (rfl : Nat.ble _ 1024 = true))) (by omega)) (by omega), by omega⟩) | (refine Nat.le_trans (Nat.mul_le_mul_left _ (Nat.le_of_ble_eq_true (rfl : Nat.ble _ 1024 = true))) ?_; omega) | (unfold inI64; omega) | (constructor <;> omega) | (simp only [inI64, List.length_cons, List.length_append, List.length_nil, List.length_set] at *; omega) | decide | (unfold inI64; decide)); conv => whnf)
    | omega | decide | assumption)
  refine CallX.of h126 [(1000001, 11)] rfl ⟨SV.le_refl _, SV.le_refl _, trivial⟩ ⟨Res.le_refl _, trivial⟩ rfl rfl ?_
  rintro x rout ⟨rfl, rfl⟩
  refine ⟨rfl, ?_⟩
  conv => whnf
  repeat' (first
    | (refine br_intro (fun hb => ?_) (fun hb => ?_) <;> (try simp only [decide_eq_true_eq, decide_eq_false_iff_not, Bool.not_eq_true', Bool.not_eq_false', Bool.and_eq_true, Bool.or_eq_true, beq_iff_eq, not_and, Int.not_le, Int.not_lt, Int.toNat_natCast, beq_eq_false_iff_ne, ne_eq, eq_self, not_true_eq_false, not_false_eq_true] at hb) <;> (conv => whnf))
    | (refine RegX.rule (id := 7) hT rfl [] [(0, []), (1, []), (2, []), (3, []), (4, [3]), (5, [3]), (6, []), (7, []), (8, [3, 4, 5, 6, 7]), (9, [3, 4, 5, 6, 7, 8]), (10, [3, 4, 5, 6, 7]), (11, [3, 4, 5, 6, 7]), (12, []), (13, []), (14, [])] (by decide +kernel) ?_; conv => whnf)
    | omega
    | (refine And.intro ?_ ?_; ((try dsimp only); first | omega | (refine ⟨by omega, by omega, Int.le_trans (Int.mul_le_mul_of_nonneg_right (Int.ofNat_le.2 (Nat.le_of_ble_eq_true (rfl : Nat.ble _ 1024 = true))) (by omega)) (by omega), by omega⟩) | (refine Nat.le_trans (Nat.mul_le_mul_left _ (Nat.le_of_ble_eq_true (rfl : Nat.ble _ 1024 = true))) ?_; omega) | (unfold inI64; omega) | (constructor <;> omega) | (simp only [inI64, List.length_cons, List.length_append, List.length_nil, List.length_set] at *; omega) | decide | (unfold inI64; decide)); conv => whnf)
    | omega | decide | assumption)
  refine CallX.of h151 [(1000001, 11), (59, 100)] rfl ⟨SV.le_refl _, trivial⟩ ⟨Res.le_refl _, trivial⟩ rfl rfl ?_
  rintro x rout ⟨d, hd, rfl, rfl⟩
  rcases hd with rfl | rfl
  · refine ⟨rfl, ?_⟩
    conv => whnf
    repeat' (first
      | (refine br_intro (fun hb => ?_) (fun hb => ?_) <;> (try simp only [decide_eq_true_eq, decide_eq_false_iff_not, Bool.not_eq_true', Bool.not_eq_false', Bool.and_eq_true, Bool.or_eq_true, beq_iff_eq, not_and, Int.not_le, Int.not_lt, Int.toNat_natCast, beq_eq_false_iff_ne, ne_eq, eq_self, not_true_eq_false, not_false_eq_true] at hb) <;> (conv => whnf))
      | (refine RegX.rule (id := 7) hT rfl [] [(0, []), (1, []), (2, []), (3, []), (4, [3]), (5, [3]), (6, []), (7, []), (8, [3, 4, 5, 6, 7]), (9, [3, 4, 5, 6, 7, 8]), (10, [3, 4, 5, 6, 7]), (11, [3, 4, 5, 6, 7]), (12, []), (13, []), (14, [])] (by decide +kernel) ?_; conv => whnf)
      | omega
      | (refine And.intro ?_ ?_; ((try dsimp only); first | omega | (refine ⟨by omega, by omega, Int.le_trans (Int.mul_le_mul_of_nonneg_right (Int.ofNat_le.2 (Nat.le_of_ble_eq_true (rfl : Nat.ble _ 1024 = true))) (by omega)) (by omega), by omega⟩) | (refine Nat.le_trans (Nat.mul_le_mul_left _ (Nat.le_of_ble_eq_true (rfl : Nat.ble _ 1024 = true))) ?_; omega) | (unfold inI64; omega) | (constructor <;> omega) | (simp only [inI64, List.length_cons, List.length_append, List.length_nil, List.length_set] at *; omega) | decide | (unfold inI64; decide)); conv => whnf)
      | omega | decide | assumption)
    refine LoopX.rule hT (C := []) (ι := Nat) (fun i => i ≤ (mrgL a b).length ∧ ∀ j, j < i → nbE (mrgL a b) j = 0) (fun i => mkSt [(6, .buf 6), (17, .d (.int .i64 (mrgL a b).length)), (18, .d (.int .i64 i))] [(6, seqB 140 4 paF pa0 (mrgL a b))]) (fun i => (mrgL a b).length - i) 0 ⟨by omega, by omega⟩ ?_ ?_
    · exact (by refine Entails.mk' [(6, 11)] rfl rfl ?_ ?_ <;> repeat' (first | exact True.intro | exact SV.le_refl _ | exact Res.le_refl _ | exact SV.le_int (by omega) | exact SV.le_any _ | refine And.intro ?_ ?_))
    rintro i ⟨p1, p2⟩
    have e1 : (i : Int).toNat = i := Int.toNat_natCast i
    have hq : ∀ j, j < (mrgL a b).length → -2^40 ≤ ((mrgL a b).getD j pa0).tm ∧ ((mrgL a b).getD j pa0).tm ≤ 2^40 := fun j hj => hbd _ (mrg_mem (getD_mem hj))
    conv => whnf
    repeat' (first
      | (refine CallX.exact (s127 ((mrgL a b).getD ((i : Int) - 1).toNat pa0) ((mrgL a b).getD (i : Int).toNat pa0) (hq _ (by omega)) (hq _ (by omega))) rfl rfl ?_; rotate_right; conv => whnf)
      | (refine br_intro (fun hb => ?_) (fun hb => ?_) <;> (try simp only [decide_eq_true_eq, decide_eq_false_iff_not, Bool.not_eq_true', Bool.not_eq_false', Bool.and_eq_true, Bool.or_eq_true, beq_iff_eq, not_and, Int.not_le, Int.not_lt, Int.toNat_natCast, beq_eq_false_iff_ne, ne_eq, eq_self, not_true_eq_false, not_false_eq_true] at hb) <;> (conv => whnf))
      | (refine RegX.rule (id := 7) hT rfl [] [(0, []), (1, []), (2, []), (3, []), (4, [3]), (5, [3]), (6, []), (7, []), (8, [3, 4, 5, 6, 7]), (9, [3, 4, 5, 6, 7, 8]), (10, [3, 4, 5, 6, 7]), (11, [3, 4, 5, 6, 7]), (12, []), (13, []), (14, [])] (by decide +kernel) ?_; conv => whnf)
      | omega
      | (refine And.intro ?_ ?_; ((try dsimp only); first | omega | (refine ⟨by omega, by omega, Int.le_trans (Int.mul_le_mul_of_nonneg_right (Int.ofNat_le.2 (Nat.le_of_ble_eq_true (rfl : Nat.ble _ 1024 = true))) (by omega)) (by omega), by omega⟩) | (refine Nat.le_trans (Nat.mul_le_mul_left _ (Nat.le_of_ble_eq_true (rfl : Nat.ble _ 1024 = true))) ?_; omega) | (unfold inI64; omega) | (constructor <;> omega) | (simp only [inI64, List.length_cons, List.length_append, List.length_nil, List.length_set] at *; omega) | decide | (unfold inI64; decide)); conv => whnf)
      | omega | decide | assumption)
    · have h13 : nbE (mrgL a b) i = 13 := by
        rw [toNat_pred] at hb
        unfold nbE; rw [if_pos ⟨by omega, hb⟩]
      have hE : mrgE a b = 13 := by
        unfold mrgE; rw [firstAt_eq (e := 13) (by omega) p2 (by decide) h13]; rfl
      rw [hE]
      refine .ret _ ?_
      conv => whnf
      refine ⟨[], ⟨congrArg SV.tup ?_, rfl⟩, trivial⟩
      repeat' (refine cons_eq ?_ ?_)
      all_goals (conv => lhs; whnf)
      all_goals try (with_reducible rfl)
      all_goals rfl
    · refine ⟨i + 1, ⟨by omega, first_step p2 ?_⟩, by omega, (by refine Entails.mk' [(6, 6)] rfl rfl ?_ ?_ <;> repeat' (first | exact True.intro | exact SV.le_refl _ | exact Res.le_refl _ | exact SV.le_int (by omega) | exact SV.le_any _ | refine And.intro ?_ ?_))⟩
      rw [toNat_pred] at hb
      unfold nbE; rw [if_neg (fun h => hb h.2)]
    · refine ⟨i + 1, ⟨by omega, first_step p2 ?_⟩, by omega, (by refine Entails.mk' [(6, 6)] rfl rfl ?_ ?_ <;> repeat' (first | exact True.intro | exact SV.le_refl _ | exact Res.le_refl _ | exact SV.le_int (by omega) | exact SV.le_any _ | refine And.intro ?_ ?_))⟩
      unfold nbE; rw [if_neg (by omega)]
    · have hi : i = (mrgL a b).length := by omega
      rw [hi] at p2
      have hE : mrgE a b = 0 := by
        unfold mrgE; rw [firstAt_zero p2, if_neg (by decide), if_neg (by omega)]
      rw [hE, if_pos rfl]
      refine .freeze _ 6 140 4 _ _ rfl ?_
      refine .ret _ ?_
      conv => whnf
      refine ⟨[], ⟨congrArg SV.tup ?_, rfl⟩, trivial⟩
      repeat' (refine cons_eq ?_ ?_)
      all_goals (conv => lhs; whnf)
      all_goals try (with_reducible rfl)
  · refine ⟨rfl, ?_⟩
    conv => whnf
    repeat' (first
      | (refine br_intro (fun hb => ?_) (fun hb => ?_) <;> (try simp only [decide_eq_true_eq, decide_eq_false_iff_not, Bool.not_eq_true', Bool.not_eq_false', Bool.and_eq_true, Bool.or_eq_true, beq_iff_eq, not_and, Int.not_le, Int.not_lt, Int.toNat_natCast, beq_eq_false_iff_ne, ne_eq, eq_self, not_true_eq_false, not_false_eq_true] at hb) <;> (conv => whnf))
      | (refine RegX.rule (id := 7) hT rfl [] [(0, []), (1, []), (2, []), (3, []), (4, [3]), (5, [3]), (6, []), (7, []), (8, [3, 4, 5, 6, 7]), (9, [3, 4, 5, 6, 7, 8]), (10, [3, 4, 5, 6, 7]), (11, [3, 4, 5, 6, 7]), (12, []), (13, []), (14, [])] (by decide +kernel) ?_; conv => whnf)
      | omega
      | (refine And.intro ?_ ?_; ((try dsimp only); first | omega | (refine ⟨by omega, by omega, Int.le_trans (Int.mul_le_mul_of_nonneg_right (Int.ofNat_le.2 (Nat.le_of_ble_eq_true (rfl : Nat.ble _ 1024 = true))) (by omega)) (by omega), by omega⟩) | (refine Nat.le_trans (Nat.mul_le_mul_left _ (Nat.le_of_ble_eq_true (rfl : Nat.ble _ 1024 = true))) ?_; omega) | (unfold inI64; omega) | (constructor <;> omega) | (simp only [inI64, List.length_cons, List.length_append, List.length_nil, List.length_set] at *; omega) | decide | (unfold inI64; decide)); conv => whnf)
      | omega | decide | assumption)
    refine LoopX.rule hT (C := []) (ι := Nat) (fun i => i ≤ (mrgL a b).length ∧ ∀ j, j < i → nbE (mrgL a b) j = 0) (fun i => mkSt [(6, .buf 6), (17, .d (.int .i64 (mrgL a b).length)), (18, .d (.int .i64 i))] [(6, seqB 140 4 paF pa0 (mrgL a b))]) (fun i => (mrgL a b).length - i) 0 ⟨by omega, by omega⟩ ?_ ?_
    · exact (by refine Entails.mk' [(6, 100)] rfl rfl ?_ ?_ <;> repeat' (first | exact True.intro | exact SV.le_refl _ | exact Res.le_refl _ | exact SV.le_int (by omega) | exact SV.le_any _ | refine And.intro ?_ ?_))
    rintro i ⟨p1, p2⟩
    have e1 : (i : Int).toNat = i := Int.toNat_natCast i
    have hq : ∀ j, j < (mrgL a b).length → -2^40 ≤ ((mrgL a b).getD j pa0).tm ∧ ((mrgL a b).getD j pa0).tm ≤ 2^40 := fun j hj => hbd _ (mrg_mem (getD_mem hj))
    conv => whnf
    repeat' (first
      | (refine CallX.exact (s127 ((mrgL a b).getD ((i : Int) - 1).toNat pa0) ((mrgL a b).getD (i : Int).toNat pa0) (hq _ (by omega)) (hq _ (by omega))) rfl rfl ?_; rotate_right; conv => whnf)
      | (refine br_intro (fun hb => ?_) (fun hb => ?_) <;> (try simp only [decide_eq_true_eq, decide_eq_false_iff_not, Bool.not_eq_true', Bool.not_eq_false', Bool.and_eq_true, Bool.or_eq_true, beq_iff_eq, not_and, Int.not_le, Int.not_lt, Int.toNat_natCast, beq_eq_false_iff_ne, ne_eq, eq_self, not_true_eq_false, not_false_eq_true] at hb) <;> (conv => whnf))
      | (refine RegX.rule (id := 7) hT rfl [] [(0, []), (1, []), (2, []), (3, []), (4, [3]), (5, [3]), (6, []), (7, []), (8, [3, 4, 5, 6, 7]), (9, [3, 4, 5, 6, 7, 8]), (10, [3, 4, 5, 6, 7]), (11, [3, 4, 5, 6, 7]), (12, []), (13, []), (14, [])] (by decide +kernel) ?_; conv => whnf)
      | omega
      | (refine And.intro ?_ ?_; ((try dsimp only); first | omega | (refine ⟨by omega, by omega, Int.le_trans (Int.mul_le_mul_of_nonneg_right (Int.ofNat_le.2 (Nat.le_of_ble_eq_true (rfl : Nat.ble _ 1024 = true))) (by omega)) (by omega), by omega⟩) | (refine Nat.le_trans (Nat.mul_le_mul_left _ (Nat.le_of_ble_eq_true (rfl : Nat.ble _ 1024 = true))) ?_; omega) | (unfold inI64; omega) | (constructor <;> omega) | (simp only [inI64, List.length_cons, List.length_append, List.length_nil, List.length_set] at *; omega) | decide | (unfold inI64; decide)); conv => whnf)
      | omega | decide | assumption)
    · have h13 : nbE (mrgL a b) i = 13 := by
        rw [toNat_pred] at hb
        unfold nbE; rw [if_pos ⟨by omega, hb⟩]
      have hE : mrgE a b = 13 := by
        unfold mrgE; rw [firstAt_eq (e := 13) (by omega) p2 (by decide) h13]; rfl
      rw [hE]
      refine .ret _ ?_
      conv => whnf
      refine ⟨[], ⟨congrArg SV.tup ?_, rfl⟩, trivial⟩
      repeat' (refine cons_eq ?_ ?_)
      all_goals (conv => lhs; whnf)
      all_goals try (with_reducible rfl)
      all_goals rfl
    · refine ⟨i + 1, ⟨by omega, first_step p2 ?_⟩, by omega, (by refine Entails.mk' [(6, 6)] rfl rfl ?_ ?_ <;> repeat' (first | exact True.intro | exact SV.le_refl _ | exact Res.le_refl _ | exact SV.le_int (by omega) | exact SV.le_any _ | refine And.intro ?_ ?_))⟩
      rw [toNat_pred] at hb
      unfold nbE; rw [if_neg (fun h => hb h.2)]
    · refine ⟨i + 1, ⟨by omega, first_step p2 ?_⟩, by omega, (by refine Entails.mk' [(6, 6)] rfl rfl ?_ ?_ <;> repeat' (first | exact True.intro | exact SV.le_refl _ | exact Res.le_refl _ | exact SV.le_int (by omega) | exact SV.le_any _ | refine And.intro ?_ ?_))⟩
      unfold nbE; rw [if_neg (by omega)]
    · have hi : i = (mrgL a b).length := by omega
      rw [hi] at p2
      have hE : mrgE a b = 0 := by
        unfold mrgE; rw [firstAt_zero p2, if_neg (by decide), if_neg (by omega)]
      rw [hE, if_pos rfl]
      refine .freeze _ 6 140 4 _ _ rfl ?_
      refine .ret _ ?_
      conv => whnf
      refine ⟨[], ⟨congrArg SV.tup ?_, rfl⟩, trivial⟩
      repeat' (refine cons_eq ?_ ?_)
      all_goals (conv => lhs; whnf)
      all_goals try (with_reducible rfl)
end Go.Proofs.YtellmmmohdjpeaaDoor
set_option maxRecDepth 20000
namespace Go.Proofs.YtellmmmohdjpeaaDoor
open Go Go.Eng
def mergeE (g : List Gate) (a b : List Pas) : Int := if firstE [chkE g a, chkE g b] ≠ 0 then firstE [chkE g a, chkE g b] else mrgE a b
theorem nb_zero (l : List Pas) : ∀ j, j < 1 → nbE l j = 0 := fun j hj => by
  have : j = 0 := by omega
  subst this; rfl
-- toll.Merge
theorem s87 (g : List Gate) (a b : List Pas) (hg : gOk g) (ha : pOk a) (hb' : pOk b) (hn : a.length + b.length < 20) :
    FSpec Tryd.prog 87 [.d (gates g), .d (pass a), .d (pass b)] [] (fun x r => x = .tup [.d (if mergeE g a b = 0 then pass (mrgL a b) else .nilsl), .d (.int .i64 (mergeE g a b))] ∧ r = []) := by
  have hml := mrg_len a b
  have hfl : [a, b].flatten = a ++ b := by simp
  have h149 := s149 [a, b] (by simp) (by simp [lens]; omega)
  rw [hfl] at h149
  have h126 := s126f 150 pasCmp (a ++ b) (by rw [List.length_append]; exact hn) (fun p q _ _ => s150 p q)
  have h151 := s151 (isort pasCmp (a ++ b)) (by rw [isort_len, List.length_append]; omega)
  rw [show cptN (isort pasCmp (a ++ b)) (isort pasCmp (a ++ b)).length = mrgL a b from rfl] at h151
  refine spec_of hT (C := []) Tryd.func87 rfl Tryd.call87 rfl rfl rfl ?_
  conv => whnf
  repeat' (first
    | (refine CallX.exact (s90 g a hg ha) rfl rfl ?_; rotate_right; conv => whnf)
    | (refine CallX.exact (s90 g b hg hb') rfl rfl ?_; rotate_right; conv => whnf)
    | (refine CallX.pure (s105 [_, _] (by simp)) ⟨SV.le_lit (by rfl) (by rfl), trivial⟩ rfl ?_; conv => whnf)
    | (refine br_intro (fun hb => ?_) (fun hb => ?_) <;> (try simp only [decide_eq_true_eq, decide_eq_false_iff_not, Bool.not_eq_true', Bool.not_eq_false', Bool.and_eq_true, Bool.or_eq_true, beq_iff_eq, not_and, Int.not_le, Int.not_lt, Int.toNat_natCast, beq_eq_false_iff_ne, ne_eq, eq_self, not_true_eq_false, not_false_eq_true] at hb) <;> (conv => whnf))
    | (refine RegX.rule (id := 10) hT rfl [] [(0, []), (1, [0]), (2, [0]), (3, []), (4, []), (5, [0, 1, 2, 3, 4]), (6, [0, 1, 2, 3, 4, 5]), (7, [0, 1, 2, 3, 4]), (8, [0, 1, 2, 3, 4]), (9, []), (10, [])] (by decide +kernel) ?_; conv => whnf)
    | omega
    | (refine And.intro ?_ ?_; ((try dsimp only); first | omega | (refine ⟨by omega, by omega, Int.le_trans (Int.mul_le_mul_of_nonneg_right (Int.ofNat_le.2 (Nat.le_of_ble_eq_true (rfl : Nat.ble _ 1024 = true))) (by omega)) (by omega), by omega⟩) | (refine Nat.le_trans (Nat.mul_le_mul_left _ (Nat.le_of_ble_eq_true (rfl : Nat.ble _ 1024 = true))) ?_; omega) | (unfold inI64; omega) | (constructor <;> omega) | (simp only [inI64, List.length_cons, List.length_append, List.length_nil, List.length_set] at *; omega) | decide | (unfold inI64; decide)); conv => whnf)
    | omega | decide | assumption)
  · have hE : mergeE g a b = firstE [chkE g a, chkE g b] := by unfold mergeE; rw [if_pos hb]
    rw [hE, if_neg hb]
    refine .ret _ ?_
    conv => whnf
    refine ⟨[], ⟨congrArg SV.tup ?_, rfl⟩, trivial⟩
    repeat' (refine cons_eq ?_ ?_)
    all_goals (conv => lhs; whnf)
    all_goals try (with_reducible rfl)
    all_goals rfl
  have hE : mergeE g a b = mrgE a b := by unfold mergeE; rw [if_neg (fun h => h hb)]
  rw [hE]
  refine CallX.of h149 [(6, 25)] rfl ⟨SV.le_lit (l := [a, b]) rfl rfl, trivial⟩ trivial rfl rfl ?_
  rintro x rout ⟨rfl, rfl⟩
  refine ⟨rfl, ?_⟩
  conv => whnf
  repeat' (first
    | (refine br_intro (fun hb => ?_) (fun hb => ?_) <;> (try simp only [decide_eq_true_eq, decide_eq_false_iff_not, Bool.not_eq_true', Bool.not_eq_false', Bool.and_eq_true, Bool.or_eq_true, beq_iff_eq, not_and, Int.not_le, Int.not_lt, Int.toNat_natCast, beq_eq_false_iff_ne, ne_eq, eq_self, not_true_eq_false, not_false_eq_true] at hb) <;> (conv => whnf))
    | (refine RegX.rule (id := 10) hT rfl [] [(0, []), (1, [0]), (2, [0]), (3, []), (4, []), (5, [0, 1, 2, 3, 4]), (6, [0, 1, 2, 3, 4, 5]), (7, [0, 1, 2, 3, 4]), (8, [0, 1, 2, 3, 4]), (9, []), (10, [])] (by decide +kernel) ?_; conv => whnf)
    | omega
    | (refine And.intro ?_ ?_; ((try dsimp only); first | omega | (refine ⟨by omega, by omega, Int.le_trans (Int.mul_le_mul_of_nonneg_right (Int.ofNat_le.2 (Nat.le_of_ble_eq_true (rfl : Nat.ble _ 1024 = true))) (by omega)) (by omega), by omega⟩) | (refine Nat.le_trans (Nat.mul_le_mul_left _ (Nat.le_of_ble_eq_true (rfl : Nat.ble _ 1024 = true))) ?_; omega) | (unfold inI64; omega) | (constructor <;> omega) | (simp only [inI64, List.length_cons, List.length_append, List.length_nil, List.length_set] at *; omega) | decide | (unfold inI64; decide)); conv => whnf)
    | omega | decide | assumption)
  refine CallX.of h126 [(1000001, 25)] rfl ⟨SV.le_refl _, SV.le_refl _, trivial⟩ ⟨Res.le_refl _, trivial⟩ rfl rfl ?_
  rintro x rout ⟨rfl, rfl⟩
  refine ⟨rfl, ?_⟩
  conv => whnf
  repeat' (first
    | (refine br_intro (fun hb => ?_) (fun hb => ?_) <;> (try simp only [decide_eq_true_eq, decide_eq_false_iff_not, Bool.not_eq_true', Bool.not_eq_false', Bool.and_eq_true, Bool.or_eq_true, beq_iff_eq, not_and, Int.not_le, Int.not_lt, Int.toNat_natCast, beq_eq_false_iff_ne, ne_eq, eq_self, not_true_eq_false, not_false_eq_true] at hb) <;> (conv => whnf))
    | (refine RegX.rule (id := 10) hT rfl [] [(0, []), (1, [0]), (2, [0]), (3, []), (4, []), (5, [0, 1, 2, 3, 4]), (6, [0, 1, 2, 3, 4, 5]), (7, [0, 1, 2, 3, 4]), (8, [0, 1, 2, 3, 4]), (9, []), (10, [])] (by decide +kernel) ?_; conv => whnf)
    | omega
    | (refine And.intro ?_ ?_; ((try dsimp only); first | omega | (refine ⟨by omega, by omega, Int.le_trans (Int.mul_le_mul_of_nonneg_right (Int.ofNat_le.2 (Nat.le_of_ble_eq_true (rfl : Nat.ble _ 1024 = true))) (by omega)) (by omega), by omega⟩) | (refine Nat.le_trans (Nat.mul_le_mul_left _ (Nat.le_of_ble_eq_true (rfl : Nat.ble _ 1024 = true))) ?_; omega) | (unfold inI64; omega) | (constructor <;> omega) | (simp only [inI64, List.length_cons, List.length_append, List.length_nil, List.length_set] at *; omega) | decide | (unfold inI64; decide)); conv => whnf)
    | omega | decide | assumption)
  refine CallX.of h151 [(1000001, 25), (59, 100)] rfl ⟨SV.le_refl _, trivial⟩ ⟨Res.le_refl _, trivial⟩ rfl rfl ?_
  rintro x rout ⟨d, hd, rfl, rfl⟩
  rcases hd with rfl | rfl
  · refine ⟨rfl, ?_⟩
    conv => whnf
    repeat' (first
      | (refine br_intro (fun hb => ?_) (fun hb => ?_) <;> (try simp only [decide_eq_true_eq, decide_eq_false_iff_not, Bool.not_eq_true', Bool.not_eq_false', Bool.and_eq_true, Bool.or_eq_true, beq_iff_eq, not_and, Int.not_le, Int.not_lt, Int.toNat_natCast, beq_eq_false_iff_ne, ne_eq, eq_self, not_true_eq_false, not_false_eq_true] at hb) <;> (conv => whnf))
      | (refine RegX.rule (id := 10) hT rfl [] [(0, []), (1, [0]), (2, [0]), (3, []), (4, []), (5, [0, 1, 2, 3, 4]), (6, [0, 1, 2, 3, 4, 5]), (7, [0, 1, 2, 3, 4]), (8, [0, 1, 2, 3, 4]), (9, []), (10, [])] (by decide +kernel) ?_; conv => whnf)
      | omega
      | (refine And.intro ?_ ?_; ((try dsimp only); first | omega | (refine ⟨by omega, by omega, Int.le_trans (Int.mul_le_mul_of_nonneg_right (Int.ofNat_le.2 (Nat.le_of_ble_eq_true (rfl : Nat.ble _ 1024 = true))) (by omega)) (by omega), by omega⟩) | (refine Nat.le_trans (Nat.mul_le_mul_left _ (Nat.le_of_ble_eq_true (rfl : Nat.ble _ 1024 = true))) ?_; omega) | (unfold inI64; omega) | (constructor <;> omega) | (simp only [inI64, List.length_cons, List.length_append, List.length_nil, List.length_set] at *; omega) | decide | (unfold inI64; decide)); conv => whnf)
      | omega | decide | assumption)
    refine LoopX.rule hT (C := []) (ι := Nat) (fun i => 1 ≤ i ∧ (i ≤ (mrgL a b).length ∨ i = 1) ∧ ∀ j, j < i → nbE (mrgL a b) j = 0) (fun i => mkSt [(9, .buf 9), (10, .d (.int .i64 i))] [(9, seqB 140 4 paF pa0 (mrgL a b))]) (fun i => (mrgL a b).length - i) 1 ⟨by omega, by omega, nb_zero _⟩ ?_ ?_
    · exact (by refine Entails.mk' [(9, 25)] rfl rfl ?_ ?_ <;> repeat' (first | exact True.intro | exact SV.le_refl _ | exact Res.le_refl _ | exact SV.le_int (by omega) | exact SV.le_any _ | refine And.intro ?_ ?_))
    rintro i ⟨p0, p1, p2⟩
    have e1 : (i : Int).toNat = i := Int.toNat_natCast i
    conv => whnf
    repeat' (first
      | (refine CallX.exact (s150 ((mrgL a b).getD ((i : Int) - 1).toNat pa0) ((mrgL a b).getD (i : Int).toNat pa0)) rfl rfl ?_; rotate_right; conv => whnf)
      | (refine br_intro (fun hb => ?_) (fun hb => ?_) <;> (try simp only [decide_eq_true_eq, decide_eq_false_iff_not, Bool.not_eq_true', Bool.not_eq_false', Bool.and_eq_true, Bool.or_eq_true, beq_iff_eq, not_and, Int.not_le, Int.not_lt, Int.toNat_natCast, beq_eq_false_iff_ne, ne_eq, eq_self, not_true_eq_false, not_false_eq_true] at hb) <;> (conv => whnf))
      | (refine RegX.rule (id := 10) hT rfl [] [(0, []), (1, [0]), (2, [0]), (3, []), (4, []), (5, [0, 1, 2, 3, 4]), (6, [0, 1, 2, 3, 4, 5]), (7, [0, 1, 2, 3, 4]), (8, [0, 1, 2, 3, 4]), (9, []), (10, [])] (by decide +kernel) ?_; conv => whnf)
      | omega
      | (refine And.intro ?_ ?_; ((try dsimp only); first | omega | (refine ⟨by omega, by omega, Int.le_trans (Int.mul_le_mul_of_nonneg_right (Int.ofNat_le.2 (Nat.le_of_ble_eq_true (rfl : Nat.ble _ 1024 = true))) (by omega)) (by omega), by omega⟩) | (refine Nat.le_trans (Nat.mul_le_mul_left _ (Nat.le_of_ble_eq_true (rfl : Nat.ble _ 1024 = true))) ?_; omega) | (unfold inI64; omega) | (constructor <;> omega) | (simp only [inI64, List.length_cons, List.length_append, List.length_nil, List.length_set] at *; omega) | decide | (unfold inI64; decide)); conv => whnf)
      | omega | decide | assumption)
    · have h13 : nbE (mrgL a b) i = 13 := by
        rw [toNat_pred] at hb
        unfold nbE; rw [if_pos ⟨by omega, hb⟩]
      have hE : mrgE a b = 13 := by
        unfold mrgE; rw [firstAt_eq (e := 13) (by omega) p2 (by decide) h13]; rfl
      rw [hE]
      refine .ret _ ?_
      conv => whnf
      refine ⟨[], ⟨congrArg SV.tup ?_, rfl⟩, trivial⟩
      repeat' (refine cons_eq ?_ ?_)
      all_goals (conv => lhs; whnf)
      all_goals try (with_reducible rfl)
      all_goals rfl
    · refine ⟨i + 1, ⟨by omega, by omega, first_step p2 ?_⟩, by omega, (by refine Entails.mk' [(9, 9)] rfl rfl ?_ ?_ <;> repeat' (first | exact True.intro | exact SV.le_refl _ | exact Res.le_refl _ | exact SV.le_int (by omega) | exact SV.le_any _ | refine And.intro ?_ ?_))⟩
      rw [toNat_pred] at hb
      unfold nbE; rw [if_neg (fun h => hb h.2)]
    · have hE : mrgE a b = 0 := by
        unfold mrgE; rw [firstAt_zero (fun j hj => p2 j (by omega)), if_neg (by decide), if_neg (by omega)]
      rw [hE, if_pos rfl]
      refine .freeze _ 9 140 4 _ _ rfl ?_
      refine .ret _ ?_
      conv => whnf
      refine ⟨[], ⟨congrArg SV.tup ?_, rfl⟩, trivial⟩
      repeat' (refine cons_eq ?_ ?_)
      all_goals (conv => lhs; whnf)
      all_goals try (with_reducible rfl)
  · refine ⟨rfl, ?_⟩
    conv => whnf
    repeat' (first
      | (refine br_intro (fun hb => ?_) (fun hb => ?_) <;> (try simp only [decide_eq_true_eq, decide_eq_false_iff_not, Bool.not_eq_true', Bool.not_eq_false', Bool.and_eq_true, Bool.or_eq_true, beq_iff_eq, not_and, Int.not_le, Int.not_lt, Int.toNat_natCast, beq_eq_false_iff_ne, ne_eq, eq_self, not_true_eq_false, not_false_eq_true] at hb) <;> (conv => whnf))
      | (refine RegX.rule (id := 10) hT rfl [] [(0, []), (1, [0]), (2, [0]), (3, []), (4, []), (5, [0, 1, 2, 3, 4]), (6, [0, 1, 2, 3, 4, 5]), (7, [0, 1, 2, 3, 4]), (8, [0, 1, 2, 3, 4]), (9, []), (10, [])] (by decide +kernel) ?_; conv => whnf)
      | omega
      | (refine And.intro ?_ ?_; ((try dsimp only); first | omega | (refine ⟨by omega, by omega, Int.le_trans (Int.mul_le_mul_of_nonneg_right (Int.ofNat_le.2 (Nat.le_of_ble_eq_true (rfl : Nat.ble _ 1024 = true))) (by omega)) (by omega), by omega⟩) | (refine Nat.le_trans (Nat.mul_le_mul_left _ (Nat.le_of_ble_eq_true (rfl : Nat.ble _ 1024 = true))) ?_; omega) | (unfold inI64; omega) | (constructor <;> omega) | (simp only [inI64, List.length_cons, List.length_append, List.length_nil, List.length_set] at *; omega) | decide | (unfold inI64; decide)); conv => whnf)
      | omega | decide | assumption)
    refine LoopX.rule hT (C := []) (ι := Nat) (fun i => 1 ≤ i ∧ (i ≤ (mrgL a b).length ∨ i = 1) ∧ ∀ j, j < i → nbE (mrgL a b) j = 0) (fun i => mkSt [(9, .buf 9), (10, .d (.int .i64 i))] [(9, seqB 140 4 paF pa0 (mrgL a b))]) (fun i => (mrgL a b).length - i) 1 ⟨by omega, by omega, nb_zero _⟩ ?_ ?_
    · exact (by refine Entails.mk' [(9, 100)] rfl rfl ?_ ?_ <;> repeat' (first | exact True.intro | exact SV.le_refl _ | exact Res.le_refl _ | exact SV.le_int (by omega) | exact SV.le_any _ | refine And.intro ?_ ?_))
    rintro i ⟨p0, p1, p2⟩
    have e1 : (i : Int).toNat = i := Int.toNat_natCast i
    conv => whnf
    repeat' (first
      | (refine CallX.exact (s150 ((mrgL a b).getD ((i : Int) - 1).toNat pa0) ((mrgL a b).getD (i : Int).toNat pa0)) rfl rfl ?_; rotate_right; conv => whnf)
      | (refine br_intro (fun hb => ?_) (fun hb => ?_) <;> (try simp only [decide_eq_true_eq, decide_eq_false_iff_not, Bool.not_eq_true', Bool.not_eq_false', Bool.and_eq_true, Bool.or_eq_true, beq_iff_eq, not_and, Int.not_le, Int.not_lt, Int.toNat_natCast, beq_eq_false_iff_ne, ne_eq, eq_self, not_true_eq_false, not_false_eq_true] at hb) <;> (conv => whnf))
      | (refine RegX.rule (id := 10) hT rfl [] [(0, []), (1, [0]), (2, [0]), (3, []), (4, []), (5, [0, 1, 2, 3, 4]), (6, [0, 1, 2, 3, 4, 5]), (7, [0, 1, 2, 3, 4]), (8, [0, 1, 2, 3, 4]), (9, []), (10, [])] (by decide +kernel) ?_; conv => whnf)
      | omega
      | (refine And.intro ?_ ?_; ((try dsimp only); first | omega | (refine ⟨by omega, by omega, Int.le_trans (Int.mul_le_mul_of_nonneg_right (Int.ofNat_le.2 (Nat.le_of_ble_eq_true (rfl : Nat.ble _ 1024 = true))) (by omega)) (by omega), by omega⟩) | (refine Nat.le_trans (Nat.mul_le_mul_left _ (Nat.le_of_ble_eq_true (rfl : Nat.ble _ 1024 = true))) ?_; omega) | (unfold inI64; omega) | (constructor <;> omega) | (simp only [inI64, List.length_cons, List.length_append, List.length_nil, List.length_set] at *; omega) | decide | (unfold inI64; decide)); conv => whnf)
      | omega | decide | assumption)
    · have h13 : nbE (mrgL a b) i = 13 := by
        rw [toNat_pred] at hb
        unfold nbE; rw [if_pos ⟨by omega, hb⟩]
      have hE : mrgE a b = 13 := by
        unfold mrgE; rw [firstAt_eq (e := 13) (by omega) p2 (by decide) h13]; rfl
      rw [hE]
      refine .ret _ ?_
      conv => whnf
      refine ⟨[], ⟨congrArg SV.tup ?_, rfl⟩, trivial⟩
      repeat' (refine cons_eq ?_ ?_)
      all_goals (conv => lhs; whnf)
      all_goals try (with_reducible rfl)
      all_goals rfl
    · refine ⟨i + 1, ⟨by omega, by omega, first_step p2 ?_⟩, by omega, (by refine Entails.mk' [(9, 9)] rfl rfl ?_ ?_ <;> repeat' (first | exact True.intro | exact SV.le_refl _ | exact Res.le_refl _ | exact SV.le_int (by omega) | exact SV.le_any _ | refine And.intro ?_ ?_))⟩
      rw [toNat_pred] at hb
      unfold nbE; rw [if_neg (fun h => hb h.2)]
    · have hE : mrgE a b = 0 := by
        unfold mrgE; rw [firstAt_zero (fun j hj => p2 j (by omega)), if_neg (by decide), if_neg (by omega)]
      rw [hE, if_pos rfl]
      refine .freeze _ 9 140 4 _ _ rfl ?_
      refine .ret _ ?_
      conv => whnf
      refine ⟨[], ⟨congrArg SV.tup ?_, rfl⟩, trivial⟩
      repeat' (refine cons_eq ?_ ?_)
      all_goals (conv => lhs; whnf)
      all_goals try (with_reducible rfl)
end Go.Proofs.YtellmmmohdjpeaaDoor
set_option maxRecDepth 20000
namespace Go.Proofs.YtellmmmohdjpeaaDoor
open Go Go.Eng
theorem SV.le_drop {α : Type} {f : α → List DV} {d : α} {l : List α} {k j m : Nat} (hm : m = (l.drop j).length) : SV.le (.d (.ro k m fun i => rowF f d l (j + i))) (.d (seqD k f d (l.drop j))) :=
  SV.le_ro hm (fun i hi => by simp only [rowF]; rw [List.getD_eq_getElem?_getD, List.getD_eq_getElem?_getD, List.getElem?_drop])
theorem Res.le_upd {α : Type} {f : α → List DV} {d : α} {l : List α} {e k j off : Nat} {ds : List DV} (g : α → α) (hg : ∀ y, setAtD (f y) off ds = f (g y)) :
    Res.le (.buf e k l.length fun i => bif Nat.beq i j then setAtD (rowF f d l i) off ds else rowF f d l i) (seqB e k f d (l.set j (g (l.getD j d)))) :=
  Res.le_putF fun y hy => by rw [hg, List.getD_eq_getElem?_getD, hy]; rfl
-- slices.Clone of passages
theorem s85 (l : List Pas) (hl : l.length ≤ 2^20) (h0 : 0 < l.length) : FSpec Tryd.prog 85 [.d (pass l)] [] (fun y r => y = .buf 7 ∧ r = [(7, seqB 140 4 paF pa0 l)]) := by
  refine spec_of hT (C := [5]) Tryd.func85 rfl Tryd.call85 rfl rfl rfl ?_
  conv => whnf
  rintro b hbn
  conv => whnf
  repeat' (first
    | (refine br_intro (fun hb => ?_) (fun hb => ?_) <;> (try simp only [decide_eq_true_eq, decide_eq_false_iff_not, Bool.not_eq_true', Bool.not_eq_false', Bool.and_eq_true, Bool.or_eq_true, beq_iff_eq, not_and, Int.not_le, Int.not_lt, Int.toNat_natCast, beq_eq_false_iff_ne, ne_eq, eq_self, not_true_eq_false, not_false_eq_true] at hb) <;> (conv => whnf))
    | omega
    | (refine And.intro ?_ ?_; ((try dsimp only); first | omega | (refine ⟨by omega, by omega, Int.le_trans (Int.mul_le_mul_of_nonneg_right (Int.ofNat_le.2 (Nat.le_of_ble_eq_true (rfl : Nat.ble _ 1024 = true))) (by omega)) (by omega), by omega⟩) | (refine Nat.le_trans (Nat.mul_le_mul_left _ (Nat.le_of_ble_eq_true (rfl : Nat.ble _ 1024 = true))) ?_; omega) | (unfold inI64; omega) | (constructor <;> omega) | (simp only [inI64, List.length_cons, List.length_append, List.length_nil, List.length_set] at *; omega) | decide | (unfold inI64; decide)); conv => whnf)
    | omega | decide | assumption)
  · exact absurd (hbn (by assumption)) (by omega)
  · refine .ret _ ?_
    conv => whnf
    refine ⟨_, ⟨rfl, rfl⟩, Res.le_buf (by simp) (fun i hi => ?_), trivial⟩
    rw [appGet_ge (by omega)]; rfl
end Go.Proofs.YtellmmmohdjpeaaDoor
set_option maxRecDepth 20000
namespace Go.Proofs.YtellmmmohdjpeaaDoor
open Go Go.Eng
def allK {α : Type} (K : α → Prop) (k : Nat) (l : List α) : Prop := l.length ≤ k ∧ ∀ x ∈ l, K x
theorem allK_snoc {α : Type} {K : α → Prop} {l : List α} {k m : Nat} {x : α} (h : allK K k l) (hm : k + 1 ≤ m) (hx : K x) : allK K m (l ++ [x]) := by
  refine ⟨by rw [List.length_append]; have := h.1; simp; omega, fun p hp => ?_⟩
  rcases List.mem_append.1 hp with q | q
  · exact h.2 p q
  · simp at q; subst q; exact hx
theorem allK_le {α : Type} {K : α → Prop} {l : List α} {k m : Nat} (h : allK K k l) (hm : k ≤ m) : allK K m l := ⟨by have := h.1; omega, h.2⟩
theorem allK_upd {α : Type} {K : α → Prop} {l : List α} {k j : Nat} {d : α} {g : α → α} (h : allK K k l) (hg : ∀ y, K y → K (g y)) : allK K k (l.set j (g (l.getD j d))) := by
  refine ⟨by rw [List.length_set]; exact h.1, fun p hp => ?_⟩
  by_cases hj : j < l.length
  · rcases List.mem_or_eq_of_mem_set hp with q | q
    · exact h.2 p q
    · subst q; exact hg _ (h.2 _ (getD_mem hj))
  · rw [List.set_eq_of_length_le (by omega)] at hp; exact h.2 p hp
theorem rows_updG {α : Type} {f : α → List DV} {d : α} {l : List α} {j off : Nat} {ds : List DV} {get : Nat → List DV} (hg : ∀ i, i < l.length → get i = rowF f d l i) (g : α → α) (h : ∀ y, setAtD (f y) off ds = f (g y)) :
    ∀ i, i < (l.set j (g (l.getD j d))).length → (bif Nat.beq i j then setAtD (get i) off ds else get i) = rowF f d (l.set j (g (l.getD j d))) i := by
  rw [List.length_set]
  exact rows_putG hg (fun y hy => by rw [h, List.getD_eq_getElem?_getD, hy]; rfl)
abbrev updL {α : Type} (l : List α) (j : Nat) (d : α) (g : α → α) : List α := l.set j (g (l.getD j d))
theorem SV.le_upd2 {α : Type} {f : α → List DV} {d : α} {l : List α} {k j1 j2 o1 o2 : Nat} {ds1 ds2 : List DV} (g1 g2 : α → α) (h1 : ∀ y, setAtD (f y) o1 ds1 = f (g1 y)) (h2 : ∀ y, setAtD (f y) o2 ds2 = f (g2 y)) :
    SV.le (.d (.ro k l.length fun i => bif Nat.beq i j2 then setAtD (bif Nat.beq i j1 then setAtD (rowF f d l i) o1 ds1 else rowF f d l i) o2 ds2 else (bif Nat.beq i j1 then setAtD (rowF f d l i) o1 ds1 else rowF f d l i)))
      (.d (seqD k f d (updL (updL l j1 d g1) j2 d g2))) :=
  SV.le_ro (by simp) (fun i hi => rows_updG (rows_updG (fun _ _ => rfl) g1 h1) g2 h2 i (by simpa using hi))
theorem SV.le_upd3 {α : Type} {f : α → List DV} {d : α} {l : List α} {k j1 j2 j3 o1 o2 o3 : Nat} {ds1 ds2 ds3 : List DV} (g1 g2 g3 : α → α) (h1 : ∀ y, setAtD (f y) o1 ds1 = f (g1 y)) (h2 : ∀ y, setAtD (f y) o2 ds2 = f (g2 y)) (h3 : ∀ y, setAtD (f y) o3 ds3 = f (g3 y)) :
    SV.le (.d (.ro k l.length fun i => bif Nat.beq i j3 then setAtD (bif Nat.beq i j2 then setAtD (bif Nat.beq i j1 then setAtD (rowF f d l i) o1 ds1 else rowF f d l i) o2 ds2 else (bif Nat.beq i j1 then setAtD (rowF f d l i) o1 ds1 else rowF f d l i)) o3 ds3
        else (bif Nat.beq i j2 then setAtD (bif Nat.beq i j1 then setAtD (rowF f d l i) o1 ds1 else rowF f d l i) o2 ds2 else (bif Nat.beq i j1 then setAtD (rowF f d l i) o1 ds1 else rowF f d l i))))
      (.d (seqD k f d (updL (updL (updL l j1 d g1) j2 d g2) j3 d g3))) :=
  SV.le_ro (by simp) (fun i hi => rows_updG (rows_updG (rows_updG (fun _ _ => rfl) g1 h1) g2 h2) g3 h3 i (by simpa using hi))
theorem rows_snocG {α : Type} {f : α → List DV} {d : α} {l : List α} {x : α} {n : Nat} {get h : Nat → List DV} (hn : n = l.length) (hg : ∀ i, i < l.length → get i = rowF f d l i) (hx : h 0 = f x) :
    ∀ i, i < (l ++ [x]).length → appGet n get h i = rowF f d (l ++ [x]) i := by
  intro i hi
  subst hn
  rw [← rows_snocF (f := f) (d := d) (l := l) (x := x) (h := h) hx i (by simpa using hi)]
  rcases Nat.lt_or_ge i l.length with q | q
  · rw [appGet_lt q, appGet_lt q, hg i q]
  · rw [appGet_ge q, appGet_ge q]
theorem SV.le_upd2_snoc {α : Type} {f : α → List DV} {d : α} {l : List α} {k j1 j2 o1 o2 : Nat} {ds1 ds2 : List DV} {h : Nat → List DV} (g1 g2 : α → α) (x : α) (h1 : ∀ y, setAtD (f y) o1 ds1 = f (g1 y)) (h2 : ∀ y, setAtD (f y) o2 ds2 = f (g2 y)) (hx : h 0 = f x) :
    SV.le (.d (.ro k (l.length + 1) (appGet l.length (fun i => bif Nat.beq i j2 then setAtD (bif Nat.beq i j1 then setAtD (rowF f d l i) o1 ds1 else rowF f d l i) o2 ds2 else (bif Nat.beq i j1 then setAtD (rowF f d l i) o1 ds1 else rowF f d l i)) h)))
      (.d (seqD k f d (updL (updL l j1 d g1) j2 d g2 ++ [x]))) :=
  SV.le_ro (by simp) (fun i hi => rows_snocG (l := updL (updL l j1 d g1) j2 d g2) (by simp) (rows_updG (rows_updG (fun _ _ => rfl) g1 h1) g2 h2) hx i (by simpa using hi))
def sameL {α : Type} (l c : List α) : Prop := c.length = l.length ∧ ∀ x ∈ c, x ∈ l
theorem sameL_set {α : Type} {l c : List α} {j : Nat} {x : α} (h : sameL l c) (hx : x ∈ l) : sameL l (c.set j x) :=
  ⟨by rw [List.length_set]; exact h.1, fun y hy => by rcases List.mem_or_eq_of_mem_set hy with q | q; exact h.2 y q; subst q; exact hx⟩
def subL {α : Type} (l c : List α) : Prop := c.length ≤ l.length ∧ ∀ x ∈ c, x ∈ l
end Go.Proofs.YtellmmmohdjpeaaDoor
