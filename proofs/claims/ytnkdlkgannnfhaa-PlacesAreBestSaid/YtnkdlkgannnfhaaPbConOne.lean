/- PlacesAreBest is proved: for every input the law returns true, and its argument reads afterwards as it read before. Conditions: those of the given row alone. -/
import Derived.Test.YtnkdlkgannnfhaaPbEngTwo
import Derived.Test.YtnkdlkgannnfhaaProg
import Derived.Shelf.Strings.SlTrimAscii
set_option linter.unusedVariables false
set_option linter.unusedSimpArgs false
set_option maxRecDepth 20000
namespace Go.Proofs.Ytnkdlkgannnfhaa
open Go Go.Eng
/-- The structs that are compared. -/
def eqTab : List Nat := [114, 136, 77, 123]
theorem eqTab_ok : eqTab.all (eqFits Try.prog) = true := by decide +kernel
noncomputable def T : Tab := tiOf Try.prog (mem eqTab)
theorem hT : TabOk Try.prog T := ⟨mem eqTab, fun _ _ h => h, fun t ht => List.all_eq_true.1 eqTab_ok t ((mem_iff _ _).1 ht)⟩
abbrev i64 (n : Int) : DV := .int .i64 n
def strm (n : Nat) (L : Nat → Int) (at' : Int) : Res := .cells 25 [.d (.ro 1 n fun i => [.int .i64 (L i)]), .d (.int .i64 at')]
def Rok (n : Nat) (L : Nat → Int) : Prop := n ≤ maxLen ∧ ∀ i, -2^63 ≤ L i ∧ L i < 2^63
theorem s148 (x n : Int) (hn : n ≤ 2^40) : FSpec Try.prog 38 [.d (.int .i64 x), .d (.int .i64 n)] [] (fun y r => (∃ m : Int, 0 ≤ m ∧ (1 ≤ n → m < n) ∧ (n < 1 → m = 0) ∧ y = .d (.int .i64 m)) ∧ r = []) := by
  refine spec_of hT (C := []) Try.func38 rfl Try.call38 rfl rfl rfl ?_
  conv => whnf
  refine br_intro (fun h => ?_) (fun h => ?_)
  · conv => whnf
    refine .ret _ ?_
    conv => whnf
    refine ⟨[], ⟨⟨_, ?_, ?_, ?_, rfl⟩, rfl⟩, trivial⟩
    all_goals (simp at h; omega)
  · conv => whnf
    refine ⟨?_, ?_⟩
    · simp at h; omega
    conv => whnf
    simp at h
    have h1 := Int.tmod_lt_of_pos x (b := n) (by omega)
    have h2 := Int.lt_tmod_of_pos x (b := n) (by omega)
    refine br_intro (fun h2 => ?_) (fun h2 => ?_)
    · conv => whnf
      simp at h2
      refine ⟨?_, ?_⟩
      · unfold inI64; omega
      · conv => whnf
        refine .ret _ ?_
        conv => whnf
        refine ⟨[], ⟨⟨_, ?_, ?_, ?_, rfl⟩, rfl⟩, trivial⟩
        all_goals omega
    · conv => whnf
      simp at h2
      refine .ret _ ?_
      conv => whnf
      refine ⟨[], ⟨⟨_, ?_, ?_, ?_, rfl⟩, rfl⟩, trivial⟩
      all_goals omega
theorem nextB {a n : Int} (h0 : 0 ≤ a) (hn : 1 ≤ n) : 0 ≤ a.tdiv n ∧ a.tdiv n ≤ a ∧ 0 ≤ a.tmod n ∧ a.tmod n < n ∧ 0 ≤ a.tdiv n * a.tmod n ∧ a.tdiv n * a.tmod n ≤ a ∧ a.tmod n ≤ a := by
  have h1 : 0 ≤ a.tdiv n := Int.tdiv_nonneg h0 (by omega)
  have h2 : 0 ≤ a.tmod n := Int.tmod_nonneg _ h0
  have h3 : a.tmod n < n := Int.tmod_lt_of_pos _ (by omega)
  have h4 := Int.tmod_add_mul_tdiv a n
  have h5 : a.tdiv n * 1 ≤ a.tdiv n * n := Int.mul_le_mul_of_nonneg_left hn h1
  have h6 : a.tdiv n * a.tmod n ≤ a.tdiv n * n := Int.mul_le_mul_of_nonneg_left (by omega) h1
  have h7 : 0 ≤ a.tdiv n * a.tmod n := Int.mul_nonneg h1 h2
  rw [Int.mul_comm] at h4
  have h8 : 0 ≤ a.tdiv n * n := Int.mul_nonneg h1 (by omega)
  refine ⟨h1, ?_, h2, h3, h7, ?_, ?_⟩ <;> omega
theorem s86 (n : Nat) (L : Nat → Int) (hL : Rok n L) (a : Int) (h0 : 0 ≤ a) (ha : a ≤ 2^40) (m : Int) (hm : m ≤ 2^40) :
    FSpec Try.prog 19 [.ptr 1000000 0, .d (.int .i64 m)] [(1000000, strm n L a)] (fun y r => (∃ j : Int, 0 ≤ j ∧ (1 ≤ m → j < m) ∧ (m < 1 → j = 0) ∧ y = .d (.int .i64 j)) ∧ r = [(1000000, strm n L (a + 1))]) := by
  refine spec_of hT (C := []) Try.func19 rfl Try.call19 rfl rfl rfl ?_
  conv => whnf
  refine ⟨by unfold inI64; omega, ?_⟩
  conv => whnf
  refine br_intro (fun h => ?_) (fun h => ?_)
  · conv => whnf
    refine ⟨by unfold inI64; omega, ?_⟩
    conv => whnf
    refine CallX.of (s148 _ _ hm) [] rfl ⟨SV.le_refl _, SV.le_refl _, trivial⟩ trivial rfl rfl ?_
    rintro x rout ⟨⟨j, j1, j2, j3, rfl⟩, rfl⟩
    refine ⟨rfl, ?_⟩
    conv => whnf
    refine .ret _ ?_
    conv => whnf
    exact ⟨[(1000000, strm n L (a + 1))], ⟨⟨_, j1, j2, j3, rfl⟩, rfl⟩, Res.le_refl _, trivial⟩
  · conv => whnf
    simp at h
    have hnp : (1:Int) ≤ n := by omega
    refine RegX.rule hT rfl [] [(0, []), (1, []), (2, []), (3, []), (4, []), (5, [0, 1, 2, 3, 4]), (6, [0, 1, 2, 3, 4]), (7, [0, 1, 2, 3, 4]), (8, [0, 1, 2, 3, 4]), (9, [0, 1, 2, 3, 4]), (10, []), (11, [])] (by decide +kernel) ?_
    conv => whnf
    refine ⟨by unfold inI64; omega, ?_⟩
    conv => whnf
    refine ⟨by omega, ?_⟩
    conv => whnf
    have ea : a + 1 - 1 = a := by omega
    obtain ⟨b1, b2, b3, b4, b5, b6, b7⟩ := nextB h0 hnp
    refine RegX.rule hT rfl [] [(0, []), (1, []), (2, []), (3, []), (4, []), (5, [0, 1, 2, 3, 4]), (6, [0, 1, 2, 3, 4]), (7, [0, 1, 2, 3, 4]), (8, [0, 1, 2, 3, 4]), (9, [0, 1, 2, 3, 4]), (10, []), (11, [])] (by decide +kernel) ?_
    conv => whnf
    refine ⟨by unfold inI64; omega, ?_⟩
    conv => whnf
    refine ⟨by omega, ?_⟩
    conv => whnf
    refine ⟨by unfold inI64; rw [ea]; omega, ?_⟩
    conv => whnf
    rw [ea]
    refine ⟨⟨b3, b4⟩, ?_⟩
    conv => whnf
    refine CallX.of (s148 _ _ (by omega)) [] rfl ⟨SV.le_refl _, SV.le_refl _, trivial⟩ trivial rfl rfl ?_
    rintro x rout ⟨⟨j, j1, j2, j3, rfl⟩, rfl⟩
    refine ⟨rfl, ?_⟩
    conv => whnf
    refine ⟨by unfold inI64; omega, ?_⟩
    conv => whnf
    have e2 : a.tdiv n * (7919 + a.tmod n) = 7919 * a.tdiv n + a.tdiv n * a.tmod n := by rw [Int.mul_add, Int.mul_comm _ 7919]
    rw [e2]
    refine ⟨by unfold inI64; omega, ?_⟩
    conv => whnf
    refine ⟨by unfold inI64; omega, ?_⟩
    conv => whnf
    refine CallX.of (s148 _ _ hm) [] rfl ⟨SV.le_refl _, SV.le_refl _, trivial⟩ trivial rfl rfl ?_
    rintro x rout ⟨⟨j, k1, k2, k3, rfl⟩, rfl⟩
    refine ⟨rfl, ?_⟩
    conv => whnf
    refine .ret _ ?_
    conv => whnf
    exact ⟨[(1000000, strm n L (a + 1))], ⟨⟨_, k1, k2, k3, rfl⟩, rfl⟩, Res.le_refl _, trivial⟩
/-- What a maker leaves of the stream: it moved on by at most 'c'. -/
def Moved (n : Nat) (L : Nat → Int) (a : Int) (c : Int) (r : List (Nat × Res)) : Prop := ∃ b, a ≤ b ∧ b ≤ a + c ∧ r = [(1000000, strm n L b)]
-- Range
theorem s64 (n : Nat) (L : Nat → Int) (hL : Rok n L) (a : Int) (h0 : 0 ≤ a) (ha : a ≤ 2^40) (lo hi : Int) (h1 : -2^41 ≤ lo) (h2 : hi ≤ lo + 2^40 - 1) (h3 : lo ≤ 2^41) (h4 : lo ≤ hi) :
    FSpec Try.prog 6 [.ptr 1000000 0, .d (.int .i64 lo), .d (.int .i64 hi)] [(1000000, strm n L a)] (fun y r => (∃ j : Int, lo ≤ j ∧ j ≤ hi ∧ y = .d (.int .i64 j)) ∧ Moved n L a 1 r) := by
  refine spec_of hT (C := []) Try.func6 rfl Try.call6 rfl rfl rfl ?_
  conv => whnf
  refine br_intro (fun h => ?_) (fun h => ?_)
  · simp at h; omega
  conv => whnf
  refine ⟨by unfold inI64; omega, ?_⟩
  conv => whnf
  refine ⟨by unfold inI64; omega, ?_⟩
  conv => whnf
  refine CallX.of (s86 n L hL a h0 ha _ (by omega)) [(1000000, 1000000)] rfl ⟨SV.le_refl _, SV.le_refl _, trivial⟩ ⟨Res.le_refl _, trivial⟩ rfl rfl ?_
  rintro x rout ⟨⟨j, k1, k2, k3, rfl⟩, rfl⟩
  refine ⟨rfl, ?_⟩
  conv => whnf
  refine ⟨by unfold inI64; omega, ?_⟩
  conv => whnf
  refine .ret _ ?_
  conv => whnf
  exact ⟨[(1000000, strm n L (a + 1))], ⟨⟨_, by omega, by omega, rfl⟩, a + 1, by omega, by omega, rfl⟩, Res.le_refl _, trivial⟩
-- Flip
theorem s84 (n : Nat) (L : Nat → Int) (hL : Rok n L) (a : Int) (h0 : 0 ≤ a) (ha : a ≤ 2^40) (m : Int) (hm : m ≤ 2^40) :
    FSpec Try.prog 17 [.ptr 1000000 0, .d (.int .i64 m)] [(1000000, strm n L a)] (fun y r => (∃ b : Bool, y = .d (.bool b)) ∧ Moved n L a 1 r) := by
  refine spec_of hT (C := []) Try.func17 rfl Try.call17 rfl rfl rfl ?_
  conv => whnf
  refine CallX.of (s86 n L hL a h0 ha _ (by omega)) [(1000000, 1000000)] rfl ⟨SV.le_refl _, SV.le_refl _, trivial⟩ ⟨Res.le_refl _, trivial⟩ rfl rfl ?_
  rintro x rout ⟨⟨j, k1, k2, k3, rfl⟩, rfl⟩
  refine ⟨rfl, ?_⟩
  conv => whnf
  refine .ret _ ?_
  conv => whnf
  exact ⟨[(1000000, strm n L (a + 1))], ⟨⟨_, rfl⟩, a + 1, by omega, by omega, rfl⟩, Res.le_refl _, trivial⟩
-- Pick
theorem s33 (n : Nat) (L : Nat → Int) (hL : Rok n L) (a : Int) (h0 : 0 ≤ a) (ha : a ≤ 2^40) (l : List Int) (hl : 1 ≤ l.length) (hl2 : l.length ≤ 2^40) :
    FSpec Try.prog 16 [.ptr 1000000 0, .d (ints l)] [(1000000, strm n L a)] (fun y r => (∃ x ∈ l, y = .d (.int .i64 x)) ∧ Moved n L a 1 r) := by
  refine spec_of hT (C := []) Try.func16 rfl Try.call16 rfl rfl rfl ?_
  conv => whnf
  refine CallX.of (s86 n L hL a h0 ha l.length (by omega)) [(1000000, 1000000)] rfl ⟨SV.le_refl _, SV.le_refl _, trivial⟩ ⟨Res.le_refl _, trivial⟩ rfl rfl ?_
  rintro x rout ⟨⟨j, k1, k2, k3, rfl⟩, rfl⟩
  refine ⟨rfl, ?_⟩
  conv => whnf
  refine ⟨⟨k1, by omega⟩, ?_⟩
  conv => whnf
  refine .ret _ ?_
  conv => whnf
  exact ⟨[(1000000, strm n L (a + 1))], ⟨⟨_, getD_mem (by omega), rfl⟩, a + 1, by omega, by omega, rfl⟩, Res.le_refl _, trivial⟩
-- Some
theorem s15 (n : Nat) (L : Nat → Int) (hL : Rok n L) (a : Int) (h0 : 0 ≤ a) (ha : a ≤ 2^40) (l : List (List UInt8)) (hl : 1 ≤ l.length) (hl2 : l.length ≤ 2^40) :
    FSpec Try.prog 28 [.ptr 1000000 0, .d (strs l)] [(1000000, strm n L a)] (fun y r => (∃ x ∈ l, y = .d (.str x)) ∧ Moved n L a 1 r) := by
  refine spec_of hT (C := []) Try.func28 rfl Try.call28 rfl rfl rfl ?_
  conv => whnf
  refine CallX.of (s86 n L hL a h0 ha l.length (by omega)) [(1000000, 1000000)] rfl ⟨SV.le_refl _, SV.le_refl _, trivial⟩ ⟨Res.le_refl _, trivial⟩ rfl rfl ?_
  rintro x rout ⟨⟨j, k1, k2, k3, rfl⟩, rfl⟩
  refine ⟨rfl, ?_⟩
  conv => whnf
  refine ⟨⟨k1, by omega⟩, ?_⟩
  conv => whnf
  refine .ret _ ?_
  conv => whnf
  exact ⟨[(1000000, strm n L (a + 1))], ⟨⟨_, getD_mem (by omega), rfl⟩, a + 1, by omega, by omega, rfl⟩, Res.le_refl _, trivial⟩
theorem Moved.trans {n : Nat} {L : Nat → Int} {a c : Int} {r : List (Nat × Res)} {b d : Int} (h1 : a ≤ b) (h2 : b + d ≤ a + c) (h : Moved n L b d r) : Moved n L a c r := by
  obtain ⟨e, q1, q2, rfl⟩ := h
  exact ⟨e, by omega, by omega, rfl⟩
-- Odd
theorem s104 (n : Nat) (L : Nat → Int) (hL : Rok n L) (a : Int) (h0 : 0 ≤ a) (ha : a ≤ 2^39) (lo hi : Int) (h1 : -2^38 ≤ lo) (h2 : lo ≤ hi) (h3 : hi ≤ 2^39) :
    FSpec Try.prog 18 [.ptr 1000000 0, .d (.int .i64 lo), .d (.int .i64 hi)] [(1000000, strm n L a)] (fun y r => (∃ j : Int, -2^40 ≤ j ∧ j ≤ 2^40 ∧ y = .d (.int .i64 j)) ∧ Moved n L a 2 r) := by
  refine spec_of hT (C := []) Try.func18 rfl Try.call18 rfl rfl rfl ?_
  conv => whnf
  refine CallX.of (s84 n L hL a h0 (by omega) 12 (by omega)) [(1000000, 1000000)] rfl ⟨SV.le_refl _, SV.le_refl _, trivial⟩ ⟨Res.le_refl _, trivial⟩ rfl rfl ?_
  rintro x rout ⟨⟨f, rfl⟩, ⟨b, b1, b2, rfl⟩⟩
  refine ⟨rfl, ?_⟩
  conv => whnf
  refine br_intro (fun hf => ?_) (fun hf => ?_)
  · conv => whnf
    refine ⟨by unfold inI64; omega, ?_⟩
    conv => whnf
    refine ⟨by unfold inI64; omega, ?_⟩
    conv => whnf
    refine CallX.of (s33 n L hL b (by omega) (by omega) [lo - 1, hi + 1, lo, hi, -1099511627776, 1099511627776] (by simp) (by simp)) [(1000000, 1000000)] rfl ⟨SV.le_refl _, SV.le_lit (by rfl) (by rfl), trivial⟩ ⟨Res.le_refl _, trivial⟩ rfl rfl ?_
    rintro x rout ⟨⟨j, hj, rfl⟩, ⟨c, c1, c2, rfl⟩⟩
    refine ⟨rfl, ?_⟩
    conv => whnf
    refine .ret _ ?_
    conv => whnf
    exact ⟨[(1000000, strm n L c)], ⟨⟨j, by simp at hj; omega, by simp at hj; omega, rfl⟩, c, by omega, by omega, rfl⟩, Res.le_refl _, trivial⟩
  · conv => whnf
    refine CallX.of (s64 n L hL b (by omega) (by omega) lo hi (by omega) (by omega) (by omega) h2) [(1000000, 1000000)] rfl ⟨SV.le_refl _, SV.le_refl _, SV.le_refl _, trivial⟩ ⟨Res.le_refl _, trivial⟩ rfl rfl ?_
    rintro x rout ⟨⟨j, j1, j2, rfl⟩, ⟨c, c1, c2, rfl⟩⟩
    refine ⟨rfl, ?_⟩
    conv => whnf
    refine .ret _ ?_
    conv => whnf
    exact ⟨[(1000000, strm n L c)], ⟨⟨j, by omega, by omega, rfl⟩, c, by omega, by omega, rfl⟩, Res.le_refl _, trivial⟩
end Go.Proofs.Ytnkdlkgannnfhaa
set_option maxRecDepth 20000
namespace Go.Proofs.Ytnkdlkgannnfhaa
open Go Go.Eng
-- word.In
theorem s119 (n lo hi : Int) : FSpec Try.prog 24 [.d (.int .i64 n), .d (.int .i64 lo), .d (.int .i64 hi)] [] (fun x r => x = .d (.bool (decide (lo ≤ n ∧ n ≤ hi))) ∧ r = []) := by
  refine spec_of hT (C := []) Try.func24 rfl Try.call24 rfl rfl rfl ?_
  conv => whnf
  refine br_intro (fun h => ?_) (fun h => ?_)
  · conv => whnf
    refine .ret _ ?_
    conv => whnf
    refine ⟨[], ⟨?_, rfl⟩, trivial⟩
    conv => lhs; whnf
    simp at h ⊢; simp [h]
  · conv => whnf
    refine .ret _ ?_
    conv => whnf
    refine ⟨[], ⟨?_, rfl⟩, trivial⟩
    conv => lhs; whnf
    simp at h ⊢; omega
-- rentref2.in
-- word.When
theorem s107 (b : Bool) (e : Int) : FSpec Try.prog 23 [.d (.bool b), .d (.int .i64 e)] [] (fun x r => x = .d (.int .i64 (if b then e else 0)) ∧ r = []) := by
  refine spec_of hT (C := []) Try.func23 rfl Try.call23 rfl rfl rfl ?_
  conv => whnf
  refine br_intro (fun h => ?_) (fun h => ?_)
  · conv => whnf
    refine .ret _ ?_
    conv => whnf
    refine ⟨[], ⟨?_, rfl⟩, trivial⟩
    conv => lhs; whnf
    simp [h]
  · conv => whnf
    refine .ret _ ?_
    conv => whnf
    refine ⟨[], ⟨?_, rfl⟩, trivial⟩
    conv => lhs; whnf
    simp [h]
theorem getD_toNat {α : Type} {l : List α} {i : Nat} {d : α} (h : i < l.length) : l.getD (i : Int).toNat d = l[i] := by
  rw [Int.toNat_natCast, List.getD_eq_getElem?_getD]; simp [h]
theorem sum_take {l : List Int} {i : Nat} (hi : i < l.length) : (l.take (i + 1)).sum = (l.take i).sum + l[i] := by
  rw [← List.take_append_getElem hi, List.sum_append]; simp
/-- The first error of some. -/
def firstE : List Int → Int
  | [] => 0
  | x :: l => if x = 0 then firstE l else x
-- cmp.Or
theorem s161 (l : List Int) (hl : l.length ≤ 2^40) : FSpec Try.prog 39 [.d (ints l)] [] (fun x r => x = .d (.int .i64 (firstE l)) ∧ r = []) := by
  refine spec_of hT (C := []) Try.func39 rfl Try.call39 rfl rfl rfl ?_
  conv => whnf
  refine LoopX.rule hT (C := []) (ι := Nat) (fun i => i ≤ l.length ∧ firstE l = firstE (l.drop i)) (fun i => mkSt [(3, .d (.int .i64 0)), (6, .d (ints l)), (7, .d (.int .i64 l.length)), (8, .d (.int .i64 i))] []) (fun i => l.length - i) 0 ⟨by omega, by simp⟩ ?_ ?_
  · refine Entails.mk' [] rfl rfl ⟨SV.le_refl _, SV.le_refl _, SV.le_refl _, SV.le_refl _, trivial⟩ trivial
  rintro i ⟨p1, p2⟩
  conv => whnf
  refine br_intro (fun h => ?_) (fun h => ?_)
  · simp only [decide_eq_true_eq] at h
    conv => whnf
    refine ⟨⟨by omega, by omega⟩, ?_⟩
    conv => whnf
    have hi : i < l.length := by omega
    have hd : l.drop i = l[i] :: l.drop (i + 1) := List.drop_eq_getElem_cons hi
    refine br_intro (fun h2 => ?_) (fun h2 => ?_)
    · conv => whnf
      refine .ret _ ?_
      conv => whnf
      refine ⟨[], ⟨?_, rfl⟩, trivial⟩
      conv => lhs; whnf
      rw [getD_toNat hi] at h2 ⊢
      simp at h2
      rw [p2, hd, firstE, if_neg h2]
    · conv => whnf
      rw [getD_toNat hi] at h2
      simp at h2
      refine ⟨by unfold inI64; omega, ?_⟩
      conv => whnf
      refine ⟨i + 1, ⟨hi, ?_⟩, by omega, ?_⟩
      · rw [p2, hd, firstE, if_pos h2]
      · exact Entails.mk' [] rfl rfl ⟨SV.le_refl _, SV.le_refl _, SV.le_refl _, SV.le_refl _, trivial⟩ trivial
  · simp only [decide_eq_false_iff_not] at h
    conv => whnf
    refine .ret _ ?_
    conv => whnf
    refine ⟨[], ⟨?_, rfl⟩, trivial⟩
    conv => lhs; whnf
    rw [p2, List.drop_eq_nil_iff.2 (by omega)]; rfl
-- word.First
theorem s105 (l : List Int) (hl : l.length ≤ 2^40) : FSpec Try.prog 20 [.d (ints l)] [] (fun x r => x = .d (.int .i64 (firstE l)) ∧ r = []) := by
  refine spec_of hT (C := []) Try.func20 rfl Try.call20 rfl rfl rfl ?_
  conv => whnf
  refine CallX.pure (s161 l hl) ⟨SV.le_refl _, trivial⟩ rfl ?_
  conv => whnf
  refine .ret _ ?_
  conv => whnf
  exact ⟨[], ⟨rfl, rfl⟩, trivial⟩
-- slices.Equal of numbers
def splitF (cents : Int) (w : List Int) : Int :=
  if ¬ (0 ≤ cents ∧ cents ≤ 1000000000) then 1 else if 50 < w.length then 2 else if w.any (fun x => !decide (0 ≤ x ∧ x ≤ 5761440)) then 1 else if w.sum = 0 then 8 else 0
-- rentref2.SplitFault
end Go.Proofs.Ytnkdlkgannnfhaa
set_option maxRecDepth 20000
namespace Go.Proofs.Ytnkdlkgannnfhaa
open Go Go.Eng
def keyCh (i : Nat) (c : UInt8) : Bool := (decide (97 ≤ c.toNat) && decide (c.toNat ≤ 122)) || (!decide (i = 0) && ((decide (48 ≤ c.toNat) && decide (c.toNat ≤ 57)) || decide (c.toNat = 45) || decide (c.toNat = 95)))
def isKeyB (s : List UInt8) : Bool := (List.range s.length).all (fun i => keyCh i (s.getD i 0)) && !s.isEmpty && decide (s.length ≤ 40)
theorem keyCh_iff {i : Nat} {c : UInt8} : keyCh i c = true ↔ ((97 ≤ (c.toNat : Int) ∧ (c.toNat : Int) ≤ 122) ∨ ((i : Int) ≠ 0 ∧ ((48 ≤ (c.toNat : Int) ∧ (c.toNat : Int) ≤ 57) ∨ (c.toNat : Int) = 45 ∨ (c.toNat : Int) = 95))) := by
  simp only [keyCh, Bool.or_eq_true, Bool.and_eq_true, decide_eq_true_eq, Bool.not_eq_true', decide_eq_false_iff_not]
  omega
-- word.IsKey
theorem s108 (s : List UInt8) (hl : s.length ≤ 2^40) : FSpec Try.prog 40 [.d (.str s)] [] (fun x r => x = .d (.bool (isKeyB s)) ∧ r = []) := by
  refine spec_of hT (C := []) Try.func40 rfl Try.call40 rfl rfl rfl ?_
  conv => whnf
  refine LoopX.rule hT (C := []) (ι := Nat) (fun i => i ≤ s.length ∧ ∀ j, j < i → keyCh j (s.getD j 0) = true) (fun i => mkSt [(0, .d (.str s)), (7, .d (.int .i64 s.length)), (8, .d (.int .i64 i))] []) (fun i => s.length - i) 0 ⟨by omega, by omega⟩ ?_ ?_
  · exact Entails.mk' [] rfl rfl ⟨SV.le_refl _, SV.le_refl _, SV.le_refl _, trivial⟩ trivial
  rintro i ⟨p1, p2⟩
  conv => whnf
  refine br_intro (fun h => ?_) (fun h => ?_)
  · simp only [decide_eq_true_eq] at h
    have hi : i < s.length := by omega
    have e1 : (i : Int).toNat = i := Int.toNat_natCast i
    conv => whnf
    repeat (refine And.intro (by (try unfold inI64); (try dsimp only); (try simp only [e1, List.length_cons, List.length_append, List.length_singleton, List.length_nil]); omega) ?_; conv => whnf)
    have hbad : keyCh i (s.getD i 0) = false → isKeyB s = false := fun h => by
      have : (List.range s.length).all (fun i => keyCh i (s.getD i 0)) = false := by
        rw [List.all_eq_false]; exact ⟨i, List.mem_range.2 hi, by rw [h]; simp⟩
      simp only [isKeyB, this, Bool.false_and]
    have hgood : keyCh i (s.getD i 0) = true → ∀ j, j < i + 1 → keyCh j (s.getD j 0) = true := fun h j hj => by
      rcases Nat.lt_or_ge j i with q | q
      · exact p2 j q
      · have : j = i := by omega
        subst this; exact h
    repeat' (refine br_intro (fun _ => ?_) (fun _ => ?_) <;> (conv => whnf))
    all_goals first
      | (refine And.intro (by unfold inI64; omega) ?_
         conv => whnf
         refine ⟨i + 1, ⟨hi, hgood ?_⟩, by omega, Entails.mk' [] rfl rfl ⟨SV.le_refl _, SV.le_refl _, SV.le_refl _, trivial⟩ trivial⟩
         rw [keyCh_iff]
         simp only [decide_eq_true_eq, decide_eq_false_iff_not, Bool.not_eq_true', Bool.not_eq_false', e1] at *
         omega)
      | (refine .ret _ ?_
         conv => whnf
         refine ⟨[], ⟨?_, rfl⟩, trivial⟩
         conv => lhs; whnf
         rw [hbad]
         cases hq : keyCh i (s.getD i 0) with
         | false => rfl
         | true =>
           rw [keyCh_iff] at hq
           simp only [decide_eq_true_eq, decide_eq_false_iff_not, Bool.not_eq_true', Bool.not_eq_false', e1] at *
           omega)
      | skip
  simp only [decide_eq_false_iff_not] at h
  have e1 : i = s.length := by omega
  subst e1
  have hall : (List.range s.length).all (fun i => keyCh i (s.getD i 0)) = true := by
    rw [List.all_eq_true]; intro j hj; exact p2 j (List.mem_range.1 hj)
  conv => whnf
  repeat' (refine br_intro (fun _ => ?_) (fun _ => ?_) <;> (conv => whnf))
  all_goals (refine .ret _ ?_; conv => whnf)
  all_goals (refine ⟨[], ⟨?_, rfl⟩, trivial⟩; conv => lhs; whnf)
  · rename_i hq
    have : s.isEmpty = false := by
      cases s with
      | nil => exact absurd hq (by decide)
      | cons x l => rfl
    unfold isKeyB
    rw [hall, this]
    simp
    omega
  · rename_i hq
    have : s.isEmpty = true := by
      cases s with
      | nil => rfl
      | cons x l => exact absurd hq (by simp)
    unfold isKeyB
    rw [hall, this]
    rfl
end Go.Proofs.Ytnkdlkgannnfhaa
set_option maxRecDepth 20000
namespace Go.Proofs.Ytnkdlkgannnfhaa
open Go Go.Eng
abbrev Pair := List UInt8 × Int
def pF : Pair → List DV := fun p => [.str p.1, .int .i64 p.2]
abbrev pairs (l : List Pair) : DV := seqD 2 pF ([], 0) l
def strLe (a b : List UInt8) : Bool := Op.bytesLess a b || a == b
/-- The first fault of shares, at or after a place. -/
def shareE (l : List Pair) (i : Nat) : Int :=
  let x := l.getD i ([], 0)
  if x.1 ≠ [] ∧ isKeyB x.1 = false then 5 else if 0 < i ∧ strLe x.1 (l.getD (i - 1) ([], 0)).1 = true then 7 else if ¬ (0 ≤ x.2 ∧ x.2 ≤ 1000000000) then 1 else 0
def firstAt (f : Nat → Int) : Nat → Int
  | 0 => 0
  | n + 1 => if firstAt f n = 0 then f n else firstAt f n
theorem firstAt_zero {f : Nat → Int} : ∀ {n : Nat}, (∀ j, j < n → f j = 0) → firstAt f n = 0 := by
  intro n
  induction n with
  | zero => intro _; rfl
  | succ n ih => intro h; rw [firstAt, if_pos (ih fun j hj => h j (by omega))]; exact h n (by omega)
theorem firstAt_eq {f : Nat → Int} {n i : Nat} {e : Int} (hi : i < n) (h : ∀ j, j < i → f j = 0) (h1 : e ≠ 0) (h2 : f i = e) : firstAt f n = e := by
  induction n with
  | zero => omega
  | succ n ih =>
    rw [firstAt]
    by_cases q : i < n
    · rw [ih q, if_neg h1]
    · have : i = n := by omega
      subst this
      rw [if_pos (firstAt_zero h)]; exact h2
def sharesE (l : List Pair) : Int := if 50 < l.length then 2 else firstAt (shareE l) l.length
-- mark.checkShares
end Go.Proofs.Ytnkdlkgannnfhaa
namespace Go.Proofs
open Go.Shelf
def Try.lays160_ren : Go.Shelf.Ren := ⟨fun | 160 => 227 | 232 => 274 | 231 => 273 | 227 => 275 | 234 => 277 | 233 => 276 | 236 => 279 | 235 => 278 | 228 => 316 | 271 => 319 | 151 => 318 | 197 => 317 | 120 => 340 | 152 => 339 | 260 => 338 | 137 => 348 | 119 => 349 | 224 => 350 | 225 => 351 | 217 => 353 | 266 => 354 | n => n, fun | 9 => 9 | 4 => 4 | 3 => 3 | 5 => 5 | 117 => 338 | 116 => 337 | 0 => 0 | 124 => 341 | 21 => 21 | 105 => 370 | 46 => 266 | 119 => 389 | 139 => 392 | 138 => 391 | n => n, fun | 3 => 1 | 4 => 2 | n => n⟩
end Go.Proofs
set_option maxRecDepth 20000
namespace Go.Proofs.Ytnkdlkgannnfhaa
open Go Go.Eng Go.Shelf
-- strings.Trim at a constant ASCII set
theorem dropWhile_nil {p : UInt8 → Bool} {l : List UInt8} : l.dropWhile p = [] ↔ ∀ b ∈ l, p b = true := by
  induction l with
  | nil => simp
  | cons a l ih => by_cases h : p a = true <;> simp [List.dropWhile_cons, h, ih]
theorem trimS_nil {s cs : List UInt8} : Lib.trimS s cs = [] ↔ ∀ b ∈ s, cs.contains b = true := by
  unfold Lib.trimS Lib.trimLeftS Lib.trimRightS
  rw [dropWhile_nil]
  constructor
  · intro h b hb
    have h1 : s.reverse.dropWhile (cs.contains ·) = [] ∨ ¬ s.reverse.dropWhile (cs.contains ·) = [] := Classical.em _
    rcases h1 with h1 | h1
    · exact dropWhile_nil.1 h1 b (by simpa using hb)
    · obtain ⟨c, m, hc⟩ := List.exists_cons_of_ne_nil h1
      have h3 : cs.contains c = false := by
        have := List.head_dropWhile_not (cs.contains ·) (l := s.reverse) h1
        simp only [hc, List.head_cons] at this
        exact this
      have h4 := h c (by rw [List.mem_reverse, hc]; exact List.mem_cons_self)
      rw [h3] at h4; cases h4
  · intro h b hb
    rw [List.mem_reverse] at hb
    exact h b (by simpa using (List.dropWhile_sublist _).subset hb)
def onlyB (s cs : List UInt8) : Bool := s.all (cs.contains ·)
-- R.only
-- R.in
def smallsL : List UInt8 := [97, 98, 99, 100, 101, 102, 103, 104, 105, 106, 107, 108, 109, 110, 111, 112, 113, 114, 115, 116, 117, 118, 119, 120, 121, 122]
def keyL : List UInt8 := smallsL ++ [48, 49, 50, 51, 52, 53, 54, 55, 56, 57, 45, 95]
theorem u8_all {p : UInt8 → Bool} (h : (List.range 256).all (fun n => p (UInt8.ofNat n)) = true) (c : UInt8) : p c = true := by
  have := List.all_eq_true.1 h c.toNat (List.mem_range.2 c.toNat_lt)
  simpa using this
theorem small_iff (c : UInt8) : smallsL.contains c = keyCh 0 c := by
  have := u8_all (p := fun c => smallsL.contains c == keyCh 0 c) (by decide +kernel) c
  simpa using this
theorem key_iff (c : UInt8) : keyL.contains c = keyCh 1 c := by
  have := u8_all (p := fun c => keyL.contains c == keyCh 1 c) (by decide +kernel) c
  simpa using this
theorem keyCh_succ (i : Nat) (c : UInt8) : keyCh (i + 1) c = keyCh 1 c := by simp [keyCh]
theorem keyCh_one {c : UInt8} (h : keyCh 0 c = true) : keyCh 1 c = true := by
  simp only [keyCh] at h ⊢; simp at h; simp [h]
theorem isKey_eq (s : List UInt8) : isKeyB s = (decide (1 ≤ (s.length : Int) ∧ (s.length : Int) ≤ 40) && onlyB (s.take 1) smallsL && onlyB s keyL) := by
  cases s with
  | nil => rfl
  | cons c l =>
    have h1 : onlyB ((c :: l).take 1) smallsL = keyCh 0 c := by simp only [onlyB, List.take_succ_cons, List.take_zero, List.all_cons, List.all_nil, Bool.and_true, small_iff]
    have h2 : onlyB (c :: l) keyL = (keyCh 1 c && l.all (keyCh 1 ·)) := by simp only [onlyB, List.all_cons, key_iff]
    have h3 : (List.range (c :: l).length).all (fun i => keyCh i ((c :: l).getD i 0)) = (keyCh 0 c && l.all (keyCh 1 ·)) := by
      rw [List.length_cons, List.range_succ_eq_map, List.all_cons, List.all_map]
      congr 1
      rw [Bool.eq_iff_iff, List.all_eq_true, List.all_eq_true]
      constructor
      · intro h x hx
        obtain ⟨i, hi, rfl⟩ := List.getElem_of_mem hx
        have := h i (List.mem_range.2 hi)
        simp only [Function.comp, List.getD_cons_succ, keyCh_succ] at this
        rwa [List.getD_eq_getElem?_getD, List.getElem?_eq_getElem hi] at this
      · intro h i hi
        have hi := List.mem_range.1 hi
        simp only [Function.comp, List.getD_cons_succ, keyCh_succ]
        rw [List.getD_eq_getElem?_getD, List.getElem?_eq_getElem hi]
        exact h _ (List.getElem_mem hi)
    unfold isKeyB
    rw [h1, h2, h3, Bool.eq_iff_iff]
    simp only [Bool.and_eq_true, decide_eq_true_eq, Bool.not_eq_true', List.isEmpty_cons, List.length_cons]
    constructor
    · rintro ⟨⟨⟨a, b⟩, _⟩, d⟩; exact ⟨⟨⟨by omega, by omega⟩, a⟩, keyCh_one a, b⟩
    · rintro ⟨⟨⟨_, d⟩, a⟩, _, b⟩; exact ⟨⟨⟨a, b⟩, trivial⟩, by omega⟩
-- R.Key
end Go.Proofs.Ytnkdlkgannnfhaa
set_option maxRecDepth 20000
namespace Go.Proofs.Ytnkdlkgannnfhaa
open Go Go.Eng
/-- The first fault of waivers, at a place. -/
def waivE (l : List Pair) (i : Nat) : Int :=
  if isKeyB (l.getD i ([], 0)).1 = false then 5 else if 0 < i ∧ strLe (l.getD i ([], 0)).1 (l.getD (i - 1) ([], 0)).1 = true then 7 else if ¬ (0 ≤ (l.getD i ([], 0)).2 ∧ (l.getD i ([], 0)).2 ≤ 1000000000) then 1 else 0
def waivsE (l : List Pair) : Int := if 500 < l.length then 2 else firstAt (waivE l) l.length
theorem first_step {f : Nat → Int} {i : Nat} (p : ∀ j, j < i → f j = 0) (h : f i = 0) : ∀ j, j < i + 1 → f j = 0 := fun j hj => by
  rcases Nat.lt_or_ge j i with q | q
  · exact p j q
  · have : j = i := by omega
    subst this; exact h
theorem toNat_pred (i : Nat) : ((i : Int) - 1).toNat = i - 1 := by omega
-- mark.checkWaivers
end Go.Proofs.Ytnkdlkgannnfhaa
set_option maxRecDepth 20000
namespace Go.Proofs.Ytnkdlkgannnfhaa
open Go Go.Eng
/-- What is paid with waivers. -/
def payW (h : List UInt8) : Int → List Pair → Int := List.foldl fun p y => if y.1 = h then min p y.2 else p
def exL (l ws : List Pair) : List Pair := (l.filter fun x => !decide (x.1 = [])).map fun x => (x.1, payW x.1 x.2 ws)
def exN (l ws : List Pair) : Int := (l.map fun x => if x.1 = [] then x.2 else x.2 - payW x.1 x.2 ws).sum
theorem payW_le (h : List UInt8) : ∀ (ws : List Pair) (p : Int), (∀ y ∈ ws, 0 ≤ y.2) → 0 ≤ p → 0 ≤ payW h p ws ∧ payW h p ws ≤ p := by
  intro ws
  induction ws with
  | nil => intro p _ h; exact ⟨h, Int.le_refl _⟩
  | cons y ws ih =>
    intro p hw hp
    have h1 := hw y List.mem_cons_self
    have h2 := ih (if y.1 = h then min p y.2 else p) (fun z hz => hw z (List.mem_cons_of_mem _ hz)) (by split <;> omega)
    simp only [payW, List.foldl_cons] at h2 ⊢
    refine ⟨h2.1, Int.le_trans h2.2 ?_⟩
    split <;> omega
theorem take_snocD {α : Type} {l : List α} {i : Nat} {d : α} (h : i < l.length) : l.take (i + 1) = l.take i ++ [l.getD i d] := by
  rw [List.take_succ_eq_append_getElem h, List.getD_eq_getElem?_getD, List.getElem?_eq_getElem h]; rfl
theorem exL_snoc {l ws : List Pair} {i : Nat} (h : i < l.length) : exL (l.take (i + 1)) ws = exL (l.take i) ws ++ (if (l.getD i ([], 0)).1 = [] then [] else [((l.getD i ([], 0)).1, payW (l.getD i ([], 0)).1 (l.getD i ([], 0)).2 ws)]) := by
  rw [take_snocD (d := ([], 0)) h]
  simp only [exL, List.filter_append, List.map_append]
  congr 1
  generalize l.getD i ([], 0) = x
  by_cases q : x.1 = [] <;> simp [List.filter_cons, q]
theorem exN_snoc {l ws : List Pair} {i : Nat} (h : i < l.length) : exN (l.take (i + 1)) ws = exN (l.take i) ws + (if (l.getD i ([], 0)).1 = [] then (l.getD i ([], 0)).2 else (l.getD i ([], 0)).2 - payW (l.getD i ([], 0)).1 (l.getD i ([], 0)).2 ws) := by
  rw [take_snocD (d := ([], 0)) h]
  simp [exN]
theorem payW_snoc {h : List UInt8} {p : Int} {ws : List Pair} {j : Nat} (hj : j < ws.length) : payW h p (ws.take (j + 1)) = if (ws.getD j ([], 0)).1 = h then min (payW h p (ws.take j)) (ws.getD j ([], 0)).2 else payW h p (ws.take j) := by
  rw [take_snocD (d := ([], 0)) hj]
  simp [payW]
def exF (l ws : List Pair) : Int := if sharesE l = 0 then waivsE ws else sharesE l
theorem firstAt_all {f : Nat → Int} : ∀ {n : Nat}, firstAt f n = 0 → ∀ j, j < n → f j = 0 := by
  intro n
  induction n with
  | zero => intro _ j hj; omega
  | succ n ih =>
    intro h j hj
    rw [firstAt] at h
    split at h
    · rename_i q
      rcases Nat.lt_or_ge j n with r | r
      · exact ih q j r
      · have : j = n := by omega
        subst this; exact h
    · omega
theorem mem_getD {α : Type} {l : List α} {x d : α} (h : x ∈ l) : ∃ j, j < l.length ∧ l.getD j d = x := by
  obtain ⟨j, hj, rfl⟩ := List.getElem_of_mem h
  exact ⟨j, hj, by rw [List.getD_eq_getElem?_getD, List.getElem?_eq_getElem hj]; rfl⟩
theorem shares_zero {l : List Pair} (h : sharesE l = 0) : l.length ≤ 50 ∧ ∀ x ∈ l, 0 ≤ x.2 ∧ x.2 ≤ 1000000000 := by
  unfold sharesE at h
  split at h
  · omega
  · refine ⟨by omega, fun x hx => ?_⟩
    obtain ⟨j, hj, rfl⟩ := mem_getD (d := ([], 0)) hx
    have := firstAt_all h j hj
    unfold shareE at this
    grind
theorem waivs_zero {l : List Pair} (h : waivsE l = 0) : l.length ≤ 500 ∧ ∀ x ∈ l, 0 ≤ x.2 ∧ x.2 ≤ 1000000000 := by
  unfold waivsE at h
  split at h
  · omega
  · refine ⟨by omega, fun x hx => ?_⟩
    obtain ⟨j, hj, rfl⟩ := mem_getD (d := ([], 0)) hx
    have := firstAt_all h j hj
    unfold waivE at this
    grind
theorem exN_bd {l ws : List Pair} {M : Int} (hl : ∀ x ∈ l, 0 ≤ x.2 ∧ x.2 ≤ M) (hw : ∀ y ∈ ws, 0 ≤ y.2) : 0 ≤ exN l ws ∧ exN l ws ≤ M * l.length := by
  induction l with
  | nil => simp [exN]
  | cons x l ih =>
    have h1 := hl x List.mem_cons_self
    have h2 := ih (fun y hy => hl y (List.mem_cons_of_mem _ hy))
    have h3 := payW_le x.1 ws x.2 hw h1.1
    simp only [exN, List.map_cons, List.sum_cons, List.length_cons] at h2 ⊢
    rw [show ((l.length + 1 : Nat) : Int) = (l.length : Int) + 1 by push_cast; rfl, Int.mul_add, Int.mul_one]
    split <;> omega
theorem exF_eq (l ws : List Pair) : exF l ws = firstE [sharesE l, waivsE ws] := by
  unfold exF firstE firstE firstE
  split <;> rename_i h <;> simp [h]
theorem exL_len (l ws : List Pair) : (exL l ws).length ≤ l.length := by
  unfold exL; rw [List.length_map]; exact List.length_filter_le _ _
-- mark.Excess
end Go.Proofs.Ytnkdlkgannnfhaa
set_option maxRecDepth 20000
namespace Go.Proofs.Ytnkdlkgannnfhaa
open Go Go.Eng
theorem key_ne {s : List UInt8} (h : isKeyB s = true) : s ≠ [] := by
  intro q; subst q; simp [isKeyB] at h
/-- The name before. -/
def lastN (ws : List Pair) (i : Nat) : List UInt8 := if i = 0 then [] else (ws.getD (i - 1) ([], 0)).1
theorem bytesLess_nil (a : List UInt8) : Op.bytesLess a [] = false := by cases a <;> rfl
-- Q.SharesFault
end Go.Proofs.Ytnkdlkgannnfhaa
set_option maxRecDepth 20000
namespace Go.Proofs.Ytnkdlkgannnfhaa
open Go Go.Eng
-- Q.ExcessOf
end Go.Proofs.Ytnkdlkgannnfhaa
set_option maxRecDepth 20000
namespace Go.Proofs.Ytnkdlkgannnfhaa
open Go Go.Eng
def wOk (x : Int) : Prop := -2^40 ≤ x ∧ x ≤ 2^40
def stW (n : Nat) (L : Nat → Int) (k : Int) (p : Int × List Int) : St :=
  mkSt [(0, .ptr 1000000 0), (3, .buf 3), (5, .d (.int .i64 k)), (6, .d (.int .i64 p.2.length))] [(1000000, strm n L p.1), (3, seqB 3 1 iF 0 p.2)]
-- Weights
end Go.Proofs.Ytnkdlkgannnfhaa
set_option maxRecDepth 20000
namespace Go.Proofs.Ytnkdlkgannnfhaa
open Go Go.Eng
section
variable {α : Type} (cmp : α → α → Int)
/-- Insertion from the right into a row that is written backwards. -/
def insR (x : α) : List α → List α
  | [] => [x]
  | y :: r => if cmp x y < 0 then y :: insR x r else x :: y :: r
def isortR (l : List α) : List α := l.foldl (fun acc x => insR cmp x acc) []
def isort (l : List α) : List α := (isortR cmp l).reverse
theorem insR_length (x : α) : ∀ l : List α, (insR cmp x l).length = l.length + 1 := by
  intro l
  induction l with
  | nil => rfl
  | cons y r ih => simp only [insR]; split <;> simp [ih]
theorem isortR_snoc (l : List α) (x : α) : isortR cmp (l ++ [x]) = insR cmp x (isortR cmp l) := by simp [isortR]
theorem isortR_length (l : List α) : (isortR cmp l).length = l.length := by
  have : ∀ (l acc : List α), (l.foldl (fun acc x => insR cmp x acc) acc).length = acc.length + l.length := by
    intro l
    induction l with
    | nil => intro acc; simp
    | cons x l ih => intro acc; rw [List.foldl_cons, ih, insR_length]; simp; omega
  rw [isortR, this]; simp
theorem insR_mem (x y : α) : ∀ {l : List α}, y ∈ insR cmp x l ↔ y = x ∨ y ∈ l := by
  intro l
  induction l with
  | nil => simp [insR]
  | cons z r ih =>
    simp only [insR]
    split
    · simp only [List.mem_cons, ih]
      constructor
      · rintro (h | h | h)
        · exact .inr (.inl h)
        · exact .inl h
        · exact .inr (.inr h)
      · rintro (h | h | h)
        · exact .inr (.inl h)
        · exact .inl h
        · exact .inr (.inr h)
    · simp
theorem isortR_mem {y : α} (l : List α) : y ∈ isortR cmp l ↔ y ∈ l := by
  have : ∀ (l acc : List α), y ∈ (l.foldl (fun acc x => insR cmp x acc) acc) ↔ y ∈ acc ∨ y ∈ l := by
    intro l
    induction l with
    | nil => intro acc; simp
    | cons x l ih =>
      intro acc; rw [List.foldl_cons, ih, insR_mem, List.mem_cons]
      constructor
      · rintro ((h | h) | h)
        · exact .inr (.inl h)
        · exact .inl h
        · exact .inr (.inr h)
      · rintro (h | h | h)
        · exact .inl (.inr h)
        · exact .inl (.inl h)
        · exact .inr h
  rw [isortR, this]; simp
end
def cap3 (x y z : SV) (e1 e2 e3 : TypeId) : List (Nat × Res) := [(1000002, .cells e1 [x]), (1000003, .cells e2 [y]), (1000004, .cells e3 [z])]
def cap3P : List SV := [.ptr 1000002 0, .ptr 1000003 0, .ptr 1000004 0]
theorem take_snoc {α : Type} {l : List α} {i : Nat} (h : i < l.length) : l.take (i + 1) = l.take i ++ [l[i]] := (List.take_append_getElem h).symm
theorem getD_mid {α : Type} (A B : List α) (x d : α) {i : Nat} (h : i = A.length) : (A ++ x :: B).getD i d = x := by
  subst h; rw [List.getD_eq_getElem?_getD]; simp
theorem swap_lemma {α : Type} (A B : List α) (x y : α) : (((A ++ [y] ++ [x] ++ B).set (A.length + 1) y).set A.length x) = A ++ [x] ++ [y] ++ B := by
  simp [List.set_append]
-- insertionSortCmpFunc[int], a closure with three cells
theorem s228 (g : FuncId) (x1 x2 x3 : DV) (e1 e2 e3 : TypeId) (cmp : Int → Int → Int) (l : List Int) (hl : l.length ≤ 2^40)
    (hcmp : ∀ p q, p ∈ l → q ∈ l → FSpec Try.prog g [.d (.int .i64 p), .d (.int .i64 q), .ptr 1000002 0, .ptr 1000003 0, .ptr 1000004 0] (cap3 (.d x1) (.d x2) (.d x3) e1 e2 e3)
      (fun y r => y = .d (.int .i64 (cmp p q)) ∧ r = cap3 (.d x1) (.d x2) (.d x3) e1 e2 e3)) :
    FSpec Try.prog 78 [.buf 1000001, .d (.int .i64 0), .d (.int .i64 l.length), .fn g [.ptr 1000002 0, .ptr 1000003 0, .ptr 1000004 0]] ((1000001, seqB 3 1 iF 0 l) :: cap3 (.d x1) (.d x2) (.d x3) e1 e2 e3)
      (fun y r => y = .tup [] ∧ r = (1000001, seqB 3 1 iF 0 (isort cmp l)) :: cap3 (.d x1) (.d x2) (.d x3) e1 e2 e3) := by
  refine spec_of hT (C := []) Try.func78 rfl Try.call78 rfl rfl rfl ?_
  conv => whnf
  refine ⟨by unfold inI64; omega, ?_⟩
  conv => whnf
  refine LoopX.rule hT (C := []) (ι := Nat × List Int) (fun p => 1 ≤ p.1 ∧ (p.1 ≤ l.length ∨ p.1 = 1) ∧ p.2 = (isortR cmp (l.take p.1)).reverse ++ l.drop p.1)
    (fun p => mkSt [(0, .buf 1000001), (1, .d (.int .i64 0)), (2, .d (.int .i64 l.length)), (3, .fn g [.ptr 1000002 0, .ptr 1000003 0, .ptr 1000004 0]), (8, .d (.int .i64 p.1))] ((1000001, seqB 3 1 iF 0 p.2) :: cap3 (.d x1) (.d x2) (.d x3) e1 e2 e3))
    (fun p => l.length - p.1) (1, l) ⟨by simp, by simp, ?_⟩ ?_ ?_
  · simp only
    cases l with
    | nil => rfl
    | cons x l => simp [isortR, insR]
  · exact Entails.mk' [(1000001, 1000001), (1000002, 1000002), (1000003, 1000003), (1000004, 1000004)] rfl rfl ⟨SV.le_refl _, SV.le_refl _, SV.le_refl _, SV.le_refl _, SV.le_refl _, trivial⟩ ⟨Res.le_refl _, Res.le_refl _, Res.le_refl _, Res.le_refl _, trivial⟩
  rintro ⟨i, c⟩ ⟨p1, p2, p3⟩
  simp only at p1 p2 p3
  conv => whnf
  refine br_intro (fun h => ?_) (fun h => ?_)
  · simp only [decide_eq_true_eq] at h
    have hi : i < l.length := by omega
    conv => whnf
    have hx : l[i] ∈ l := List.getElem_mem hi
    have hmem : ∀ y ∈ isortR cmp (l.take i), y ∈ l := fun y hy => List.mem_of_mem_take ((isortR_mem cmp _).1 hy)
    refine LoopX.rule hT (C := []) (ι := List Int × List Int) (fun p => insR cmp l[i] (isortR cmp (l.take i)) = p.2.reverse ++ insR cmp l[i] p.1 ∧ p.1.length + p.2.length = i ∧ ∀ y ∈ p.1, y ∈ l)
      (fun p => mkSt [(0, .buf 1000001), (1, .d (.int .i64 0)), (2, .d (.int .i64 l.length)), (3, .fn g [.ptr 1000002 0, .ptr 1000003 0, .ptr 1000004 0]), (8, .d (.int .i64 i)), (9, .d (.int .i64 p.1.length))]
        ((1000001, seqB 3 1 iF 0 (p.1.reverse ++ [l[i]] ++ p.2 ++ l.drop (i + 1))) :: cap3 (.d x1) (.d x2) (.d x3) e1 e2 e3))
      (fun p => p.1.length) (isortR cmp (l.take i), []) ⟨by simp, ?_, hmem⟩ ?_ ?_
    · simp [isortR_length]; omega
    · refine Entails.mk' [(1000001, 1000001), (1000002, 1000002), (1000003, 1000003), (1000004, 1000004)] rfl rfl ⟨SV.le_refl _, SV.le_refl _, SV.le_refl _, SV.le_refl _, SV.le_refl _, SV.le_int ?_, trivial⟩ ⟨?_, Res.le_refl _, Res.le_refl _, Res.le_refl _, trivial⟩
      · simp [isortR_length]; omega
      · have : c = (isortR cmp (l.take i)).reverse ++ [l[i]] ++ [] ++ l.drop (i + 1) := by rw [p3, List.drop_eq_getElem_cons hi]; simp
        show Res.le (seqB 3 1 iF 0 c) _
        rw [this]; exact Res.le_refl _
    rintro ⟨A, B⟩ ⟨q1, q2, q3⟩
    simp only at q1 q2 q3
    have hlen : (A.reverse ++ [l[i]] ++ B ++ l.drop (i + 1)).length = l.length := by simp; omega
    conv => whnf
    refine RegX.rule hT rfl [] [(0, []), (1, [0]), (2, []), (3, []), (4, []), (5, [4]), (6, [4, 5]), (7, [4]), (8, [4]), (9, [4, 5, 6, 7, 8]), (10, [4, 5, 6, 7, 8, 9]), (11, [4, 5, 6, 7, 8, 9]), (12, [4, 5, 6, 7, 8]), (13, [4, 5, 6, 7, 8]), (14, []), (15, []), (16, [])] (by decide +kernel) ?_
    conv => whnf
    refine br_intro (fun h2 => ?_) (fun h2 => ?_)
    · conv => whnf
      cases A with
      | nil => simp at h2
      | cons y A =>
      have g1 : ((y :: A).reverse ++ [l[i]] ++ B ++ l.drop (i + 1)).getD (((y :: A).length : Int)).toNat 0 = l[i] := by
        rw [show (y :: A).reverse ++ [l[i]] ++ B ++ l.drop (i + 1) = (y :: A).reverse ++ l[i] :: (B ++ l.drop (i + 1)) by simp]
        exact getD_mid _ _ _ _ (by simp)
      have g2 : ((y :: A).reverse ++ [l[i]] ++ B ++ l.drop (i + 1)).getD ((((y :: A).length : Int)) - 1).toNat 0 = y := by
        rw [show (y :: A).reverse ++ [l[i]] ++ B ++ l.drop (i + 1) = A.reverse ++ y :: ([l[i]] ++ B ++ l.drop (i + 1)) by simp]
        exact getD_mid _ _ _ _ (by simp)
      have hA : (y :: A).length = A.length + 1 := rfl
      refine ⟨⟨by omega, by simp only [hlen]; omega⟩, ?_⟩
      conv => whnf
      refine ⟨by simp only [hlen]; omega, ?_⟩
      conv => whnf
      refine ⟨by unfold inI64; simp only [List.length_cons]; omega, ?_⟩
      conv => whnf
      refine ⟨⟨by simp only [List.length_cons]; omega, by simp only [hlen, List.length_cons]; omega⟩, ?_⟩
      conv => whnf
      refine ⟨by simp only [hlen, List.length_cons]; omega, ?_⟩
      conv => whnf
      refine CallX.of (hcmp l[i] y hx (q3 y (by simp))) [(1000002, 1000002), (1000003, 1000003), (1000004, 1000004)] rfl ⟨SV.le_int g1, SV.le_int g2, SV.le_refl _, SV.le_refl _, SV.le_refl _, trivial⟩ ⟨Res.le_refl _, Res.le_refl _, Res.le_refl _, trivial⟩ rfl rfl ?_
      rintro x rout ⟨rfl, rfl⟩
      refine ⟨rfl, ?_⟩
      conv => whnf
      refine br_intro (fun h3 => ?_) (fun h3 => ?_)
      · simp only [decide_eq_true_eq] at h3
        conv => whnf
        refine RegX.rule hT rfl [] [(0, []), (1, [0]), (2, [0, 1]), (3, [0, 1, 2]), (4, [0, 1, 2]), (5, [0, 1, 2, 3, 4]), (6, [0, 1, 2, 3, 4, 5]), (7, [0, 1, 2, 3, 4, 5]), (8, [0, 1, 2, 3, 4]), (9, [0, 1, 2, 3, 4]), (10, [0, 1, 2, 3, 4, 5, 6, 7, 8, 9]), (11, [0, 1, 2, 3, 4, 5, 6, 7, 8, 9, 10]), (12, [0, 1, 2, 3, 4, 5, 6, 7, 8, 9]), (13, [0, 1, 2, 3, 4, 5, 6, 7, 8, 9]), (14, [2, 3, 4]), (15, [2, 3, 4]), (16, []), (17, [])] (by decide +kernel) ?_
        conv => whnf
        repeat (refine And.intro (by (try unfold inI64); (try dsimp only); (try simp only [hlen, List.length_cons, List.length_append, List.length_singleton, List.length_nil]); omega) ?_; conv => whnf)
        have hsw : (((y :: A).reverse ++ [l[i]] ++ B ++ l.drop (i + 1)).set (((y :: A).length : Int)).toNat y).set ((((y :: A).length : Int)) - 1).toNat l[i] = A.reverse ++ [l[i]] ++ (y :: B) ++ l.drop (i + 1) := by
          have k1 : (((y :: A).length : Int)).toNat = A.reverse.length + 1 := by simp
          have k2 : ((((y :: A).length : Int)) - 1).toNat = A.reverse.length := by simp
          rw [k1, k2]
          have := swap_lemma A.reverse (B ++ l.drop (i + 1)) l[i] y
          simp only [List.reverse_cons, List.append_assoc, List.singleton_append, List.cons_append, List.nil_append] at this ⊢
          exact this
        refine ⟨(A, y :: B), ⟨?_, by simp only [List.length_cons] at q2 ⊢; omega, fun z hz => q3 z (by simp [hz])⟩, by simp only [List.length_cons]; omega, ?_⟩
        · rw [q1]; simp [insR, h3]
        · refine Entails.mk' [(1000001, 1000001), (1000002, 1000002), (1000003, 1000003), (1000004, 1000004)] rfl rfl ⟨SV.le_refl _, SV.le_refl _, SV.le_refl _, SV.le_refl _, SV.le_refl _, SV.le_int (by simp only [List.length_cons]; omega), trivial⟩ ⟨?_, Res.le_refl _, Res.le_refl _, Res.le_refl _, trivial⟩
          show Res.le _ (seqB 3 1 iF 0 (A.reverse ++ [l[i]] ++ (y :: B) ++ l.drop (i + 1)))
          rw [← hsw]
          refine Res.le_buf (by simp) (fun k hk => ?_)
          have e1 := rows_putG (f := iF) (d := 0) (l := ((y :: A).reverse ++ [l[i]] ++ B ++ l.drop (i + 1))) (x := y) (j := ((((y :: A).length : Int)).toNat)) (off := 0) (ds := [.int .i64 (((y :: A).reverse ++ [l[i]] ++ B ++ l.drop (i + 1)).getD ((((y :: A).length : Int) - 1).toNat) 0)]) (get := rowF iF 0 ((y :: A).reverse ++ [l[i]] ++ B ++ l.drop (i + 1))) (fun _ _ => rfl) (fun z _ => by rw [g2]; rfl)
          have e2 := rows_putG (f := iF) (d := 0) (l := ((y :: A).reverse ++ [l[i]] ++ B ++ l.drop (i + 1)).set ((((y :: A).length : Int)).toNat) y) (x := l[i]) (j := ((((y :: A).length : Int) - 1).toNat)) (off := 0) (ds := [.int .i64 (((y :: A).reverse ++ [l[i]] ++ B ++ l.drop (i + 1)).getD ((((y :: A).length : Int)).toNat) 0)])
            (get := fun k => bif Nat.beq k ((((y :: A).length : Int)).toNat) then setAtD (rowF iF 0 ((y :: A).reverse ++ [l[i]] ++ B ++ l.drop (i + 1)) k) 0 [.int .i64 (((y :: A).reverse ++ [l[i]] ++ B ++ l.drop (i + 1)).getD ((((y :: A).length : Int) - 1).toNat) 0)] else rowF iF 0 ((y :: A).reverse ++ [l[i]] ++ B ++ l.drop (i + 1)) k) (fun k hk => e1 k (by simpa using hk)) (fun z _ => by rw [g1]; rfl)
          exact e2 k (by simpa using hk)
      · simp only [decide_eq_false_iff_not] at h3
        conv => whnf
        refine ⟨by unfold inI64; omega, ?_⟩
        conv => whnf
        refine ⟨(i + 1, (y :: A).reverse ++ [l[i]] ++ B ++ l.drop (i + 1)), ⟨by simp only; omega, by simp only; omega, ?_⟩, by simp only; omega, ?_⟩
        · simp only
          rw [take_snoc hi, isortR_snoc, q1]; simp [insR, h3]
        · exact Entails.mk' [(1000001, 1000001), (1000002, 1000002), (1000003, 1000003), (1000004, 1000004)] rfl rfl ⟨SV.le_refl _, SV.le_refl _, SV.le_refl _, SV.le_refl _, SV.le_refl _, trivial⟩ ⟨Res.le_refl _, Res.le_refl _, Res.le_refl _, Res.le_refl _, trivial⟩
    · conv => whnf
      refine ⟨by unfold inI64; omega, ?_⟩
      conv => whnf
      have hA : A = [] := by cases A <;> simp at h2 ⊢
      subst hA
      refine ⟨(i + 1, [].reverse ++ [l[i]] ++ B ++ l.drop (i + 1)), ⟨by simp only; omega, by simp only; omega, ?_⟩, by simp only; omega, ?_⟩
      · simp only
        rw [take_snoc hi, isortR_snoc, q1]; simp [insR]
      · exact Entails.mk' [(1000001, 1000001), (1000002, 1000002), (1000003, 1000003), (1000004, 1000004)] rfl rfl ⟨SV.le_refl _, SV.le_refl _, SV.le_refl _, SV.le_refl _, SV.le_refl _, trivial⟩ ⟨Res.le_refl _, Res.le_refl _, Res.le_refl _, Res.le_refl _, trivial⟩
  · conv => whnf
    have e1 : c = isort cmp l := by
      simp only [decide_eq_false_iff_not] at h
      rw [p3, List.take_of_length_le (by omega), List.drop_eq_nil_iff.2 (by omega), List.append_nil]; rfl
    refine .ret _ ?_
    conv => whnf
    subst e1
    exact ⟨_, ⟨rfl, rfl⟩, Res.le_refl _, Res.le_refl _, Res.le_refl _, Res.le_refl _, trivial⟩
end Go.Proofs.Ytnkdlkgannnfhaa
set_option maxRecDepth 20000
namespace Go.Proofs.Ytnkdlkgannnfhaa
open Go Go.Eng
-- stableCmpFunc[int], few elements
theorem s207 (g : FuncId) (x1 x2 x3 : DV) (e1 e2 e3 : TypeId) (cmp : Int → Int → Int) (l : List Int) (hl : l.length < 20)
    (hcmp : ∀ p q, p ∈ l → q ∈ l → FSpec Try.prog g [.d (.int .i64 p), .d (.int .i64 q), .ptr 1000002 0, .ptr 1000003 0, .ptr 1000004 0] (cap3 (.d x1) (.d x2) (.d x3) e1 e2 e3)
      (fun y r => y = .d (.int .i64 (cmp p q)) ∧ r = cap3 (.d x1) (.d x2) (.d x3) e1 e2 e3)) :
    FSpec Try.prog 73 [.buf 1000001, .d (.int .i64 l.length), .fn g [.ptr 1000002 0, .ptr 1000003 0, .ptr 1000004 0]] ((1000001, seqB 3 1 iF 0 l) :: cap3 (.d x1) (.d x2) (.d x3) e1 e2 e3)
      (fun y r => y = .tup [] ∧ r = (1000001, seqB 3 1 iF 0 (isort cmp l)) :: cap3 (.d x1) (.d x2) (.d x3) e1 e2 e3) := by
  refine spec_of hT (C := []) Try.func73 rfl Try.call73 rfl rfl rfl ?_
  conv => whnf
  refine LoopX.unroll hT (C := []) (fun _ _ h => h) (fun _ h => h) ?_
  conv => whnf
  refine br_intro (fun h => ?_) (fun h => ?_)
  · simp at h; omega
  conv => whnf
  refine CallX.of (s228 g x1 x2 x3 e1 e2 e3 cmp l (by omega) hcmp) [(1000001, 1000001), (1000002, 1000002), (1000003, 1000003), (1000004, 1000004)] rfl ⟨SV.le_refl _, SV.le_refl _, SV.le_refl _, SV.le_refl _, trivial⟩ ⟨Res.le_refl _, Res.le_refl _, Res.le_refl _, Res.le_refl _, trivial⟩ rfl rfl ?_
  rintro x rout ⟨rfl, rfl⟩
  refine ⟨rfl, ?_⟩
  conv => whnf
  refine LoopX.unroll hT (C := []) (fun _ _ h => h) (fun _ h => h) ?_
  conv => whnf
  refine br_intro (fun h => ?_) (fun h => ?_)
  · simp at h; omega
  conv => whnf
  refine .ret _ ?_
  conv => whnf
  exact ⟨_, ⟨rfl, rfl⟩, Res.le_refl _, Res.le_refl _, Res.le_refl _, Res.le_refl _, trivial⟩
-- SortStableFunc[[]int,int]
theorem s173 (g : FuncId) (x1 x2 x3 : DV) (e1 e2 e3 : TypeId) (cmp : Int → Int → Int) (l : List Int) (hl : l.length < 20)
    (hcmp : ∀ p q, p ∈ l → q ∈ l → FSpec Try.prog g [.d (.int .i64 p), .d (.int .i64 q), .ptr 1000002 0, .ptr 1000003 0, .ptr 1000004 0] (cap3 (.d x1) (.d x2) (.d x3) e1 e2 e3)
      (fun y r => y = .d (.int .i64 (cmp p q)) ∧ r = cap3 (.d x1) (.d x2) (.d x3) e1 e2 e3)) :
    FSpec Try.prog 60 [.buf 1000001, .fn g [.ptr 1000002 0, .ptr 1000003 0, .ptr 1000004 0]] ((1000001, seqB 3 1 iF 0 l) :: cap3 (.d x1) (.d x2) (.d x3) e1 e2 e3)
      (fun y r => y = .tup [] ∧ r = (1000001, seqB 3 1 iF 0 (isort cmp l)) :: cap3 (.d x1) (.d x2) (.d x3) e1 e2 e3) := by
  refine spec_of hT (C := []) Try.func60 rfl Try.call60 rfl rfl rfl ?_
  conv => whnf
  refine CallX.of (s207 g x1 x2 x3 e1 e2 e3 cmp l (by omega) hcmp) [(1000001, 1000001), (1000002, 1000002), (1000003, 1000003), (1000004, 1000004)] rfl ⟨SV.le_refl _, SV.le_refl _, SV.le_refl _, trivial⟩ ⟨Res.le_refl _, Res.le_refl _, Res.le_refl _, Res.le_refl _, trivial⟩ rfl rfl ?_
  rintro x rout ⟨rfl, rfl⟩
  refine ⟨rfl, ?_⟩
  conv => whnf
  refine .ret _ ?_
  conv => whnf
  exact ⟨_, ⟨rfl, rfl⟩, Res.le_refl _, Res.le_refl _, Res.le_refl _, Res.le_refl _, trivial⟩
-- the order of split
theorem s174 (c s : Int) (w : List Int) (hc : 0 ≤ c ∧ c ≤ 1000000000) (hw : ∀ x ∈ w, 0 ≤ x ∧ x ≤ 5761440) (hs : 0 < s) (hs2 : s ≤ 2^40) (p q : Nat) (hp : p < w.length) (hq : q < w.length) :
    FSpec Try.prog 61 [.d (.int .i64 p), .d (.int .i64 q), .ptr 1000002 0, .ptr 1000003 0, .ptr 1000004 0] (cap3 (.d (.int .i64 c)) (.d (ints w)) (.d (.int .i64 s)) 3 22 3)
      (fun y r => y = .d (.int .i64 ((c * w.getD q 0).tmod s - (c * w.getD p 0).tmod s)) ∧ r = cap3 (.d (.int .i64 c)) (.d (ints w)) (.d (.int .i64 s)) 3 22 3) := by
  refine spec_of hT (C := []) Try.func61 rfl Try.call61 rfl rfl rfl ?_
  conv => whnf
  have bd : ∀ i : Nat, i < w.length → 0 ≤ c * w.getD (i : Int).toNat 0 ∧ c * w.getD (i : Int).toNat 0 ≤ 1000000000 * 5761440 := fun i hi => by
    rw [getD_toNat hi]
    have := hw _ (List.getElem_mem hi)
    exact ⟨Int.mul_nonneg hc.1 this.1, Int.mul_le_mul hc.2 this.2 this.1 (by omega)⟩
  have bp := bd p hp
  have bq := bd q hq
  have tp := Int.tmod_nonneg s bp.1
  have tq := Int.tmod_nonneg s bq.1
  have tp2 := Int.tmod_lt_of_pos (c * w.getD (p : Int).toNat 0) hs
  have tq2 := Int.tmod_lt_of_pos (c * w.getD (q : Int).toNat 0) hs
  refine RegX.rule hT rfl [] [(0, []), (1, [0]), (2, [0, 1]), (3, [0]), (4, [0]), (5, []), (6, [0, 1, 2, 3, 4, 5]), (7, []), (8, [0, 1, 2, 3, 4, 5, 6, 7]), (9, [0, 1, 2, 3, 4, 5, 6, 7, 8]), (10, [0, 1, 2, 3, 4, 5, 6, 7, 8, 9]), (11, [0, 1, 2, 3, 4, 5, 6, 7, 8]), (12, [0, 1, 2, 3, 4, 5, 6, 7, 8]), (13, [0, 1, 2, 3, 4, 5, 6, 7]), (14, [0, 1, 2, 3, 4, 5, 6, 7, 8, 9, 10, 11, 12, 13]), (15, [0, 1, 2, 3, 4, 5, 6, 7]), (16, []), (17, [])] (by decide +kernel) ?_
  conv => whnf
  repeat (refine And.intro (by (try unfold inI64); (try dsimp only); (try simp only [List.length_cons, List.length_append, List.length_singleton, List.length_nil]); omega) ?_; conv => whnf)
  refine .ret _ ?_
  conv => whnf
  exact ⟨_, ⟨rfl, rfl⟩, Res.le_refl _, Res.le_refl _, Res.le_refl _, trivial⟩
end Go.Proofs.Ytnkdlkgannnfhaa
set_option maxRecDepth 20000
namespace Go.Proofs.Ytnkdlkgannnfhaa
open Go Go.Eng
/-- A row of which the first places are filled. -/
def fillL (g : Nat → Int) (n i : Nat) : List Int := (List.range n).map fun j => if j < i then g j else 0
theorem fillL_length (g : Nat → Int) (n i : Nat) : (fillL g n i).length = n := by simp [fillL]
theorem fillL_get {g : Nat → Int} {n i j : Nat} (h : j < n) : (fillL g n i)[j]'(by rw [fillL_length]; exact h) = if j < i then g j else 0 := by simp [fillL]
theorem fillL_zero {e : Nat} {g : Nat → Int} {n m : Nat} {get : Nat → List DV} (hm : m = n) (hg : ∀ i, get i = iF 0) : Res.le (.buf e 1 m get) (seqB e 1 iF 0 (fillL g n 0)) :=
  Res.le_buf (by rw [fillL_length, hm]) (fun i hi => by rw [rowF_lt (by rw [fillL_length]; omega), hg i, fillL_get (by omega)]; simp)
theorem fillL_set (g : Nat → Int) (n i : Nat) : (fillL g n i).set i (g i) = fillL g n (i + 1) := by
  apply List.ext_getElem
  · simp [fillL]
  · intro j h1 h2
    simp only [fillL, List.getElem_set, List.getElem_map, List.getElem_range]
    by_cases e : i = j
    · subst e; simp
    · by_cases q : j < i
      · have : j < i + 1 := by omega
        simp [e, q, this]
      · have : ¬ j < i + 1 := by omega
        simp [e, q, this]
def leftL (c : Int) (g : Nat → Int) (i : Nat) : Int := c - ((List.range i).map g).sum
theorem leftL_succ (c : Int) (g : Nat → Int) (i : Nat) : leftL c g (i + 1) = leftL c g i - g i := by
  simp [leftL, List.range_succ, List.sum_append]; omega
def partG (c : Int) (w : List Int) (j : Nat) : Int := (c * w.getD j 0).tdiv w.sum
def cmpG (c : Int) (w : List Int) (p q : Int) : Int := (c * w.getD q.toNat 0).tmod w.sum - (c * w.getD p.toNat 0).tmod w.sum
def orderG (c : Int) (w : List Int) : List Int := isort (cmpG c w) (fillL (fun j => (j : Int)) w.length w.length)
def incL (P : List Int) (js : List Int) : List Int := js.foldl (fun P j => P.set j.toNat (P.getD j.toNat 0 + 1)) P
def splitG (c : Int) (w : List Int) : List Int := incL (fillL (partG c w) w.length w.length) ((orderG c w).take (leftL c (partG c w) w.length).toNat)
theorem incL_snoc (P : List Int) (js : List Int) (j : Int) : incL P (js ++ [j]) = (incL P js).set j.toNat ((incL P js).getD j.toNat 0 + 1) := by simp [incL]
theorem sum_nonneg {l : List Int} (h : ∀ x ∈ l, 0 ≤ x) : 0 ≤ l.sum := by
  induction l with
  | nil => simp
  | cons x l ih => rw [List.sum_cons]; have := h x (by simp); have := ih (fun y hy => h y (by simp [hy])); omega
theorem sum_le {l : List Int} {b : Int} (h : ∀ x ∈ l, x ≤ b) : l.sum ≤ b * l.length := by
  induction l with
  | nil => simp
  | cons x l ih => rw [List.sum_cons]; have := h x (by simp); have := ih (fun y hy => h y (by simp [hy])); simp only [List.length_cons]; rw [show b * ((l.length + 1 : Nat) : Int) = b * l.length + b by push_cast; rw [Int.mul_add, Int.mul_one]]; omega
-- split
theorem s120 (c : Int) (w : List Int) (hc : 0 ≤ c ∧ c ≤ 1000000000) (hw : ∀ x ∈ w, 0 ≤ x ∧ x ≤ 5761440) (hn : w.length < 20) (hs : w.sum ≠ 0) (hleft : 0 ≤ leftL c (partG c w) w.length ∧ leftL c (partG c w) w.length ≤ w.length) :
    FSpec Try.prog 43 [.d (.int .i64 c), .d (ints w)] [] (fun y r => y = .d (ints (splitG c w)) ∧ r = []) := by
  have hs0 : 0 ≤ w.sum := sum_nonneg fun x hx => (hw x hx).1
  have hs1 : w.sum ≤ 5761440 * w.length := sum_le fun x hx => (hw x hx).2
  refine spec_of hT (C := []) Try.func43 rfl Try.call43 rfl rfl rfl ?_
  conv => whnf
  refine LoopX.rule hT (C := []) (ι := Nat) (fun i => i ≤ w.length) (fun i => mkSt [(2, .ptr 2 0), (3, .ptr 3 0), (5, .ptr 5 0), (15, .d (ints w)), (16, .d (.int .i64 w.length)), (17, .d (.int .i64 i))]
    [(2, .cells 3 [.d (.int .i64 c)]), (3, .cells 22 [.d (ints w)]), (5, .cells 3 [.d (.int .i64 (w.take i).sum)])]) (fun i => w.length - i) 0 (by omega) ?_ ?_
  · exact Entails.mk' [(2, 2), (3, 3), (5, 5)] rfl rfl ⟨SV.le_refl _, SV.le_refl _, SV.le_refl _, SV.le_refl _, SV.le_refl _, SV.le_refl _, trivial⟩ ⟨Res.le_refl _, Res.le_refl _, Res.le_refl _, trivial⟩
  intro i p1
  conv => whnf
  refine br_intro (fun h => ?_) (fun h => ?_)
  · simp only [decide_eq_true_eq] at h
    have hi : i < w.length := by omega
    have b1 := hw _ (List.getElem_mem hi)
    have b2 : 0 ≤ (w.take i).sum := sum_nonneg fun x hx => (hw x (List.mem_of_mem_take hx)).1
    have b3 : (w.take i).sum ≤ 5761440 * (w.take i).length := sum_le fun x hx => (hw x (List.mem_of_mem_take hx)).2
    have b4 : (w.take i).length = i := by simp; omega
    have b5 : w.getD (i : Int).toNat 0 = w[i] := getD_toNat hi
    conv => whnf
    repeat (refine And.intro (by (try unfold inI64); (try dsimp only); (try simp only [List.length_cons, List.length_append, List.length_singleton, List.length_nil]); omega) ?_; conv => whnf)
    refine ⟨i + 1, hi, by omega, ?_⟩
    refine Entails.mk' [(2, 2), (3, 3), (5, 5)] rfl rfl ⟨SV.le_refl _, SV.le_refl _, SV.le_refl _, SV.le_refl _, SV.le_refl _, SV.le_refl _, trivial⟩ ⟨Res.le_refl _, Res.le_refl _, ?_, trivial⟩
    show Res.le (.cells 3 [.d (.int .i64 ((w.take i).sum + w.getD (i : Int).toNat 0))]) (.cells 3 [.d (.int .i64 (w.take (i + 1)).sum)])
    rw [b5, sum_take hi]; exact Res.le_refl _
  simp only [decide_eq_false_iff_not] at h
  have e1 : i = w.length := by omega
  subst e1
  rw [List.take_length]
  conv => whnf
  refine RegX.rule hT rfl [] [(0, []), (1, []), (2, []), (3, [0, 1, 2]), (4, [0, 1, 2]), (5, [0, 1, 2]), (6, [3, 4, 5]), (7, [])] (by decide +kernel) ?_
  conv => whnf
  refine And.intro ⟨by omega, by omega, by show (8:Int) * w.length ≤ _; omega, by omega⟩ ?_
  conv => whnf
  refine And.intro ⟨by omega, by omega, by show (8:Int) * w.length ≤ _; omega, by omega⟩ ?_
  conv => whnf
  have hg0 : ∀ j, j < w.length → 0 ≤ c * w.getD j 0 ∧ c * w.getD j 0 ≤ 1000000000 * 5761440 := fun j hj => by
    have := hw _ (getD_mem (x := (0 : Int)) hj)
    exact ⟨Int.mul_nonneg hc.1 this.1, Int.mul_le_mul hc.2 this.2 this.1 (by omega)⟩
  have hg1 : ∀ j, j < w.length → 0 ≤ partG c w j ∧ partG c w j ≤ 1000000000 * 5761440 := fun j hj => by
    have := hg0 j hj
    exact ⟨Int.tdiv_nonneg this.1 hs0, Int.le_trans (Int.tdiv_le_self _ this.1) this.2⟩
  have hl1 : ∀ i, i ≤ w.length → c - 1000000000 * 5761440 * i ≤ leftL c (partG c w) i ∧ leftL c (partG c w) i ≤ c := fun i => by
    induction i with
    | zero => intro _; simp [leftL]
    | succ i ih => intro hi; have := ih (by omega); have := hg1 i (by omega); rw [leftL_succ]; omega
  refine LoopX.rule hT (C := []) (ι := Nat) (fun i => i ≤ w.length) (fun i => mkSt [(2, .ptr 2 0), (3, .ptr 3 0), (5, .ptr 5 0), (8, .buf 27), (9, .buf 30), (10, .d (.int .i64 (leftL c (partG c w) i))), (32, .d (ints w)), (33, .d (.int .i64 w.length)), (34, .d (.int .i64 i))]
    [(2, .cells 3 [.d (.int .i64 c)]), (3, .cells 22 [.d (ints w)]), (5, .cells 3 [.d (.int .i64 w.sum)]), (27, seqB 3 1 iF 0 (fillL (partG c w) w.length i)), (30, seqB 3 1 iF 0 (fillL (fun j => (j : Int)) w.length i))]) (fun i => w.length - i) 0 (by omega) ?_ ?_
  · exact Entails.mk' [(2, 2), (3, 3), (5, 5), (27, 27), (30, 30)] rfl rfl ⟨SV.le_refl _, SV.le_refl _, SV.le_refl _, SV.le_refl _, SV.le_refl _, SV.le_int (by simp [leftL]), SV.le_refl _, SV.le_refl _, SV.le_refl _, trivial⟩
      ⟨Res.le_refl _, Res.le_refl _, Res.le_refl _, fillL_zero (by rfl) (fun _ => rfl), fillL_zero (by rfl) (fun _ => rfl), trivial⟩
  clear p1 h
  intro i p1
  conv => whnf
  refine br_intro (fun h => ?_) (fun h => ?_)
  · simp only [decide_eq_true_eq] at h
    have hi : i < w.length := by omega
    have b0 := hg0 i hi
    have b1 := hg1 i hi
    have b2 := hl1 i p1
    have e1 : (i : Int).toNat = i := Int.toNat_natCast i
    have l1 := fillL_length (partG c w) w.length i
    have l2 := fillL_length (fun j => (j : Int)) w.length i
    conv => whnf
    repeat (refine And.intro (by (try unfold inI64); (try dsimp only); (try simp only [e1, l1, l2, List.length_cons, List.length_append, List.length_singleton, List.length_nil]); omega) ?_; conv => whnf)
    refine And.intro (by show inI64 (partG c w i); unfold inI64; omega) ?_
    conv => whnf
    repeat (refine And.intro (by (try unfold inI64); (try dsimp only); (try simp only [e1, l1, l2, List.length_cons, List.length_append, List.length_singleton, List.length_nil]); omega) ?_; conv => whnf)
    simp only [e1, Nat.beq_refl, cond_true]
    conv => whnf
    refine And.intro (by show inI64 (leftL c (partG c w) i - partG c w i); unfold inI64; omega) ?_
    conv => whnf
    refine And.intro (by unfold inI64; omega) ?_
    conv => whnf
    refine ⟨i + 1, hi, by omega, ?_⟩
    have r1 : Res.le (.buf 3 1 (fillL (partG c w) w.length i).length fun j => bif Nat.beq j i then setAtD (rowF iF 0 (fillL (partG c w) w.length i) j) 0 [.int .i64 (partG c w i)] else rowF iF 0 (fillL (partG c w) w.length i) j) (seqB 3 1 iF 0 (fillL (partG c w) w.length (i + 1))) := by
      rw [← fillL_set]; exact Res.le_putF (fun _ _ => rfl)
    have r2 : Res.le (.buf 3 1 (fillL (fun j => (j : Int)) w.length i).length fun j => bif Nat.beq j i then setAtD (rowF iF 0 (fillL (fun j => (j : Int)) w.length i) j) 0 [.int .i64 (i : Int)] else rowF iF 0 (fillL (fun j => (j : Int)) w.length i) j) (seqB 3 1 iF 0 (fillL (fun j => (j : Int)) w.length (i + 1))) := by
      rw [← fillL_set]; exact Res.le_putF (fun _ _ => rfl)
    exact Entails.mk' [(2, 2), (3, 3), (5, 5), (27, 27), (30, 30)] rfl rfl ⟨SV.le_refl _, SV.le_refl _, SV.le_refl _, SV.le_refl _, SV.le_refl _, SV.le_int (leftL_succ c (partG c w) i).symm, SV.le_refl _, SV.le_refl _, SV.le_refl _, trivial⟩
      ⟨Res.le_refl _, Res.le_refl _, Res.le_refl _, r1, r2, trivial⟩
  simp only [decide_eq_false_iff_not] at h
  have e1 : i = w.length := by omega
  subst e1
  conv => whnf
  have hlen : (fillL (fun j => (j : Int)) w.length w.length).length = w.length := fillL_length _ _ _
  have hmemo : ∀ p, p ∈ fillL (fun j => (j : Int)) w.length w.length → ∃ j : Nat, p = j ∧ j < w.length := fun p hp => by
    simp only [fillL, List.mem_map, List.mem_range] at hp
    obtain ⟨j, hj, rfl⟩ := hp
    exact ⟨j, by simp [hj], hj⟩
  refine CallX.of (s173 61 (.int .i64 c) (ints w) (.int .i64 w.sum) 3 22 3 (cmpG c w) (fillL (fun j => (j : Int)) w.length w.length) (by omega) (fun p q hp hq => by
    obtain ⟨j, rfl, hj⟩ := hmemo p hp
    obtain ⟨k, rfl, hk⟩ := hmemo q hq
    exact s174 c w.sum w hc hw (by omega) (by omega) j k hj hk)) [(1000001, 30), (1000002, 2), (1000003, 3), (1000004, 5)] rfl ⟨SV.le_refl _, SV.le_refl _, trivial⟩ ⟨Res.le_refl _, Res.le_refl _, Res.le_refl _, Res.le_refl _, trivial⟩ rfl rfl ?_
  rintro x rout ⟨rfl, rfl⟩
  refine ⟨rfl, ?_⟩
  conv => whnf
  have hol : (orderG c w).length = w.length := by unfold orderG isort; rw [List.length_reverse, isortR_length, fillL_length]
  refine SliceX.freeze _ _ _ _ rfl ?_
  conv => whnf
  refine And.intro ⟨by omega, hleft.1, by show _ ≤ ((orderG c w).length : Int); rw [hol]; exact hleft.2⟩ ?_
  conv => whnf
  obtain ⟨idx, hidx⟩ : ∃ idx, idx = (orderG c w).take (leftL c (partG c w) w.length).toNat := ⟨_, rfl⟩
  have hil : idx.length = (leftL c (partG c w) w.length).toNat := by rw [hidx, List.length_take, hol]; omega
  have him : ∀ p ∈ idx, ∃ j : Nat, p = j ∧ j < w.length := fun p hp => by
    rw [hidx] at hp
    have := List.mem_of_mem_take hp
    unfold orderG isort at this
    rw [List.mem_reverse, isortR_mem] at this
    exact hmemo p this
  refine LoopX.rule hT (C := []) (ι := Nat × List Int) (fun p => p.1 ≤ idx.length ∧ p.2 = incL (fillL (partG c w) w.length w.length) (idx.take p.1) ∧ p.2.length = w.length ∧ (∀ x ∈ p.2, 0 ≤ x ∧ x ≤ 1000000000 * 5761440 + p.1))
    (fun p => mkSt [(8, .buf 27), (63, .d (ints idx)), (64, .d (.int .i64 idx.length)), (65, .d (.int .i64 p.1))] [(27, seqB 3 1 iF 0 p.2)]) (fun p => idx.length - p.1) (0, fillL (partG c w) w.length w.length) ⟨by simp, by simp [incL], fillL_length _ _ _, ?_⟩ ?_ ?_
  · intro x hx
    simp only [fillL, List.mem_map, List.mem_range] at hx
    obtain ⟨j, hj, rfl⟩ := hx
    have := hg1 j hj
    simp [hj]; omega
  · refine Entails.mk' [(27, 27)] rfl rfl ⟨SV.le_refl _, SV.le_ro ?_ (fun i hi => ?_), SV.le_int ?_, SV.le_refl _, trivial⟩ ⟨Res.le_refl _, trivial⟩
    · rw [hil]; omega
    · change rowF iF 0 (orderG c w) (Int.toNat 0 + i) = _
      rw [rowF_lt (show Int.toNat 0 + i < (orderG c w).length by simp only [Int.toNat_zero]; omega), rowF_lt (show i < idx.length by omega)]
      subst hidx
      simp [orderG]
    · rw [hil]; omega
  rintro ⟨i, P⟩ ⟨p1, p2, p3, p4⟩
  simp only at p1 p2 p3 p4
  conv => whnf
  refine br_intro (fun h => ?_) (fun h => ?_)
  · simp only [decide_eq_true_eq] at h
    have hi : i < idx.length := by omega
    obtain ⟨j, hj, hjw⟩ := him _ (List.getElem_mem hi)
    have e0 : (i : Int).toNat = i := Int.toNat_natCast i
    have e1 : idx.getD (i : Int).toNat 0 = j := by rw [getD_toNat hi, hj]
    have e2 : (j : Int).toNat = j := Int.toNat_natCast j
    conv => whnf
    repeat (refine And.intro (by (try unfold inI64); (try dsimp only); (try simp only [e1, e2, List.length_cons, List.length_append, List.length_singleton, List.length_nil]); omega) ?_; conv => whnf)
    have hjP : j < P.length := by omega
    have bP := p4 _ (getD_mem (x := (0 : Int)) hjP)
    refine And.intro (by simp only [e1, e2]; unfold inI64; omega) ?_
    conv => whnf
    repeat (refine And.intro (by (try unfold inI64); (try dsimp only); (try simp only [e1, e2, List.length_cons, List.length_append, List.length_singleton, List.length_nil]); omega) ?_; conv => whnf)
    refine ⟨(i + 1, P.set j (P.getD j 0 + 1)), ⟨hi, ?_, by simp only [List.length_set]; exact p3, ?_⟩, by simp only; omega, ?_⟩
    · simp only
      rw [take_snoc hi, incL_snoc, ← p2, hj, e2]
    · simp only
      intro x hx
      rcases List.mem_or_eq_of_mem_set hx with q | q
      · have := p4 x q; omega
      · subst q; omega
    · have r1 : Res.le (.buf 3 1 P.length fun k => bif Nat.beq k (idx.getD (i : Int).toNat 0).toNat then setAtD (rowF iF 0 P k) 0 [.int .i64 (P.getD (idx.getD (i : Int).toNat 0).toNat 0 + 1)] else rowF iF 0 P k) (seqB 3 1 iF 0 (P.set j (P.getD j 0 + 1))) := by
        rw [e1, e2]; exact Res.le_putF (fun _ _ => rfl)
      exact Entails.mk' [(27, 27)] rfl rfl ⟨SV.le_refl _, SV.le_refl _, SV.le_refl _, SV.le_refl _, trivial⟩ ⟨r1, trivial⟩
  simp only [decide_eq_false_iff_not] at h
  have e1 : i = idx.length := by omega
  subst e1
  conv => whnf
  rw [List.take_length, hidx] at p2
  refine .freeze _ 27 3 1 _ _ rfl ?_
  refine .ret _ ?_
  conv => whnf
  refine ⟨[], ⟨?_, rfl⟩, trivial⟩
  conv => lhs; whnf
  show SV.d (ints P) = SV.d (ints (splitG c w))
  rw [p2]; rfl
end Go.Proofs.Ytnkdlkgannnfhaa
set_option maxRecDepth 20000
namespace Go.Proofs.Ytnkdlkgannnfhaa
open Go Go.Eng
theorem left_sum (c : Int) (w : List Int) (hc : 0 ≤ c) (hw : ∀ x ∈ w, 0 ≤ x) (hs : 0 < w.sum) : ∀ i, i ≤ w.length → ∃ R, 0 ≤ R ∧ R ≤ w.sum * i ∧ w.sum * ((List.range i).map (partG c w)).sum + R = c * (w.take i).sum := by
  intro i
  induction i with
  | zero => intro _; exact ⟨0, by omega, by simp, by simp⟩
  | succ i ih =>
    intro hi
    obtain ⟨R, h1, h2, h3⟩ := ih (by omega)
    have hx : w.getD i 0 = w[i] := by rw [List.getD_eq_getElem?_getD]; simp [show i < w.length by omega]
    have h4 := Int.tmod_add_mul_tdiv (c * w[i]) w.sum
    have h5 : 0 ≤ c * w[i] := Int.mul_nonneg hc (hw _ (List.getElem_mem _))
    have h6 := Int.tmod_nonneg w.sum h5
    have h7 := Int.tmod_lt_of_pos (c * w[i]) hs
    refine ⟨R + (c * w[i]).tmod w.sum, by omega, ?_, ?_⟩
    · rw [show ((i + 1 : Nat) : Int) = (i : Int) + 1 by push_cast; rfl, Int.mul_add, Int.mul_one]; omega
    · rw [sum_take (show i < w.length by omega), Int.mul_add, ← h3, List.range_succ, List.map_append, List.sum_append, List.map_singleton, List.sum_singleton, Int.mul_add]
      have : partG c w i = (c * w[i]).tdiv w.sum := by unfold partG; rw [hx]
      rw [this]; omega
theorem left_bound (c : Int) (w : List Int) (hc : 0 ≤ c) (hw : ∀ x ∈ w, 0 ≤ x) (hs : 0 < w.sum) : 0 ≤ leftL c (partG c w) w.length ∧ leftL c (partG c w) w.length ≤ w.length := by
  obtain ⟨R, h1, h2, h3⟩ := left_sum c w hc hw hs w.length (Nat.le_refl _)
  rw [List.take_length] at h3
  have e : w.sum * leftL c (partG c w) w.length = R := by
    unfold leftL
    rw [Int.mul_sub, Int.mul_comm w.sum c]; omega
  constructor
  · refine Int.not_lt.1 fun h => ?_
    have := Int.mul_neg_of_pos_of_neg hs h
    omega
  · exact Int.le_of_mul_le_mul_left (by rw [e]; exact h2) hs
-- mark.Split
theorem s35 (c : Int) (w : List Int) (hn : w.length < 20) : FSpec Try.prog 25 [.d (.int .i64 c), .d (ints w)] []
    (fun y r => y = .tup [.d (if splitF c w = 0 then ints (splitG c w) else .nilsl), .d (.int .i64 (splitF c w))] ∧ r = []) := by
  refine spec_of hT (C := []) Try.func25 rfl Try.call25 rfl rfl rfl ?_
  conv => whnf
  refine CallX.pure (s119 _ _ _) ⟨SV.le_refl _, SV.le_refl _, SV.le_refl _, trivial⟩ rfl ?_
  conv => whnf
  refine CallX.pure (s107 _ _) ⟨SV.le_refl _, SV.le_refl _, trivial⟩ rfl ?_
  conv => whnf
  refine CallX.pure (s107 _ _) ⟨SV.le_refl _, SV.le_refl _, trivial⟩ rfl ?_
  conv => whnf
  refine CallX.pure (s105 [_, _] (by simp)) ⟨SV.le_lit (by rfl) (by rfl), trivial⟩ rfl ?_
  have hnl : ¬ (50 < w.length) := by omega
  generalize he : firstE _ = e
  have he2 : e = if 0 ≤ c ∧ c ≤ 1000000000 then 0 else 1 := by
    rw [← he]
    simp only [firstE]
    by_cases h : 0 ≤ c ∧ c ≤ 1000000000 <;> simp [h] <;> omega
  conv => whnf
  refine br_intro (fun h => ?_) (fun h => ?_)
  · simp at h
    conv => whnf
    refine .ret _ ?_
    conv => whnf
    refine ⟨[], ⟨?_, rfl⟩, trivial⟩
    show SV.tup [.d .nilsl, .d (.int .i64 e)] = _
    have hc : ¬ (0 ≤ c ∧ c ≤ 1000000000) := fun q => h (by rw [he2, if_pos q])
    rw [if_neg hc] at he2
    have : splitF c w = 1 := by simp only [splitF]; rw [if_pos hc]
    rw [this, he2]; rfl
  simp at h
  have hc : 0 ≤ c ∧ c ≤ 1000000000 := Classical.byContradiction fun q => by rw [if_neg q] at he2; omega
  conv => whnf
  refine LoopX.rule hT (C := []) (ι := Nat) (fun i => i ≤ w.length ∧ (∀ x ∈ w.take i, 0 ≤ x ∧ x ≤ 5761440)) (fun i => mkSt [(0, .d (.int .i64 c)), (1, .d (ints w)), (7, .d (.int .i64 (w.take i).sum)), (23, .d (ints w)), (24, .d (.int .i64 w.length)), (25, .d (.int .i64 i))] []) (fun i => w.length - i) 0 ⟨by omega, by simp⟩ ?_ ?_
  · refine Entails.mk' [] rfl rfl ⟨SV.le_refl _, SV.le_refl _, SV.le_refl _, SV.le_refl _, SV.le_refl _, SV.le_refl _, trivial⟩ trivial
  rintro i ⟨p1, p2⟩
  conv => whnf
  refine br_intro (fun h => ?_) (fun h => ?_)
  · simp only [decide_eq_true_eq] at h
    have hi : i < w.length := by omega
    have b2 : 0 ≤ (w.take i).sum := sum_nonneg fun x hx => (p2 x hx).1
    have b3 : (w.take i).sum ≤ 5761440 * (w.take i).length := sum_le fun x hx => (p2 x hx).2
    have b4 : (w.take i).length = i := by simp; omega
    conv => whnf
    repeat (refine And.intro (by (try unfold inI64); (try dsimp only); (try simp only [List.length_cons, List.length_append, List.length_singleton, List.length_nil]); omega) ?_; conv => whnf)
    refine CallX.pure (s119 _ _ _) ⟨SV.le_refl _, SV.le_refl _, SV.le_refl _, trivial⟩ rfl ?_
    rw [getD_toNat hi]
    conv => whnf
    refine br_intro (fun h2 => ?_) (fun h2 => ?_)
    · conv => whnf
      refine .ret _ ?_
      conv => whnf
      refine ⟨[], ⟨?_, rfl⟩, trivial⟩
      show SV.tup [.d .nilsl, .d (.int .i64 1)] = _
      have : splitF c w = 1 := by
        simp only [splitF]
        rw [if_neg (by omega), if_neg hnl, if_pos]
        rw [List.any_eq_true]
        exact ⟨w[i], List.getElem_mem hi, h2⟩
      rw [this]; rfl
    · simp at h2
      conv => whnf
      repeat (refine And.intro (by (try unfold inI64); (try dsimp only); (try simp only [List.length_cons, List.length_append, List.length_singleton, List.length_nil]); omega) ?_; conv => whnf)
      refine ⟨i + 1, ⟨hi, fun x hx => ?_⟩, by omega, ?_⟩
      · rw [← List.take_append_getElem hi] at hx
        rcases List.mem_append.1 hx with q | q
        · exact p2 x q
        · simp at q; subst q; omega
      · exact Entails.mk' [] rfl rfl ⟨SV.le_refl _, SV.le_refl _, SV.le_int (sum_take hi).symm, SV.le_refl _, SV.le_refl _, SV.le_refl _, trivial⟩ trivial
  simp only [decide_eq_false_iff_not] at h
  have e1 : i = w.length := by omega
  subst e1
  rw [List.take_length] at p2 ⊢
  have hany : w.any (fun x => !decide (0 ≤ x ∧ x ≤ 5761440)) = false := by
    rw [List.any_eq_false]; intro x hx; have := p2 x hx; simp; omega
  conv => whnf
  refine br_intro (fun h2 => ?_) (fun h2 => ?_)
  · conv => whnf
    refine .ret _ ?_
    conv => whnf
    refine ⟨[], ⟨?_, rfl⟩, trivial⟩
    show SV.tup [.d .nilsl, .d (.int .i64 8)] = _
    simp at h2
    have : splitF c w = 8 := by
      simp only [splitF]
      rw [if_neg (by omega), if_neg hnl, hany, if_neg (by simp), if_pos h2]
    rw [this]; rfl
  · simp at h2
    have hs0 : 0 ≤ w.sum := sum_nonneg fun x hx => (p2 x hx).1
    conv => whnf
    refine CallX.pure (s120 c w hc p2 hn h2 (left_bound c w hc.1 (fun x hx => (p2 x hx).1) (by omega))) ⟨SV.le_refl _, SV.le_refl _, trivial⟩ rfl ?_
    conv => whnf
    refine .ret _ ?_
    conv => whnf
    refine ⟨[], ⟨?_, rfl⟩, trivial⟩
    show SV.tup [.d (ints (splitG c w)), .d (.int .i64 0)] = _
    have : splitF c w = 0 := by
      simp only [splitF]
      rw [if_neg (by omega), if_neg hnl, hany, if_neg (by simp), if_neg h2]
    rw [this]; rfl
end Go.Proofs.Ytnkdlkgannnfhaa
set_option maxRecDepth 20000
namespace Go.Proofs.Ytnkdlkgannnfhaa
open Go Go.Eng
-- flag
def remG (c : Int) (w : List Int) (j : Nat) : Int := (c * w.getD j 0).tmod w.sum
def aheadB (c : Int) (w : List Int) (i k : Nat) : Bool := decide (remG c w i < remG c w k) || (decide (remG c w k = remG c w i) && decide (k < i))
def aheadG (c : Int) (w : List Int) (i m : Nat) : Int := ((List.range m).map fun k => if aheadB c w i k then (1 : Int) else 0).sum
theorem aheadG_succ (c : Int) (w : List Int) (i m : Nat) : aheadG c w i (m + 1) = aheadG c w i m + if aheadB c w i m then 1 else 0 := by
  simp [aheadG, List.range_succ, List.sum_append]
theorem aheadG_bd (c : Int) (w : List Int) (i m : Nat) : 0 ≤ aheadG c w i m ∧ aheadG c w i m ≤ m := by
  induction m with
  | zero => simp [aheadG]
  | succ m ih => rw [aheadG_succ]; split <;> (push_cast; omega)
def splitE (c : Int) (w : List Int) (j : Nat) : Int := partG c w j + if aheadG c w j w.length < leftL c (partG c w) w.length then 1 else 0
def rngL (g : Nat → Int) (n : Nat) : List Int := (List.range n).map g
theorem rngL_length (g : Nat → Int) (n : Nat) : (rngL g n).length = n := by simp [rngL]
theorem rngL_succ (g : Nat → Int) (n : Nat) : rngL g (n + 1) = rngL g n ++ [g n] := by simp [rngL, List.range_succ]
def mixL (g h : Nat → Int) (n i : Nat) : List Int := (List.range n).map fun j => if j < i then g j else h j
theorem mixL_length (g h : Nat → Int) (n i : Nat) : (mixL g h n i).length = n := by simp [mixL]
theorem mixL_get {g h : Nat → Int} {n i j : Nat} (q : j < n) : (mixL g h n i).getD j 0 = if j < i then g j else h j := by
  rw [List.getD_eq_getElem?_getD]; simp [mixL, q]
theorem mixL_set (g h : Nat → Int) (n i : Nat) : (mixL g h n i).set i (g i) = mixL g h n (i + 1) := by
  apply List.ext_getElem
  · simp [mixL]
  · intro j h1 h2
    simp only [mixL, List.getElem_set, List.getElem_map, List.getElem_range]
    by_cases e : i = j
    · subst e; simp
    · by_cases q : j < i
      · have : j < i + 1 := by omega
        simp [e, q, this]
      · have : ¬ j < i + 1 := by omega
        simp [e, q, this]
-- rentref2.SplitOf
end Go.Proofs.Ytnkdlkgannnfhaa
namespace Go.Proofs.Ytnkdlkgannnfhaa
open Go Go.Eng
section
variable {α : Type} (cmp : α → α → Int)
theorem insR_perm (x : α) : ∀ l : List α, (insR cmp x l).Perm (x :: l) := by
  intro l
  induction l with
  | nil => exact .refl _
  | cons y r ih =>
    simp only [insR]
    split
    · exact (ih.cons y).trans (.swap x y r)
    · exact .refl _
theorem isortR_perm (l : List α) : (isortR cmp l).Perm l := by
  have : ∀ (l acc : List α), (l.foldl (fun acc x => insR cmp x acc) acc).Perm (l ++ acc) := by
    intro l
    induction l with
    | nil => intro acc; exact .refl _
    | cons x l ih =>
      intro acc
      rw [List.foldl_cons]
      refine (ih _).trans (((insR_perm cmp x acc).append_left l).trans ?_)
      exact List.perm_middle
  have h := this l []
  rw [List.append_nil] at h
  exact h
theorem isort_perm (l : List α) : (isort cmp l).Perm l := (List.reverse_perm _).trans (isortR_perm cmp l)
variable (R : α → α → Prop) (tr : ∀ a b c, R a b → R b c → R a c)
include tr in
theorem insR_pairwise (x : α) : ∀ l : List α, l.Pairwise (fun a b => R b a) → (∀ y ∈ l, (cmp x y < 0 → R x y) ∧ (¬ cmp x y < 0 → R y x)) → (insR cmp x l).Pairwise (fun a b => R b a) := by
  intro l
  induction l with
  | nil => intro _ _; simp [insR]
  | cons y r ih =>
    intro h hc
    have h' := List.pairwise_cons.1 h
    simp only [insR]
    split
    · rename_i hlt
      rw [List.pairwise_cons]
      refine ⟨fun z hz => ?_, ih h'.2 (fun z hz => hc z (by simp [hz]))⟩
      rcases (insR_mem cmp x z).1 hz with q | q
      · subst q; exact (hc y (by simp)).1 hlt
      · exact h'.1 z q
    · rename_i hlt
      have hyx := (hc y (by simp)).2 hlt
      rw [List.pairwise_cons]
      refine ⟨fun z hz => ?_, h⟩
      rcases List.mem_cons.1 hz with q | q
      · subst q; exact hyx
      · exact tr _ _ _ (h'.1 z q) hyx
include tr in
/-- A stable sort sorts: R: goes before. -/
theorem isort_pairwise : ∀ l : List α, l.Pairwise (fun y x => (cmp x y < 0 → R x y) ∧ (¬ cmp x y < 0 → R y x)) → (isort cmp l).Pairwise R := by
  intro l h
  unfold isort
  rw [List.pairwise_reverse]
  have : ∀ n, n ≤ l.length → (isortR cmp (l.take n)).Pairwise (fun a b => R b a) := by
    intro n
    induction n with
    | zero => intro _; simp [isortR]
    | succ n ih =>
      intro hn
      rw [take_snoc hn, isortR_snoc]
      refine insR_pairwise cmp R tr _ _ (ih (by omega)) (fun y hy => ?_)
      have hy := (isortR_mem cmp _).1 hy
      have hp : (l.take (n + 1)).Pairwise (fun y x => (cmp x y < 0 → R x y) ∧ (¬ cmp x y < 0 → R y x)) := h.sublist (List.take_sublist _ _)
      rw [take_snoc hn, List.pairwise_append] at hp
      exact hp.2.2 y hy _ (by simp)
  have := this l.length (Nat.le_refl _)
  rwa [List.take_length] at this
/-- Where something stands. -/
theorem mem_take_of_pairwise (R : α → α → Bool) (ir : ∀ a, R a a = false) (asy : ∀ a b, R a b = true → R b a = false) {S : List α} (h : S.Pairwise (fun a b => R a b = true)) {k : α} (hk : k ∈ S) (m : Nat) : k ∈ S.take m ↔ S.countP (fun a => R a k) < m := by
  obtain ⟨A, B, rfl⟩ := List.append_of_mem hk
  rw [List.pairwise_append, List.pairwise_cons] at h
  obtain ⟨h1, ⟨h2, _⟩, h3⟩ := h
  have hA : A.countP (fun a => R a k) = A.length := List.countP_eq_length.2 fun a ha => h3 a ha k (by simp)
  have hB : B.countP (fun a => R a k) = 0 := List.countP_eq_zero.2 fun b hb => by simp [asy _ _ (h2 b hb)]
  have hkA : k ∉ A := fun q => by have := h3 k q k (by simp); rw [ir] at this; cases this
  rw [List.countP_append, List.countP_cons, hA, hB, ir]
  simp only [Nat.zero_add, Bool.false_eq_true, if_false, Nat.add_zero]
  constructor
  · intro hm
    refine Nat.lt_of_not_le fun q => ?_
    rw [List.take_append_of_le_length q] at hm
    exact hkA (List.mem_of_mem_take hm)
  · intro hm
    rw [List.take_append]
    have : m - A.length = (m - A.length - 1) + 1 := by omega
    rw [this]
    simp
end
theorem incL_get (js : List Int) (hn : js.Nodup) : ∀ P : List Int, (∀ j ∈ js, 0 ≤ j ∧ j.toNat < P.length) → (incL P js).length = P.length ∧ ∀ k : Nat, k < P.length → (incL P js).getD k 0 = P.getD k 0 + if (k : Int) ∈ js then 1 else 0 := by
  induction js with
  | nil => intro P _; simp [incL]
  | cons j js ih =>
    intro P h
    rw [List.nodup_cons] at hn
    have hj := h j (by simp)
    have e : incL P (j :: js) = incL (P.set j.toNat (P.getD j.toNat 0 + 1)) js := rfl
    obtain ⟨h1, h2⟩ := ih hn.2 (P.set j.toNat (P.getD j.toNat 0 + 1)) (fun i hi => by rw [List.length_set]; exact h i (by simp [hi]))
    rw [List.length_set] at h1 h2
    rw [e]
    refine ⟨h1, fun k hk => ?_⟩
    rw [h2 k hk]
    by_cases q : (k : Int) = j
    · subst q
      have : (k : Int) ∉ js := hn.1
      simp [this, hk]
    · have q2 : ¬ j.toNat = k := by omega
      simp [List.getD_eq_getElem?_getD, List.getElem?_set, q2, q]
end Go.Proofs.Ytnkdlkgannnfhaa
namespace Go.Proofs.Ytnkdlkgannnfhaa
open Go Go.Eng
def remI (c : Int) (w : List Int) (p : Int) : Int := (c * w.getD p.toNat 0).tmod w.sum
def befI (c : Int) (w : List Int) (a b : Int) : Bool := decide (remI c w b < remI c w a) || (decide (remI c w a = remI c w b) && decide (a < b))
theorem befI_iff {c : Int} {w : List Int} {a b : Int} : befI c w a b = true ↔ (remI c w b < remI c w a ∨ (remI c w a = remI c w b ∧ a < b)) := by
  simp [befI]
theorem aheadG_count (c : Int) (w : List Int) (k m : Nat) : aheadG c w k m = ((List.range m).countP (fun j : Nat => befI c w (j : Int) (k : Int)) : Int) := by
  induction m with
  | zero => simp [aheadG]
  | succ m ih =>
    rw [aheadG_succ, ih, List.range_succ, List.countP_append, List.countP_singleton]
    have : aheadB c w k m = befI c w (m : Int) (k : Int) := by simp [aheadB, befI, remI, remG]
    rw [this]
    split <;> simp
theorem splitG_eq (c : Int) (w : List Int) (hl : 0 ≤ leftL c (partG c w) w.length ∧ leftL c (partG c w) w.length ≤ w.length) : splitG c w = rngL (splitE c w) w.length := by
  have hF : fillL (fun j => (j : Int)) w.length w.length = (List.range w.length).map (fun j : Nat => (j : Int)) := by
    unfold fillL
    exact List.map_congr_left fun j hj => by rw [if_pos (List.mem_range.1 hj)]
  have hperm : (orderG c w).Perm ((List.range w.length).map (fun j : Nat => (j : Int))) := by rw [← hF]; exact isort_perm _ _
  have hpw : (orderG c w).Pairwise (fun a b => befI c w a b = true) := by
    unfold orderG
    rw [hF]
    refine isort_pairwise _ _ (fun a b d h1 h2 => ?_) _ ?_
    · rw [befI_iff] at h1 h2 ⊢; omega
    · rw [List.pairwise_map]
      refine List.pairwise_lt_range.imp (fun {a b} hab => ?_)
      rw [befI_iff, befI_iff]
      have : cmpG c w (b : Int) (a : Int) = remI c w a - remI c w b := rfl
      rw [this]
      constructor <;> intro _ <;> omega
  have hnd : (orderG c w).Nodup := hperm.nodup_iff.2 (by
    rw [List.nodup_iff_pairwise_ne, List.pairwise_map]
    exact List.pairwise_lt_range.imp (fun {a b} hab => by omega))
  have hmem : ∀ j ∈ (orderG c w).take (leftL c (partG c w) w.length).toNat, 0 ≤ j ∧ j.toNat < (fillL (partG c w) w.length w.length).length := fun j hj => by
    have := hperm.mem_iff.1 (List.mem_of_mem_take hj)
    simp only [List.mem_map, List.mem_range] at this
    obtain ⟨i, hi, rfl⟩ := this
    rw [fillL_length]; omega
  obtain ⟨g1, g2⟩ := incL_get _ (hnd.sublist (List.take_sublist _ _)) _ hmem
  rw [fillL_length] at g1 g2
  apply List.ext_getElem
  · rw [rngL_length]; exact g1
  · intro k h1 h2
    have hk : k < w.length := by rw [rngL_length] at h2; exact h2
    have e1 : (splitG c w)[k] = (splitG c w).getD k 0 := by rw [List.getD_eq_getElem?_getD]; simp [h1]
    rw [e1]
    unfold splitG
    rw [g2 k hk]
    have e2 : (fillL (partG c w) w.length w.length).getD k 0 = partG c w k := by
      rw [List.getD_eq_getElem?_getD]; simp [fillL, hk]
    have e3 : (rngL (splitE c w) w.length)[k] = splitE c w k := by simp [rngL]
    rw [e2, e3, splitE]
    congr 1
    have hkm : (k : Int) ∈ orderG c w := hperm.mem_iff.2 (by simp only [List.mem_map, List.mem_range]; exact ⟨k, hk, rfl⟩)
    have hpos := mem_take_of_pairwise (befI c w) (fun a => by simp [befI]) (fun a b h => by
      cases hq : befI c w b a with
      | false => rfl
      | true => rw [befI_iff] at h hq; omega) hpw hkm (leftL c (partG c w) w.length).toNat
    have hc : (orderG c w).countP (fun a => befI c w a (k : Int)) = (List.range w.length).countP (fun j : Nat => befI c w (j : Int) (k : Int)) := by
      rw [hperm.countP_eq, List.countP_map]; rfl
    have ha := aheadG_count c w k w.length
    rw [hc] at hpos
    by_cases q : aheadG c w k w.length < leftL c (partG c w) w.length
    · rw [if_pos q, if_pos (hpos.2 (by omega))]
    · rw [if_neg q, if_neg (fun h => q (by have := hpos.1 h; omega))]
end Go.Proofs.Ytnkdlkgannnfhaa
set_option maxRecDepth 20000
namespace Go.Proofs.Ytnkdlkgannnfhaa
open Go Go.Eng
theorem eq_of_getD {α : Type} {l m : List α} (d : α) (hl : l.length = m.length) (h : ∀ j, j < l.length → l.getD j d = m.getD j d) : l = m := by
  refine List.ext_getElem hl (fun i h1 h2 => ?_)
  have := h i h1
  rwa [List.getD_eq_getElem?_getD, List.getD_eq_getElem?_getD, List.getElem?_eq_getElem h1, List.getElem?_eq_getElem h2] at this
theorem all_step {p : Nat → Prop} {i : Nat} (h : ∀ j, j < i → p j) (h1 : p i) : ∀ j, j < i + 1 → p j := fun j hj => by
  rcases Nat.lt_or_ge j i with q | q
  · exact h j q
  · have : j = i := by omega
    subst this; exact h1
theorem pair_eq {a b : Pair} : a = b ↔ a.1 = b.1 ∧ a.2 = b.2 := by cases a; cases b; simp
-- slices.Equal of shares
theorem splitF_31 : splitF 3 [1, 1] = 0 := by decide +kernel
theorem splitG_31 : splitG 3 [1, 1] = [2, 1] := by decide +kernel
-- marked
/-- What the shares' maker gives. -/
def shOk (l : List Pair) (k : Nat) : Prop := l.length ≤ k ∧ ∀ p ∈ l, p.1.length ≤ 8
theorem shOk_snoc {l : List Pair} {k : Nat} {x : Pair} (h : shOk l k) (hx : x.1.length ≤ 8) : shOk (l ++ [x]) (k + 1) := by
  refine ⟨by rw [List.length_append]; simpa using h.1, fun p hp => ?_⟩
  rcases List.mem_append.1 hp with q | q
  · exact h.2 p q
  · simp at q; subst q; exact hx
theorem shOk_mono {l : List Pair} {k m : Nat} (h : shOk l k) (hk : k ≤ m) : shOk l m := ⟨by have := h.1; omega, h.2⟩
def keysL : List (List UInt8) := [[], [104, 49], [104, 50], [104, 51]]
-- Shares
end Go.Proofs.Ytnkdlkgannnfhaa
set_option maxRecDepth 20000
namespace Go.Proofs.Ytnkdlkgannnfhaa
open Go Go.Eng
structure Gate where
  key : List UInt8
  area : List UInt8
  clock : Int
def gF : Gate → List DV := fun g => [.str g.key, .str g.area, .int .i64 g.clock]
def g0 : Gate := ⟨[], [], 0⟩
abbrev gates (l : List Gate) : DV := seqD 3 gF g0 l
structure Pas where
  tm : Int
  gate : List UInt8
  plate : List UInt8
  cents : Int
def paF : Pas → List DV := fun p => [.int .i64 p.tm, .str p.gate, .str p.plate, .int .i64 p.cents]
def pa0 : Pas := ⟨0, [], [], 0⟩
abbrev pass (l : List Pas) : DV := seqD 4 paF pa0 l
def tollE (a b c : Int) : Int := if (0 ≤ a ∧ a ≤ 1440) ∧ (-1 ≤ b ∧ b ≤ 1000000) ∧ (0 ≤ c ∧ c ≤ 1000000) then 0 else 1
-- toll.CheckRules
-- Q.TollFault
def gateE (l : List Gate) (i : Nat) : Int :=
  if isKeyB (l.getD i g0).key = false ∨ isKeyB (l.getD i g0).area = false then 5 else if 0 < i ∧ strLe (l.getD i g0).key (l.getD (i - 1) g0).key = true then 7 else if ¬ (-1440 ≤ (l.getD i g0).clock ∧ (l.getD i g0).clock ≤ 1440) then 1 else 0
def gatesE (l : List Gate) : Int := if 200 < l.length then 2 else firstAt (gateE l) l.length
def gOk (l : List Gate) : Prop := l.length ≤ 2^40 ∧ ∀ g ∈ l, g.key.length ≤ 2^40 ∧ g.area.length ≤ 2^40
-- toll.CheckGates
def plCh (c : UInt8) : Bool := (decide (65 ≤ c.toNat) && decide (c.toNat ≤ 90)) || (decide (48 ≤ c.toNat) && decide (c.toNat ≤ 57))
def isPlateB (s : List UInt8) : Bool := s.all plCh && decide (2 ≤ s.length) && decide (s.length ≤ 10)
-- word.IsPlate
theorem s185 (s : List UInt8) (hl : s.length ≤ 2^40) : FSpec Try.prog 41 [.d (.str s)] [] (fun x r => x = .d (.bool (isPlateB s)) ∧ r = []) := by
  refine spec_of hT (C := []) Try.func41 rfl Try.call41 rfl rfl rfl ?_
  conv => whnf
  refine LoopX.rule hT (C := []) (ι := Nat) (fun i => i ≤ s.length ∧ ∀ j, j < i → plCh (s.getD j 0) = true) (fun i => mkSt [(0, .d (.str s)), (6, .d (.int .i64 s.length)), (7, .d (.int .i64 i))] []) (fun i => s.length - i) 0 ⟨by omega, by omega⟩ (by refine Entails.mk' [] rfl rfl ?_ ?_ <;> repeat' (first | exact True.intro | exact SV.le_refl _ | exact Res.le_refl _ | exact SV.le_int (by omega) | exact SV.le_any _ | refine And.intro ?_ ?_)) ?_
  rintro i ⟨p1, p2⟩
  have e1 : (i : Int).toNat = i := Int.toNat_natCast i
  have hbad : i < s.length → plCh (s.getD i 0) = false → isPlateB s = false := fun hi h => by
    have : s.all plCh = false := by
      rw [List.all_eq_false]; exact ⟨s.getD i 0, getD_mem hi, by rw [h]; simp⟩
    simp only [isPlateB, this, Bool.false_and]
  have hall : i = s.length → s.all plCh = true := fun hi => by
    rw [List.all_eq_true]; intro c hc
    obtain ⟨j, hj, rfl⟩ := mem_getD (d := 0) hc
    exact p2 j (by omega)
  conv => whnf
  repeat' (first
    | (refine br_intro (fun hb => ?_) (fun hb => ?_) <;> (try simp only [decide_eq_true_eq, decide_eq_false_iff_not, Bool.not_eq_true', Bool.not_eq_false', Bool.and_eq_true, Bool.or_eq_true, beq_iff_eq, not_and, Int.not_le, Int.not_lt, Int.toNat_natCast, beq_eq_false_iff_ne, ne_eq, eq_self, not_true_eq_false, not_false_eq_true] at hb) <;> (conv => whnf))
    | omega
    | (refine And.intro ?_ ?_; ((try dsimp only); first | omega | (refine ⟨by omega, by omega, Int.le_trans (Int.mul_le_mul_of_nonneg_right (Int.ofNat_le.2 (Nat.le_of_ble_eq_true (rfl : Nat.ble _ 1024 = true))) (by omega)) (by omega), by omega⟩) | (refine Nat.le_trans (Nat.mul_le_mul_left _ (Nat.le_of_ble_eq_true (rfl : Nat.ble _ 1024 = true))) ?_; omega) | (unfold inI64; omega) | (constructor <;> omega) | (simp only [inI64, List.length_cons, List.length_append, List.length_nil, List.length_set] at *; omega) | decide | (unfold inI64; decide)); conv => whnf)
    | omega | decide | assumption)
  all_goals first
    | (refine ⟨i + 1, ⟨by omega, all_step p2 (by clear p2 hbad hall; simp only [e1] at *; simp only [plCh]; grind)⟩, by omega, (by refine Entails.mk' [] rfl rfl ?_ ?_ <;> repeat' (first | exact True.intro | exact SV.le_refl _ | exact Res.le_refl _ | exact SV.le_int (by omega) | exact SV.le_any _ | refine And.intro ?_ ?_))⟩)
    | (refine .ret _ ?_
       conv => whnf
       refine ⟨[], ⟨?_, rfl⟩, trivial⟩
       conv => lhs; whnf
       congr 2
       first
         | (rw [hbad (by omega) (by clear p2 hbad hall; simp only [e1] at *; simp only [plCh]; grind)])
         | (unfold isPlateB; rw [hall (by omega)]; clear p2 hbad hall; grind))
def cmpI (a b : Int) : Int := if a < b then -1 else if b < a then 1 else 0
def cmpS (a b : List UInt8) : Int := if Op.bytesLess a b = true then -1 else if Op.bytesLess b a = true then 1 else 0
-- cmp.Compare
theorem s210 (a : Int) : FSpec Try.prog 77 [.d (.int .i64 a)] [] (fun x r => x = .d (.bool false) ∧ r = []) := by
  refine spec_of hT (C := []) Try.func77 rfl Try.call77 rfl rfl rfl ?_
  conv => whnf
  refine .ret _ ?_
  conv => whnf
  refine ⟨[], ⟨?_, rfl⟩, trivial⟩
  conv => lhs; whnf
  simp
theorem s211 (a : List UInt8) : FSpec Try.prog 72 [.d (.str a)] [] (fun x r => x = .d (.bool false) ∧ r = []) := by
  refine spec_of hT (C := []) Try.func72 rfl Try.call72 rfl rfl rfl ?_
  conv => whnf
  refine .ret _ ?_
  conv => whnf
  refine ⟨[], ⟨?_, rfl⟩, trivial⟩
  conv => lhs; whnf
  simp
theorem s183 (a b : Int) : FSpec Try.prog 71 [.d (.int .i64 a), .d (.int .i64 b)] [] (fun x r => x = .d (.int .i64 (cmpI a b)) ∧ r = []) := by
  refine spec_of hT (C := []) Try.func71 rfl Try.call71 rfl rfl rfl ?_
  conv => whnf
  repeat' (first
    | (refine CallX.exact (s210 _) rfl rfl ?_; rotate_right; conv => whnf)
    | (refine br_intro (fun hb => ?_) (fun hb => ?_) <;> (try simp only [decide_eq_true_eq, decide_eq_false_iff_not, Bool.not_eq_true', Bool.not_eq_false', Bool.and_eq_true, Bool.or_eq_true, beq_iff_eq, not_and, Int.not_le, Int.not_lt, Int.toNat_natCast, beq_eq_false_iff_ne, ne_eq, eq_self, not_true_eq_false, not_false_eq_true] at hb) <;> (conv => whnf))
    | omega
    | (refine And.intro ?_ ?_; ((try dsimp only); first | omega | (refine ⟨by omega, by omega, Int.le_trans (Int.mul_le_mul_of_nonneg_right (Int.ofNat_le.2 (Nat.le_of_ble_eq_true (rfl : Nat.ble _ 1024 = true))) (by omega)) (by omega), by omega⟩) | (refine Nat.le_trans (Nat.mul_le_mul_left _ (Nat.le_of_ble_eq_true (rfl : Nat.ble _ 1024 = true))) ?_; omega) | (unfold inI64; omega) | (constructor <;> omega) | (simp only [inI64, List.length_cons, List.length_append, List.length_nil, List.length_set] at *; omega) | decide | (unfold inI64; decide)); conv => whnf)
    | omega | decide | assumption)
  all_goals
    refine .ret _ ?_
    conv => whnf
    refine ⟨[], ⟨?_, rfl⟩, trivial⟩
    conv => lhs; whnf
    congr 2; unfold cmpI; grind
theorem less_tri : ∀ (a b : List UInt8), Op.bytesLess a b = false → a ≠ b → Op.bytesLess b a = true := by
  intro a
  induction a with
  | nil => intro b h hn; cases b with
    | nil => exact absurd rfl hn
    | cons y ys => simp [Op.bytesLess] at h
  | cons x xs ih =>
    intro b h hn
    cases b with
    | nil => simp [Op.bytesLess]
    | cons y ys =>
      simp only [Op.bytesLess] at h ⊢
      grind
theorem s184 (a b : List UInt8) : FSpec Try.prog 54 [.d (.str a), .d (.str b)] [] (fun x r => x = .d (.int .i64 (cmpS a b)) ∧ r = []) := by
  refine spec_of hT (C := []) Try.func54 rfl Try.call54 rfl rfl rfl ?_
  conv => whnf
  repeat' (first
    | (refine CallX.exact (s211 _) rfl rfl ?_; rotate_right; conv => whnf)
    | (refine br_intro (fun hb => ?_) (fun hb => ?_) <;> (try simp only [decide_eq_true_eq, decide_eq_false_iff_not, Bool.not_eq_true', Bool.not_eq_false', Bool.and_eq_true, Bool.or_eq_true, beq_iff_eq, not_and, Int.not_le, Int.not_lt, Int.toNat_natCast, beq_eq_false_iff_ne, ne_eq, eq_self, not_true_eq_false, not_false_eq_true] at hb) <;> (conv => whnf))
    | omega
    | (refine And.intro ?_ ?_; ((try dsimp only); first | omega | (refine ⟨by omega, by omega, Int.le_trans (Int.mul_le_mul_of_nonneg_right (Int.ofNat_le.2 (Nat.le_of_ble_eq_true (rfl : Nat.ble _ 1024 = true))) (by omega)) (by omega), by omega⟩) | (refine Nat.le_trans (Nat.mul_le_mul_left _ (Nat.le_of_ble_eq_true (rfl : Nat.ble _ 1024 = true))) ?_; omega) | (unfold inI64; omega) | (constructor <;> omega) | (simp only [inI64, List.length_cons, List.length_append, List.length_nil, List.length_set] at *; omega) | decide | (unfold inI64; decide)); conv => whnf)
    | omega | decide | assumption)
  all_goals
    refine .ret _ ?_
    conv => whnf
    refine ⟨[], ⟨?_, rfl⟩, trivial⟩
    conv => lhs; whnf
    congr 2; unfold cmpS; grind [less_tri]
-- cmp.Or of numbers
theorem s182 (l : List Int) (hl : l.length ≤ 2^40) : FSpec Try.prog 52 [.d (ints l)] [] (fun x r => x = .d (.int .i64 (firstE l)) ∧ r = []) := by
  refine spec_of hT (C := []) Try.func52 rfl Try.call52 rfl rfl rfl ?_
  conv => whnf
  refine LoopX.rule hT (C := []) (ι := Nat) (fun i => i ≤ l.length ∧ firstE l = firstE (l.drop i)) (fun i => mkSt [(3, .d (.int .i64 0)), (6, .d (ints l)), (7, .d (.int .i64 l.length)), (8, .d (.int .i64 i))] []) (fun i => l.length - i) 0 ⟨by omega, by simp⟩ (by refine Entails.mk' [] rfl rfl ?_ ?_ <;> repeat' (first | exact True.intro | exact SV.le_refl _ | exact Res.le_refl _ | exact SV.le_int (by omega) | exact SV.le_any _ | refine And.intro ?_ ?_)) ?_
  rintro i ⟨p1, p2⟩
  have hd : i < l.length → l.drop i = l.getD i 0 :: l.drop (i + 1) := fun hi => by rw [List.drop_eq_getElem_cons hi, List.getD_eq_getElem?_getD, List.getElem?_eq_getElem hi]; rfl
  conv => whnf
  repeat' (first
    | (refine br_intro (fun hb => ?_) (fun hb => ?_) <;> (try simp only [decide_eq_true_eq, decide_eq_false_iff_not, Bool.not_eq_true', Bool.not_eq_false', Bool.and_eq_true, Bool.or_eq_true, beq_iff_eq, not_and, Int.not_le, Int.not_lt, Int.toNat_natCast, beq_eq_false_iff_ne, ne_eq, eq_self, not_true_eq_false, not_false_eq_true] at hb) <;> (conv => whnf))
    | omega
    | (refine And.intro ?_ ?_; ((try dsimp only); first | omega | (refine ⟨by omega, by omega, Int.le_trans (Int.mul_le_mul_of_nonneg_right (Int.ofNat_le.2 (Nat.le_of_ble_eq_true (rfl : Nat.ble _ 1024 = true))) (by omega)) (by omega), by omega⟩) | (refine Nat.le_trans (Nat.mul_le_mul_left _ (Nat.le_of_ble_eq_true (rfl : Nat.ble _ 1024 = true))) ?_; omega) | (unfold inI64; omega) | (constructor <;> omega) | (simp only [inI64, List.length_cons, List.length_append, List.length_nil, List.length_set] at *; omega) | decide | (unfold inI64; decide)); conv => whnf)
    | omega | decide | assumption)
  · refine .ret _ ?_
    conv => whnf
    refine ⟨[], ⟨?_, rfl⟩, trivial⟩
    conv => lhs; whnf
    congr 2; rw [p2, hd (by omega), firstE, if_neg hb, Int.toNat_natCast]
  · exact ⟨i + 1, ⟨by omega, by rw [p2, hd (by omega), firstE, if_pos hb]⟩, by omega, (by refine Entails.mk' [] rfl rfl ?_ ?_ <;> repeat' (first | exact True.intro | exact SV.le_refl _ | exact Res.le_refl _ | exact SV.le_int (by omega) | exact SV.le_any _ | refine And.intro ?_ ?_))⟩
  · refine .ret _ ?_
    conv => whnf
    refine ⟨[], ⟨?_, rfl⟩, trivial⟩
    conv => lhs; whnf
    congr 2; rw [p2, List.drop_eq_nil_iff.2 (by omega)]; rfl
def pasCmp (a b : Pas) : Int := firstE [cmpI a.tm b.tm, cmpS a.gate b.gate, cmpS a.plate b.plate]
-- toll.order
end Go.Proofs.Ytnkdlkgannnfhaa
set_option maxRecDepth 20000
namespace Go.Proofs.Ytnkdlkgannnfhaa
open Go Go.Eng
/-- The first place at which something holds, or -1. -/
def ixF (p : Nat → Bool) : Nat → Int
  | 0 => -1
  | n + 1 => if ixF p n = -1 then (if p n = true then n else -1) else ixF p n
theorem ixF_none {p : Nat → Bool} : ∀ {n : Nat}, (∀ j, j < n → p j = false) → ixF p n = -1 := by
  intro n
  induction n with
  | zero => intro _; rfl
  | succ n ih => intro h; rw [ixF, if_pos (ih fun j hj => h j (by omega)), h n (by omega)]; rfl
theorem ixF_hit {p : Nat → Bool} {n i : Nat} (hi : i < n) (h : ∀ j, j < i → p j = false) (h1 : p i = true) : ixF p n = i := by
  induction n with
  | zero => omega
  | succ n ih =>
    rw [ixF]
    by_cases q : i < n
    · rw [ih q, if_neg (by omega)]
    · have : i = n := by omega
      subst this
      rw [if_pos (ixF_none h), if_pos h1]
theorem ixF_bd {p : Nat → Bool} : ∀ {n : Nat}, -1 ≤ ixF p n ∧ ixF p n < n ∧ (0 ≤ ixF p n → p (ixF p n).toNat = true) := by
  intro n
  induction n with
  | zero => simp [ixF]
  | succ n ih =>
    rw [ixF]
    split
    · split
      · rename_i h; exact ⟨by omega, by omega, fun _ => by simpa using h⟩
      · exact ⟨by omega, by omega, fun h => by omega⟩
    · exact ⟨ih.1, by omega, ih.2.2⟩
def gateIx (l : List Gate) (key : List UInt8) : Int := ixF (fun i => (l.getD i g0).key == key) l.length
def kcell (key : List UInt8) : Res := .cells 9 [.d (.str key)]
-- toll.gateAt
-- word.IsMoment
theorem s154 (n : Int) : FSpec Try.prog 42 [.d (.int .i64 n)] [] (fun x r => x = .d (.bool (decide (0 ≤ n ∧ n ≤ 5761439))) ∧ r = []) := by
  refine spec_of hT (C := []) Try.func42 rfl Try.call42 rfl rfl rfl ?_
  conv => whnf
  repeat' (first
    | (refine CallX.exact (s119 _ _ _) rfl rfl ?_; rotate_right; conv => whnf)
    | (refine br_intro (fun hb => ?_) (fun hb => ?_) <;> (try simp only [decide_eq_true_eq, decide_eq_false_iff_not, Bool.not_eq_true', Bool.not_eq_false', Bool.and_eq_true, Bool.or_eq_true, beq_iff_eq, not_and, Int.not_le, Int.not_lt, Int.toNat_natCast, beq_eq_false_iff_ne, ne_eq, eq_self, not_true_eq_false, not_false_eq_true] at hb) <;> (conv => whnf))
    | omega
    | (refine And.intro ?_ ?_; ((try dsimp only); first | omega | (refine ⟨by omega, by omega, Int.le_trans (Int.mul_le_mul_of_nonneg_right (Int.ofNat_le.2 (Nat.le_of_ble_eq_true (rfl : Nat.ble _ 1024 = true))) (by omega)) (by omega), by omega⟩) | (refine Nat.le_trans (Nat.mul_le_mul_left _ (Nat.le_of_ble_eq_true (rfl : Nat.ble _ 1024 = true))) ?_; omega) | (unfold inI64; omega) | (constructor <;> omega) | (simp only [inI64, List.length_cons, List.length_append, List.length_nil, List.length_set] at *; omega) | decide | (unfold inI64; decide)); conv => whnf)
    | omega | decide | assumption)
  refine .ret _ ?_
  conv => whnf
  refine ⟨[], ⟨?_, rfl⟩, trivial⟩
  conv => lhs; whnf
def trueT (l : List Gate) (p : Pas) : Int := p.tm - (l.getD (gateIx l p.gate).toNat g0).clock
-- toll.trueTime
def pasE (l : List Pas) (i : Nat) : Int :=
  if ¬ (0 ≤ (l.getD i pa0).tm ∧ (l.getD i pa0).tm ≤ 5761439) then 1 else if isKeyB (l.getD i pa0).gate = false then 5 else if isPlateB (l.getD i pa0).plate = false then 3
  else if ¬ (0 ≤ (l.getD i pa0).cents ∧ (l.getD i pa0).cents ≤ 1000000) then 1 else if 0 < i ∧ 0 ≤ pasCmp (l.getD (i - 1) pa0) (l.getD i pa0) then 7 else 0
def formE (l : List Pas) : Int := if 1000 < l.length then 2 else firstAt (pasE l) l.length
def pOk (l : List Pas) : Prop := l.length ≤ 2^40 ∧ ∀ p ∈ l, p.gate.length ≤ 2^40 ∧ p.plate.length ≤ 2^40
-- toll.formed
end Go.Proofs.Ytnkdlkgannnfhaa
set_option maxRecDepth 20000
namespace Go.Proofs.Ytnkdlkgannnfhaa
open Go Go.Eng
def onG (g : List Gate) (l : List Pas) (i : Nat) : Int :=
  if gateIx g (l.getD i pa0).gate < 0 then 8 else if ¬ (0 ≤ trueT g (l.getD i pa0) ∧ trueT g (l.getD i pa0) ≤ 5761439) then 16 else 0
def chkE (g : List Gate) (l : List Pas) : Int := if gatesE g ≠ 0 then gatesE g else if formE l ≠ 0 then formE l else firstAt (onG g l) l.length
theorem gates_zero {l : List Gate} (h : gatesE l = 0) : l.length ≤ 200 ∧ ∀ g ∈ l, -1440 ≤ g.clock ∧ g.clock ≤ 1440 := by
  unfold gatesE at h
  split at h
  · omega
  · refine ⟨by omega, fun x hx => ?_⟩
    obtain ⟨j, hj, rfl⟩ := mem_getD (d := g0) hx
    have := firstAt_all h j hj
    unfold gateE at this
    grind
theorem form_zero {l : List Pas} (h : formE l = 0) : l.length ≤ 1000 ∧ ∀ p ∈ l, 0 ≤ p.tm ∧ p.tm ≤ 5761439 := by
  unfold formE at h
  split at h
  · omega
  · refine ⟨by omega, fun x hx => ?_⟩
    obtain ⟨j, hj, rfl⟩ := mem_getD (d := pa0) hx
    have := firstAt_all h j hj
    unfold pasE at this
    grind
-- toll.Check
/- Doubles. -/
abbrev Seen := List UInt8 × List UInt8
def dblOf (D : Int) (m : Seen → Option Int) (p : Pas) : Bool :=
  match m (p.plate, p.gate) with
  | some t => decide (p.tm - t < D)
  | none => false
def dblM (D : Int) (l : List Pas) : Nat → Seen → Option Int
  | 0 => fun _ => none
  | i + 1 => if dblOf D (dblM D l i) (l.getD i pa0) = true then dblM D l i else fun q => if q = ((l.getD i pa0).plate, (l.getD i pa0).gate) then some (l.getD i pa0).tm else dblM D l i q
def dblB (D : Int) (l : List Pas) (i : Nat) : Bool := dblOf D (dblM D l i) (l.getD i pa0)
def fillA {α : Type} (d : α) (f : Nat → α) (n i : Nat) : List α := (List.range n).map fun j => if j < i then f j else d
theorem fillA_length {α : Type} {d : α} {f : Nat → α} {n i : Nat} : (fillA d f n i).length = n := by simp [fillA]
theorem fillA_set {α : Type} {d : α} {f : Nat → α} {n i : Nat} {x : α} (hx : x = f i) : (fillA d f n i).set i x = fillA d f n (i + 1) := by
  subst hx
  refine List.ext_getElem (by simp [fillA]) (fun j h1 h2 => ?_)
  simp only [fillA, List.getElem_set, List.getElem_map, List.getElem_range]
  by_cases h : i = j
  · subst h; simp
  · rw [if_neg h]
    by_cases h3 : j < i
    · rw [if_pos h3, if_pos (by omega)]
    · rw [if_neg h3, if_neg (by omega)]
theorem fillA_set' {α : Type} {d : α} {f : Nat → α} {n i : Nat} {x : α} (hx : x = f i) : (fillA d f n i).set (i : Int).toNat x = fillA d f n (i + 1) := by
  rw [Int.toNat_natCast]; exact fillA_set hx
theorem dblB_eq {D : Int} {l : List Pas} {i : Nat} : dblB D l i = ((dblM D l i ((l.getD i pa0).plate, (l.getD i pa0).gate)).isSome && decide ((l.getD i pa0).tm - (dblM D l i ((l.getD i pa0).plate, (l.getD i pa0).gate)).getD 0 < D)) := by
  unfold dblB dblOf
  cases dblM D l i ((l.getD i pa0).plate, (l.getD i pa0).gate) <;> simp
def bF : Bool → List DV := fun b => [.bool b]
def mHas (m : Seen → Option Int) : List DV → Bool
  | [.str a, .str b] => (m (a, b)).isSome
  | _ => false
def mVal (m : Seen → Option Int) : List DV → List DV
  | [.str a, .str b] => [.int .i64 ((m (a, b)).getD 0)]
  | _ => [.int .i64 0]
theorem wk_ss {key : List DV} (h : wk [.str, .str] key = true) : ∃ a b, key = [.str a, .str b] := by
  cases key with
  | nil => simp [wk] at h
  | cons x xs =>
    cases xs with
    | nil => simp [wk] at h
    | cons y ys =>
      cases ys with
      | cons z zs => simp [wk] at h
      | nil =>
        simp [wk] at h
        cases x <;> simp [wk1] at h
        cases y <;> simp [wk1] at h
        exact ⟨_, _, rfl⟩
abbrev seenR (m : Seen → Option Int) : Res := .map true false [.str, .str] [.int .i64 0] (mHas m) (mVal m)
theorem dblM_bd {D : Int} {l : List Pas} (h : ∀ p ∈ l, 0 ≤ p.tm ∧ p.tm ≤ 5761439) : ∀ i, i ≤ l.length → ∀ q t, dblM D l i q = some t → 0 ≤ t ∧ t ≤ 5761439 := by
  intro i
  induction i with
  | zero => intro _ q t hq; cases hq
  | succ i ih =>
    intro hi q t hq
    rw [dblM] at hq
    split at hq
    · exact ih (by omega) q t hq
    · dsimp only at hq
      split at hq
      · cases hq; exact h _ (getD_mem (by omega))
      · exact ih (by omega) q t hq
-- toll.doubles
end Go.Proofs.Ytnkdlkgannnfhaa
set_option maxRecDepth 20000
namespace Go.Proofs.Ytnkdlkgannnfhaa
open Go Go.Eng
def dblIx (D : Int) (l : List Pas) (n : Nat) : List Int := ((List.range n).filter (dblB D l)).map fun (j : Nat) => (j : Int)
theorem dblIx_succ {D : Int} {l : List Pas} {n : Nat} : dblIx D l (n + 1) = dblIx D l n ++ (if dblB D l n = true then [(n : Int)] else []) := by
  unfold dblIx
  rw [List.range_succ, List.filter_append, List.map_append]
  congr 1
  cases h : dblB D l n <;> simp [h]
theorem dblIx_len {D : Int} {l : List Pas} {n : Nat} : (dblIx D l n).length ≤ n := by
  unfold dblIx; rw [List.length_map]; exact Nat.le_trans (List.length_filter_le _ _) (by simp)
def dblsE (D C F : Int) (g : List Gate) (l : List Pas) : Int := firstE [tollE D C F, chkE g l]
theorem chk_zero {g : List Gate} {l : List Pas} (h : chkE g l = 0) : (g.length ≤ 200 ∧ ∀ x ∈ g, -1440 ≤ x.clock ∧ x.clock ≤ 1440) ∧ l.length ≤ 1000 ∧ ∀ p ∈ l, 0 ≤ p.tm ∧ p.tm ≤ 5761439 := by
  unfold chkE at h
  split at h
  · omega
  · split at h
    · omega
    · exact ⟨gates_zero (by omega), form_zero (by omega)⟩
theorem fillA_get {α : Type} {d : α} {f : Nat → α} {n j : Nat} (h : j < n) : (fillA d f n n).getD j d = f j := by
  rw [List.getD_eq_getElem?_getD]; simp [fillA, h]
-- toll.Doubles
def tolP : List Pas := [⟨1, [103], [65, 65], 0⟩, ⟨2, [103], [65, 65], 0⟩]
def tolG : List Gate := [⟨[103], [97], 0⟩]
theorem tol_zero : dblsE 5 0 0 tolG tolP = 0 := by decide +kernel
theorem tol_ix : dblIx 5 tolP tolP.length = [1] := by decide +kernel
-- tolled
end Go.Proofs.Ytnkdlkgannnfhaa
set_option maxRecDepth 20000
namespace Go.Proofs.Ytnkdlkgannnfhaa
open Go Go.Eng
structure Chg where
  hire : List UInt8
  vehicle : List UInt8
  pas : Int
  cents : Int
def chF : Chg → List DV := fun c => [.str c.hire, .str c.vehicle, .int .i64 c.pas, .int .i64 c.cents]
def ch0 : Chg := ⟨[], [], 0, 0⟩
abbrev chgs (l : List Chg) : DV := seqD 4 chF ch0 l
structure Lin where
  kind : Int
  key : List UInt8
  cents : Int
deriving DecidableEq
def liF : Lin → List DV := fun c => [.int .i64 c.kind, .str c.key, .int .i64 c.cents]
def li0 : Lin := ⟨0, [], 0⟩
abbrev lins (l : List Lin) : DV := seqD 3 liF li0 l
def chgE (l : List Chg) (i : Nat) : Int :=
  if ((l.getD i ch0).hire ≠ [] ∧ isKeyB (l.getD i ch0).hire = false) ∨ ((l.getD i ch0).vehicle ≠ [] ∧ isKeyB (l.getD i ch0).vehicle = false) then 5 else if (l.getD i ch0).pas < 0 then 1
  else if 0 < i ∧ (l.getD i ch0).pas ≤ (l.getD (i - 1) ch0).pas then 7 else if ¬ (0 ≤ (l.getD i ch0).cents ∧ (l.getD i ch0).cents ≤ 1000000) then 1 else 0
def chgsE (l : List Chg) : Int := if 1000 < l.length then 2 else firstAt (chgE l) l.length
def cOk (l : List Chg) : Prop := l.length ≤ 2^40 ∧ ∀ c ∈ l, c.hire.length ≤ 2^40 ∧ c.vehicle.length ≤ 2^40
-- toll.checkCharges
-- Q.ChargesFault
theorem chgs_zero {l : List Chg} (h : chgsE l = 0) : l.length ≤ 1000 ∧ ∀ c ∈ l, 0 ≤ c.cents ∧ c.cents ≤ 1000000 := by
  unfold chgsE at h
  split at h
  · omega
  · refine ⟨by omega, fun x hx => ?_⟩
    obtain ⟨j, hj, rfl⟩ := mem_getD (d := ch0) hx
    have := firstAt_all h j hj
    unfold chgE at this
    grind
def chSum (l : List Chg) (hire : List UInt8) : Int := (l.map fun c => if c.hire = hire then c.cents else 0).sum
theorem chSum_snoc {l : List Chg} {hire : List UInt8} {i : Nat} (h : i < l.length) : chSum (l.take (i + 1)) hire = chSum (l.take i) hire + if (l.getD i ch0).hire = hire then (l.getD i ch0).cents else 0 := by
  rw [take_snocD (d := ch0) h]; simp [chSum]
theorem chSum_bd {l : List Chg} {hire : List UInt8} (hl : ∀ c ∈ l, 0 ≤ c.cents ∧ c.cents ≤ 1000000) : 0 ≤ chSum l hire ∧ chSum l hire ≤ 1000000 * l.length := by
  induction l with
  | nil => simp [chSum]
  | cons x l ih =>
    have h1 := hl x List.mem_cons_self
    have h2 := ih (fun y hy => hl y (List.mem_cons_of_mem _ hy))
    simp only [chSum, List.map_cons, List.sum_cons, List.length_cons] at h2 ⊢
    rw [show ((l.length + 1 : Nat) : Int) = (l.length : Int) + 1 by push_cast; rfl, Int.mul_add, Int.mul_one]
    split <;> omega
def linesL (sum fee : Int) : List Lin := if 0 < sum then ⟨6, [116, 111, 108, 108], sum⟩ :: (if 0 < fee then [⟨6, [116, 111, 108, 108, 102, 101, 101], fee⟩] else []) else []
def feeE (D C F : Int) (l : List Chg) (hire : List UInt8) : Int := firstE [tollE D C F, chgsE l, if isKeyB hire = true then 0 else 5]
-- toll.Lines
-- Q.TollLines
end Go.Proofs.Ytnkdlkgannnfhaa
set_option maxRecDepth 20000
namespace Go.Proofs.Ytnkdlkgannnfhaa
open Go Go.Eng
theorem lin_eq {a b : Lin} : a = b ↔ a.kind = b.kind ∧ a.key = b.key ∧ a.cents = b.cents := by cases a; cases b; simp
-- slices.Equal of lines
-- when
-- errs
-- TollRules
def chOk (l : List Chg) (k : Nat) : Prop := l.length ≤ k ∧ ∀ c ∈ l, c.hire.length ≤ 8 ∧ c.vehicle.length ≤ 8
theorem chOk_snoc {l : List Chg} {k : Nat} {x : Chg} (h : chOk l k) (hx : x.hire.length ≤ 8 ∧ x.vehicle.length ≤ 8) : chOk (l ++ [x]) (k + 1) := by
  refine ⟨by rw [List.length_append]; simpa using h.1, fun p hp => ?_⟩
  rcases List.mem_append.1 hp with q | q
  · exact h.2 p q
  · simp at q; subst q; exact hx
theorem mem_len {l : List (List UInt8)} {u : List UInt8} (h : u ∈ l) (q : l.all (fun x => decide (x.length ≤ 8)) = true) : u.length ≤ 8 := by
  have := List.all_eq_true.1 q u h
  exact of_decide_eq_true this
theorem chOk_put {l : List Chg} {k m : Nat} {i : Nat} {x : Chg} (h : chOk l k) (hm : k ≤ m) (hx : x.hire.length ≤ 8 ∧ x.vehicle.length ≤ 8) : chOk (l.set i x) m := by
  refine ⟨by have := h.1; rw [List.length_set]; omega, fun p hp => ?_⟩
  rcases List.mem_or_eq_of_mem_set hp with q | q
  · exact h.2 p q
  · subst q; exact hx
-- Charges
end Go.Proofs.Ytnkdlkgannnfhaa
set_option maxRecDepth 20000
namespace Go.Proofs.Ytnkdlkgannnfhaa
open Go Go.Eng
-- Moment
def plateL : List UInt8 := [65, 66, 67, 68, 69, 70, 71, 72, 73, 74, 75, 76, 77, 78, 79, 80, 81, 82, 83, 84, 85, 86, 87, 88, 89, 90, 48, 49, 50, 51, 52, 53, 54, 55, 56, 57]
theorem plate_iff (c : UInt8) : plateL.contains c = plCh c := by
  have := u8_all (p := fun c => plateL.contains c == plCh c) (by decide +kernel) c
  simpa using this
theorem plate_eq (s : List UInt8) : isPlateB s = (decide (2 ≤ (s.length : Int) ∧ (s.length : Int) ≤ 10) && onlyB s plateL) := by
  have : s.all plCh = onlyB s plateL := by
    unfold onlyB; congr 1; funext c; exact (plate_iff c).symm
  unfold isPlateB; rw [this]
  cases onlyB s plateL
  · simp
  · rw [Bool.eq_iff_iff]; simp; omega
-- PlateForm
-- sign
def cmpL : List (List UInt8) → List (List UInt8) → Int
  | [], [] => 0
  | [], _ :: _ => -1
  | _ :: _, [] => 1
  | x :: xs, y :: ys => if cmpS x y ≠ 0 then cmpS x y else cmpL xs ys
-- slices.Compare of strings
theorem order_eq (a b : Pas) : pasCmp a b = if a.tm ≠ b.tm then cmpI (a.tm - b.tm) 0 else cmpL [a.gate, a.plate] [b.gate, b.plate] := by
  unfold pasCmp cmpI
  simp only [firstE, cmpL]
  grind
-- PassageOrder
theorem isKey_nil : isKeyB [] = false := by decide
theorem less_nil (a : List UInt8) : Op.bytesLess a [] = false := by cases a <;> rfl
-- GatesFault
-- PassageForm
def gateP (l : List Gate) (p : Pas) : Gate := if gateIx l p.gate < 0 then g0 else l.getD (gateIx l p.gate).toNat g0
-- gateOf
theorem gateP_true {g : List Gate} {p : Pas} (h : 0 ≤ gateIx g p.gate) : trueT g p = p.tm - (gateP g p).clock := by
  unfold trueT gateP; rw [if_neg (by omega)]
-- TrueOf
-- PassagesFault
end Go.Proofs.Ytnkdlkgannnfhaa
set_option maxRecDepth 20000
namespace Go.Proofs.Ytnkdlkgannnfhaa
open Go Go.Eng
theorem Res.le_put2 {α : Type} {f : α → List DV} {d : α} {l : List α} {x y : α} {e k j1 j2 : Nat} {ds1 ds2 : List DV} (h1 : ∀ z, setAtD (f z) 0 ds1 = f x) (h2 : ∀ z, setAtD (f z) 0 ds2 = f y) :
    Res.le (.buf e k l.length fun i => bif Nat.beq i j2 then setAtD (bif Nat.beq i j1 then setAtD (rowF f d l i) 0 ds1 else rowF f d l i) 0 ds2 else bif Nat.beq i j1 then setAtD (rowF f d l i) 0 ds1 else rowF f d l i) (seqB e k f d ((l.set j1 x).set j2 y)) := by
  refine Res.le_buf (by simp) (fun k hk => ?_)
  have e1 := rows_putG (f := f) (d := d) (l := l) (x := x) (j := j1) (off := 0) (ds := ds1) (get := rowF f d l) (fun _ _ => rfl) (fun z _ => h1 z)
  have e2 := rows_putG (f := f) (d := d) (l := l.set j1 x) (x := y) (j := j2) (off := 0) (ds := ds2) (get := fun i => bif Nat.beq i j1 then setAtD (rowF f d l i) 0 ds1 else rowF f d l i) (fun k hk => e1 k (by simpa using hk)) (fun z _ => h2 z)
  exact e2 k (by simpa using hk)
def gSh (l : List Gate) : Prop := l.length = 3 ∧ ∀ g ∈ l, g.key.length ≤ 8 ∧ g.area.length ≤ 8
theorem mem_len' {l : List (List UInt8)} {u : List UInt8} (h : u ∈ l) (q : l.all (fun x => decide (x.length ≤ 8)) = true) : u.length ≤ 8 := mem_len h q
def gLit (u1 u2 : Int) : List Gate := [⟨[103, 49], [99, 105, 116, 121], u1⟩, ⟨[103, 50], [99, 105, 116, 121], 0⟩, ⟨[103, 51], [114, 105, 110, 103], u2⟩]
theorem gLit_sh (u1 u2 : Int) : gSh (gLit u1 u2) := ⟨rfl, by intro g hg; simp [gLit] at hg; rcases hg with rfl | rfl | rfl <;> simp⟩
theorem gSh_set {l : List Gate} {j : Nat} {x : Gate} (h : gSh l) (h1 : x.key.length ≤ 8) (h2 : x.area.length ≤ 8) : gSh (l.set j x) :=
  ⟨by rw [List.length_set]; exact h.1, fun y hy => by rcases List.mem_or_eq_of_mem_set hy with q | q; exact h.2 y q; subst q; exact ⟨h1, h2⟩⟩
theorem gLit_rows (u1 u2 : Int) : ∀ i, i < (gLit u1 u2).length → [[DV.str [103, 49], .str [99, 105, 116, 121], .int .i64 u1], [.str [103, 50], .str [99, 105, 116, 121], .int .i64 0], [.str [103, 51], .str [114, 105, 110, 103], .int .i64 u2]].getD i [] = rowF gF g0 (gLit u1 u2) i := rows_lit rfl
-- Gates
def sameP (l c : List Pas) : Prop := c.length = l.length ∧ ∀ x ∈ c, x ∈ l
theorem sameP_set {l c : List Pas} {j : Nat} {x : Pas} (h : sameP l c) (hx : x ∈ l) : sameP l (c.set j x) :=
  ⟨by rw [List.length_set]; exact h.1, fun y hy => by rcases List.mem_or_eq_of_mem_set hy with q | q; exact h.2 y q; subst q; exact hx⟩
-- insertion sort of passages: the same elements
-- stable sort of at most twenty passages
-- passages alike
def subP (l c : List Pas) : Prop := c.length ≤ l.length ∧ ∀ x ∈ c, x ∈ l
-- slices.CompactFunc of passages
end Go.Proofs.Ytnkdlkgannnfhaa
set_option maxRecDepth 20000
namespace Go.Proofs.Ytnkdlkgannnfhaa
open Go Go.Eng
def pOk1 (p : Pas) : Prop := p.gate.length ≤ 8 ∧ p.plate.length ≤ 8 ∧ (-2^40 ≤ p.tm ∧ p.tm ≤ 2^40) ∧ -2^40 ≤ p.cents ∧ p.cents ≤ 2^40
def pSh (l : List Pas) (k : Nat) : Prop := l.length ≤ k ∧ ∀ p ∈ l, pOk1 p
theorem pSh_snoc {l : List Pas} {k : Nat} {x : Pas} (h : pSh l k) (hx : pOk1 x) : pSh (l ++ [x]) (k + 1) := by
  refine ⟨by rw [List.length_append]; simpa using h.1, fun p hp => ?_⟩
  rcases List.mem_append.1 hp with q | q
  · exact h.2 p q
  · simp at q; subst q; exact hx
theorem pSh_put {l : List Pas} {k m : Nat} {i : Nat} {x : Pas} (h : pSh l k) (hm : k ≤ m) (hx : i < l.length → pOk1 x) : pSh (l.set i x) m := by
  refine ⟨by have := h.1; rw [List.length_set]; omega, fun p hp => ?_⟩
  by_cases hi : i < l.length
  · rcases List.mem_or_eq_of_mem_set hp with q | q
    · exact h.2 p q
    · subst q; exact hx hi
  · rw [List.set_eq_of_length_le (by omega)] at hp; exact h.2 p hp
theorem mem_bd {l : List Int} {u : Int} (h : u ∈ l) (q : l.all (fun x => decide (-2^40 ≤ x ∧ x ≤ 2^40)) = true) : -2^40 ≤ u ∧ u ≤ 2^40 := by
  have := List.all_eq_true.1 q u h
  exact of_decide_eq_true this
theorem SV.le_upd {α : Type} {f : α → List DV} {d : α} {l : List α} {k j off : Nat} {ds : List DV} (g : α → α) (hg : ∀ y, setAtD (f y) off ds = f (g y)) :
    SV.le (.d (.ro k l.length fun i => bif Nat.beq i j then setAtD (rowF f d l i) off ds else rowF f d l i)) (.d (seqD k f d (l.set j (g (l.getD j d))))) :=
  SV.le_putF fun y hy => by rw [hg, List.getD_eq_getElem?_getD, hy]; rfl
-- Passages
end Go.Proofs.Ytnkdlkgannnfhaa
namespace Go.Proofs
open Go.Shelf
def Try.lays181_ren : Go.Shelf.Ren := ⟨fun | 4 => 181 | n => n, fun | 22 => 108 | 25 => 140 | 3 => 3 | 4 => 4 | 9 => 9 | 20 => 20 | 0 => 0 | n => n, fun | n => n⟩
end Go.Proofs

set_option maxRecDepth 20000
namespace Go.Proofs.Ytnkdlkgannnfhaa
open Go Go.Eng Go.RowKit
-- slices.Grow of passages, from nil
end Go.Proofs.Ytnkdlkgannnfhaa
set_option maxRecDepth 20000
namespace Go.Proofs.Ytnkdlkgannnfhaa
open Go Go.Eng
theorem Res.le_appF {α : Type} {f : α → List DV} {d : α} {l m : List α} {e k : Nat} : Res.le (.buf e k (l.length + m.length) (appGet l.length (rowF f d l) (rowF f d m))) (seqB e k f d (l ++ m)) := by
  refine Res.le_buf (by simp) (fun i hi => ?_)
  by_cases h : i < l.length
  · rw [appGet_lt h]; simp only [rowF]; rw [List.getD_eq_getElem?_getD, List.getD_eq_getElem?_getD, List.getElem?_append_left h]
  · rw [appGet_ge (by omega)]; simp only [rowF]; rw [List.getD_eq_getElem?_getD, List.getD_eq_getElem?_getD, List.getElem?_append_right (by omega)]
def psF : List Pas → List DV := fun l => [pass l]
abbrev passs (l : List (List Pas)) : DV := seqD 1 psF [] l
def lens (l : List (List Pas)) : Nat := (l.map List.length).sum
theorem lens_take {l : List (List Pas)} {i : Nat} (h : i < l.length) : lens (l.take (i + 1)) = lens (l.take i) + (l.getD i []).length := by
  unfold lens; rw [take_snocD (d := []) h]; simp
theorem lens_le {l : List (List Pas)} {i : Nat} : lens (l.take i) ≤ lens l := by
  have h := congrArg lens (List.take_append_drop i l)
  have h2 : lens (l.take i ++ l.drop i) = lens (l.take i) + lens (l.drop i) := by unfold lens; rw [List.map_append, List.sum_append]
  omega
theorem flat_len (l : List (List Pas)) : l.flatten.length = lens l := by
  unfold lens; rw [List.length_flatten]
-- slices.Concat of passages
end Go.Proofs.Ytnkdlkgannnfhaa
set_option maxRecDepth 20000
namespace Go.Proofs.Ytnkdlkgannnfhaa
open Go Go.Eng
theorem swap_mid {A B : List Pas} {x y : Pas} {D b : List Pas} {j : Nat} (hb : (y :: A).reverse ++ [x] ++ B ++ D = b) (hj : j = A.length + 1) :
    b.getD j pa0 = x ∧ b.getD (j - 1) pa0 = y ∧ (b.set j y).set (j - 1) x = A.reverse ++ [x] ++ (y :: B) ++ D := by
  subst hj
  refine ⟨?_, ?_, ?_⟩
  · rw [← hb, show (y :: A).reverse ++ [x] ++ B ++ D = (y :: A).reverse ++ x :: (B ++ D) by simp]
    exact getD_mid _ _ _ _ (by simp)
  · rw [← hb, show (y :: A).reverse ++ [x] ++ B ++ D = A.reverse ++ y :: ([x] ++ B ++ D) by simp]
    exact getD_mid _ _ _ _ (by simp)
  · rw [← hb]
    have := swap_lemma A.reverse (B ++ D) x y
    simp only [List.length_reverse] at this
    simp only [List.reverse_cons, List.append_assoc, List.singleton_append, List.cons_append, List.nil_append, Nat.add_sub_cancel] at this ⊢
    exact this
-- insertion sort of passages, in full
-- stable sort of at most twenty passages
end Go.Proofs.Ytnkdlkgannnfhaa
set_option maxRecDepth 20000
namespace Go.Proofs.Ytnkdlkgannnfhaa
open Go Go.Eng
theorem pas_eq {a b : Pas} : a = b ↔ a.tm = b.tm ∧ a.gate = b.gate ∧ a.plate = b.plate ∧ a.cents = b.cents := by cases a; cases b; simp
instance : DecidableEq Pas := fun _ _ => decidable_of_iff _ pas_eq.symm
-- slices.Equal of passages
-- toll.True
end Go.Proofs.Ytnkdlkgannnfhaa
set_option maxRecDepth 20000
namespace Go.Proofs.Ytnkdlkgannnfhaa
open Go Go.Eng
/-- What is left of the first elements when neighbours alike are one. -/
def cptN (l : List Pas) : Nat → List Pas
  | 0 => []
  | i + 1 => cptN l i ++ if 0 < i ∧ l.getD i pa0 = l.getD (i - 1) pa0 then [] else [l.getD i pa0]
theorem cptN_len (l : List Pas) : ∀ i, (cptN l i).length ≤ i := by
  intro i
  induction i with
  | zero => simp [cptN]
  | succ i ih => rw [cptN, List.length_append]; split <;> simp <;> omega
-- slices.Compact of passages
end Go.Proofs.Ytnkdlkgannnfhaa
set_option maxRecDepth 20000
namespace Go.Proofs.Ytnkdlkgannnfhaa
open Go Go.Eng
def nbE (l : List Pas) (i : Nat) : Int := if 0 < i ∧ pasCmp (l.getD (i - 1) pa0) (l.getD i pa0) = 0 then 13 else 0
def mrgL (a b : List Pas) : List Pas := cptN (isort pasCmp (a ++ b)) (isort pasCmp (a ++ b)).length
def mrgE (a b : List Pas) : Int := if firstAt (nbE (mrgL a b)) (mrgL a b).length ≠ 0 then 13 else if 1000 < (mrgL a b).length then 2 else 0
theorem isort_mem {l : List Pas} {x : Pas} : x ∈ isort pasCmp l ↔ x ∈ l := by unfold isort; rw [List.mem_reverse, isortR_mem]
theorem isort_len {l : List Pas} : (isort pasCmp l).length = l.length := by unfold isort; rw [List.length_reverse, isortR_length]
theorem cptN_mem {l : List Pas} {x : Pas} : ∀ {i : Nat}, i ≤ l.length → x ∈ cptN l i → x ∈ l := by
  intro i
  induction i with
  | zero => intro _ h; simp [cptN] at h
  | succ i ih =>
    intro hi h
    rw [cptN] at h
    rcases List.mem_append.1 h with q | q
    · exact ih (by omega) q
    · split at q
      · simp at q
      · simp at q; subst q; exact getD_mem (by omega)
theorem mrg_mem {a b : List Pas} {x : Pas} (h : x ∈ mrgL a b) : x ∈ a ∨ x ∈ b := by
  have := cptN_mem (Nat.le_refl _) h
  rw [isort_mem] at this
  exact List.mem_append.1 this
theorem mrg_len (a b : List Pas) : (mrgL a b).length ≤ a.length + b.length := by
  have := cptN_len (isort pasCmp (a ++ b)) (isort pasCmp (a ++ b)).length
  rw [isort_len, List.length_append] at this
  unfold mrgL; rw [isort_len, List.length_append]; exact this
-- Q.PassagesOf
end Go.Proofs.Ytnkdlkgannnfhaa
set_option maxRecDepth 20000
namespace Go.Proofs.Ytnkdlkgannnfhaa
open Go Go.Eng
def mergeE (g : List Gate) (a b : List Pas) : Int := if firstE [chkE g a, chkE g b] ≠ 0 then firstE [chkE g a, chkE g b] else mrgE a b
theorem nb_zero (l : List Pas) : ∀ j, j < 1 → nbE l j = 0 := fun j hj => by
  have : j = 0 := by omega
  subst this; rfl
-- toll.Merge
end Go.Proofs.Ytnkdlkgannnfhaa
set_option maxRecDepth 20000
namespace Go.Proofs.Ytnkdlkgannnfhaa
open Go Go.Eng
structure Slt where
  day : Int
  many : Int
def slF : Slt → List DV := fun s => [.int .i64 s.day, .int .i64 s.many]
def sl0 : Slt := ⟨0, 0⟩
abbrev slts (l : List Slt) : DV := seqD 2 slF sl0 l
structure Wnt where
  v : List UInt8
  fr : Int
  to : Int
def wnF : Wnt → List DV := fun s => [.str s.v, .int .i64 s.fr, .int .i64 s.to]
def wn0 : Wnt := ⟨[], 0, 0⟩
abbrev wnts (l : List Wnt) : DV := seqD 3 wnF wn0 l
structure Plc where
  v : List UInt8
  day : Int
def plF : Plc → List DV := fun s => [.str s.v, .int .i64 s.day]
def pl0 : Plc := ⟨[], 0⟩
abbrev plcs (l : List Plc) : DV := seqD 2 plF pl0 l
structure Bsy where
  v : List UInt8
  fr : Int
  to : Int
  cents : Int
def bsF : Bsy → List DV := fun s => [.str s.v, .int .i64 s.fr, .int .i64 s.to, .int .i64 s.cents]
def bs0 : Bsy := ⟨[], 0, 0, 0⟩
abbrev bsys (l : List Bsy) : DV := seqD 4 bsF bs0 l
def sltE (l : List Slt) (i : Nat) : Int :=
  let x := l.getD i sl0
  if ¬ ((0 ≤ x.day ∧ x.day ≤ 4000) ∧ (0 ≤ x.many ∧ x.many ≤ 20)) then 1 else if 0 < i ∧ x.day ≤ (l.getD (i - 1) sl0).day then 7 else 0
def sltsE (l : List Slt) : Int := if 12 < l.length then 2 else firstAt (sltE l) l.length
def wntE (l : List Wnt) (i : Nat) : Int :=
  let x := l.getD i wn0
  if isKeyB x.v = false then 5 else if 0 < i ∧ strLe x.v (l.getD (i - 1) wn0).v = true then 7 else if ¬ ((0 ≤ x.fr ∧ x.fr ≤ x.to) ∧ x.to ≤ 4001) then 1 else 0
def wntsE (l : List Wnt) : Int := if 6 < l.length then 2 else firstAt (wntE l) l.length
def plcE (l : List Plc) (i : Nat) : Int :=
  let x := l.getD i pl0
  if isKeyB x.v = false then 5 else if 0 < i ∧ strLe x.v (l.getD (i - 1) pl0).v = true then 7 else if ¬ (0 ≤ x.day ∧ x.day ≤ 4000) then 1 else 0
def plcsE (l : List Plc) : Int := if 6 < l.length then 2 else firstAt (plcE l) l.length
def bsyE (l : List Bsy) (i : Nat) : Int :=
  let x := l.getD i bs0
  if isKeyB x.v = false then 5 else if ¬ (((0 ≤ x.fr ∧ x.fr ≤ x.to) ∧ x.to ≤ 4001) ∧ (0 ≤ x.cents ∧ x.cents ≤ 1000000)) then 1 else 0
def bsysE (l : List Bsy) : Int := if 200 < l.length then 2 else firstAt (bsyE l) l.length
def sltIx (l : List Slt) (day : Int) : Int := ixF (fun i => decide ((l.getD i sl0).day = day)) l.length
/-- How many of the first n are placed on a day. -/
def cntD (l : List Plc) (day : Int) : Nat → Int
  | 0 => 0
  | n + 1 => cntD l day n + (if (l.getD n pl0).day = day then 1 else 0)
theorem cntD_bd (l : List Plc) (day : Int) : ∀ n, 0 ≤ cntD l day n ∧ cntD l day n ≤ n := by
  intro n
  induction n with
  | zero => simp [cntD]
  | succ n ih => rw [cntD]; split <;> omega
def namesB (w : List Wnt) (l : List Plc) : Prop := w.length = l.length ∧ ∀ i, i < w.length → (w.getD i wn0).v = (l.getD i pl0).v
def setE (s : List Slt) (w : List Wnt) (l : List Plc) (i : Nat) : Int :=
  let p := l.getD i pl0
  if ¬ ((w.getD i wn0).fr ≤ p.day ∧ p.day < (w.getD i wn0).to) then 16 else if sltIx s p.day < 0 then 8 else 0
def roomE (s : List Slt) (l : List Plc) (k : Nat) : Int := if (s.getD k sl0).many < cntD l (s.getD k sl0).day l.length then 12 else 0
instance (w : List Wnt) (l : List Plc) : Decidable (namesB w l) := inferInstanceAs (Decidable (_ ∧ _))
def placedE (s : List Slt) (w : List Wnt) (l : List Plc) : Int :=
  if ¬ namesB w l then 3 else if firstAt (setE s w l) l.length ≠ 0 then firstAt (setE s w l) l.length else firstAt (roomE s l) s.length
def placeE (s : List Slt) (w : List Wnt) (l : List Plc) : Int :=
  if sltsE s ≠ 0 then sltsE s else if wntsE w ≠ 0 then wntsE w else if plcsE l ≠ 0 then plcsE l else placedE s w l
theorem slts_inc {s : List Slt} (h : sltsE s = 0) : ∀ {j i : Nat}, i < j → j < s.length → (s.getD i sl0).day < (s.getD j sl0).day := by
  unfold sltsE at h
  split at h
  · cases h
  intro j
  induction j with
  | zero => intro i h; omega
  | succ j ih =>
    intro i hi hj
    have := firstAt_all h (j + 1) hj
    unfold sltE at this
    simp only at this
    by_cases q : i = j
    · subst q; grind
    · have := ih (i := i) (by omega) (by omega); grind
theorem slts_bd {s : List Slt} (h : sltsE s = 0) : s.length ≤ 12 ∧ ∀ x ∈ s, (0 ≤ x.day ∧ x.day ≤ 4000) ∧ (0 ≤ x.many ∧ x.many ≤ 20) := by
  unfold sltsE at h
  split at h
  · cases h
  refine ⟨by omega, fun x hx => ?_⟩
  obtain ⟨i, hi, rfl⟩ := List.getElem_of_mem hx
  have := firstAt_all h i hi
  unfold sltE at this
  simp only [List.getD_eq_getElem?_getD, List.getElem?_eq_getElem hi, Option.getD_some] at this
  grind
theorem sltIx_hit {s : List Slt} (h : sltsE s = 0) {day : Int} {k : Nat} (h0 : 0 ≤ sltIx s day) (hk : k < s.length) : (s.getD k sl0).day = day ↔ k = (sltIx s day).toNat := by
  have hb := ixF_bd (p := fun i => decide ((s.getD i sl0).day = day)) (n := s.length)
  change -1 ≤ sltIx s day ∧ sltIx s day < s.length ∧ (0 ≤ sltIx s day → decide ((s.getD (sltIx s day).toNat sl0).day = day) = true) at hb
  have h1 := of_decide_eq_true (hb.2.2 h0)
  constructor
  · intro e
    rcases Nat.lt_trichotomy k (sltIx s day).toNat with q | q | q
    · have := slts_inc h q (by omega); omega
    · exact q
    · have := slts_inc h q hk; omega
  · rintro rfl; exact h1
def sumN (f : Nat → Int) : Nat → Int
  | 0 => 0
  | n + 1 => sumN f n + f n
theorem sumN_add (f g : Nat → Int) : ∀ n, sumN (fun i => f i + g i) n = sumN f n + sumN g n := by
  intro n
  induction n with
  | zero => rfl
  | succ n ih => simp only [sumN, ih]; omega
theorem sumN_zero : ∀ n, sumN (fun _ => 0) n = 0 := by
  intro n
  induction n with
  | zero => rfl
  | succ n ih => simp only [sumN, ih]; omega
theorem sumN_swap (f : Nat → Nat → Int) (m : Nat) : ∀ n, sumN (fun i => sumN (fun j => f i j) m) n = sumN (fun j => sumN (fun i => f i j) n) m := by
  intro n
  induction n with
  | zero => simp only [sumN]; exact (sumN_zero m).symm
  | succ n ih => simp only [sumN, ih]; rw [← sumN_add]
theorem sumN_bd {f : Nat → Int} {c : Int} : ∀ {n : Nat}, (∀ i, i < n → 0 ≤ f i ∧ f i ≤ c) → 0 ≤ sumN f n ∧ sumN f n ≤ n * c := by
  intro n
  induction n with
  | zero => intro _; simp [sumN]
  | succ n ih =>
    intro h
    have h1 := ih fun i hi => h i (by omega)
    have h2 := h n (by omega)
    have e : ((n + 1 : Nat) : Int) * c = n * c + c := by rw [Int.natCast_succ, Int.add_mul, Int.one_mul]
    rw [sumN, e]; omega
def lostC (b : Bsy) (p : Plc) : Int := if b.v = p.v ∧ b.fr ≤ p.day ∧ p.day < b.to then b.cents else 0
def lostP (b : List Bsy) (p : Plc) : Int := sumN (fun i => lostC (b.getD i bs0) p) b.length
def lostA (b : List Bsy) (l : List Plc) : Int := sumN (fun j => lostP b (l.getD j pl0)) l.length
theorem lost_swap (b : List Bsy) (l : List Plc) : sumN (fun i => sumN (fun j => lostC (b.getD i bs0) (l.getD j pl0)) l.length) b.length = lostA b l := sumN_swap _ _ _
theorem bsys_bd {b : List Bsy} (h : bsysE b = 0) : b.length ≤ 200 ∧ ∀ i, i < b.length → 0 ≤ (b.getD i bs0).cents ∧ (b.getD i bs0).cents ≤ 1000000 := by
  unfold bsysE at h
  split at h
  · cases h
  refine ⟨by omega, fun i hi => ?_⟩
  have := firstAt_all h i hi
  unfold bsyE at this
  simp only at this
  grind
theorem lostC_bd {b : Bsy} {p : Plc} (h : 0 ≤ b.cents ∧ b.cents ≤ 1000000) : 0 ≤ lostC b p ∧ lostC b p ≤ 1000000 := by
  unfold lostC; split <;> omega
end Go.Proofs.Ytnkdlkgannnfhaa
set_option maxRecDepth 20000
namespace Go.Proofs.Ytnkdlkgannnfhaa
open Go Go.Eng
def slK (_ : Slt) : Prop := True
def slOk (l : List Slt) : Prop := l.length ≤ 2^40 ∧ ∀ x ∈ l, slK x
def wnK (x : Wnt) : Prop := x.v.length ≤ 2^40
def wnOk (l : List Wnt) : Prop := l.length ≤ 2^40 ∧ ∀ x ∈ l, wnK x
def plK (x : Plc) : Prop := x.v.length ≤ 2^40
def plOk (l : List Plc) : Prop := l.length ≤ 2^40 ∧ ∀ x ∈ l, plK x
def bsK (x : Bsy) : Prop := x.v.length ≤ 2^40
def bsOk (l : List Bsy) : Prop := l.length ≤ 2^40 ∧ ∀ x ∈ l, bsK x
-- shift.span
theorem s178 (a b : Int) : FSpec Try.prog 56 [.d (.int .i64 a), .d (.int .i64 b)] [] (fun x r => x = .d (.bool (decide ((0 ≤ a ∧ a ≤ b) ∧ b ≤ 4001))) ∧ r = []) := by
  refine spec_of hT (C := []) Try.func56 rfl Try.call56 rfl rfl rfl ?_
  conv => whnf
  repeat' (first
    | (refine CallX.exact (s119 _ _ _) rfl rfl ?_; rotate_right; conv => whnf)
    | (refine br_intro (fun hb => ?_) (fun hb => ?_) <;> (try simp only [decide_eq_true_eq, decide_eq_false_iff_not, Bool.not_eq_true', Bool.not_eq_false', Bool.and_eq_true, Bool.or_eq_true, beq_iff_eq, not_and, Int.not_le, Int.not_lt, Int.toNat_natCast, beq_eq_false_iff_ne, ne_eq, eq_self, not_true_eq_false, not_false_eq_true] at hb) <;> (conv => whnf))
    | omega
    | (refine And.intro ?_ ?_; ((try dsimp only); first | omega | (refine ⟨by omega, by omega, Int.le_trans (Int.mul_le_mul_of_nonneg_right (Int.ofNat_le.2 (Nat.le_of_ble_eq_true (rfl : Nat.ble _ 1024 = true))) (by omega)) (by omega), by omega⟩) | (refine Nat.le_trans (Nat.mul_le_mul_left _ (Nat.le_of_ble_eq_true (rfl : Nat.ble _ 1024 = true))) ?_; omega) | (unfold inI64; omega) | (constructor <;> omega) | (simp only [inI64, List.length_cons, List.length_append, List.length_nil, List.length_set] at *; omega) | decide | (unfold inI64; decide)); conv => whnf)
    | omega | decide | assumption)
  all_goals
    refine .ret _ ?_
    conv => whnf
    refine ⟨[], ⟨?_, rfl⟩, trivial⟩
    conv => lhs; whnf
    congr 2
    first | grind | simp_all
-- shift.checkSlots
theorem s134 (l : List Slt) (hk : slOk l) : FSpec Try.prog 29 [.d (slts l)] [] (fun x r => x = .d (.int .i64 (sltsE l)) ∧ r = []) := by
  refine spec_of hT (C := []) Try.func29 rfl Try.call29 rfl rfl rfl ?_
  conv => whnf
  refine br_intro (fun h0 => ?_) (fun h0 => ?_)
  · simp at h0
    conv => whnf
    refine .ret _ ?_
    conv => whnf
    refine ⟨[], ⟨?_, rfl⟩, trivial⟩
    conv => lhs; whnf
    unfold sltsE; rw [if_pos (by omega)]
  simp at h0
  conv => whnf
  refine LoopX.rule hT (C := []) (ι := Nat) (fun i => i ≤ l.length ∧ ∀ j, j < i → sltE l j = 0) (fun i => mkSt [(0, .d (slts l)), (8, .d (slts l)), (9, .d (.int .i64 l.length)), (10, .d (.int .i64 i))] []) (fun i => l.length - i) 0 ⟨by omega, by omega⟩ (by refine Entails.mk' [] rfl rfl ?_ ?_ <;> repeat' (first | exact True.intro | exact SV.le_refl _ | exact Res.le_refl _ | exact SV.le_int (by omega) | exact SV.le_any _ | refine And.intro ?_ ?_)) ?_
  rintro i ⟨p1, p2⟩
  have hx : (i : Int) < l.length → slK (l.getD (i : Int).toNat sl0) := fun hi => hk.2 _ (getD_mem (by omega))
  have e1 : (i : Int).toNat = i := Int.toNat_natCast i
  have hbad : ∀ e : Int, i < l.length → e ≠ 0 → sltE l i = e → sltsE l = e := fun e h h1 h2 => by
    unfold sltsE; rw [if_neg (by omega)]
    exact firstAt_eq h p2 h1 h2
  conv => whnf
  repeat' (first
    | (refine CallX.exact (s119 _ _ _) rfl rfl ?_; rotate_right; conv => whnf)
    | (refine br_intro (fun hb => ?_) (fun hb => ?_) <;> (try simp only [decide_eq_true_eq, decide_eq_false_iff_not, Bool.not_eq_true', Bool.not_eq_false', Bool.and_eq_true, Bool.or_eq_true, beq_iff_eq, not_and, Int.not_le, Int.not_lt, Int.toNat_natCast, beq_eq_false_iff_ne, ne_eq, eq_self, not_true_eq_false, not_false_eq_true] at hb) <;> (conv => whnf))
    | (refine RegX.rule (id := 8) hT rfl [] [(0, []), (1, []), (2, []), (3, []), (4, []), (5, [3, 4]), (6, [3, 4, 5]), (7, [3, 4, 5]), (8, [3, 4]), (9, [3, 4]), (10, [3, 4]), (11, []), (12, []), (13, [])] (by decide +kernel) ?_; conv => whnf)
    | omega
    | (refine And.intro ?_ ?_; ((try dsimp only); first | omega | (refine ⟨by omega, by omega, Int.le_trans (Int.mul_le_mul_of_nonneg_right (Int.ofNat_le.2 (Nat.le_of_ble_eq_true (rfl : Nat.ble _ 1024 = true))) (by omega)) (by omega), by omega⟩) | (refine Nat.le_trans (Nat.mul_le_mul_left _ (Nat.le_of_ble_eq_true (rfl : Nat.ble _ 1024 = true))) ?_; omega) | (unfold inI64; omega) | (constructor <;> omega) | (simp only [inI64, List.length_cons, List.length_append, List.length_nil, List.length_set] at *; omega) | decide | (unfold inI64; decide)); conv => whnf)
    | omega | decide | assumption)
  all_goals first
    | (refine ⟨i + 1, ⟨by omega, first_step p2 (by clear p2 hbad hk hx; simp only [e1, toNat_pred] at *; unfold sltE ; grind)⟩, by omega, (by refine Entails.mk' [] rfl rfl ?_ ?_ <;> repeat' (first | exact True.intro | exact SV.le_refl _ | exact Res.le_refl _ | exact SV.le_int (by omega) | exact SV.le_any _ | refine And.intro ?_ ?_))⟩)
    | (refine .ret _ ?_
       conv => whnf
       refine ⟨[], ⟨?_, rfl⟩, trivial⟩
       conv => lhs; whnf
       congr 2
       first
         | exact (hbad _ (by omega) (by decide) (by clear p2 hbad hk hx; simp only [e1, toNat_pred] at *; unfold sltE ; grind)).symm
         | (have : i = l.length := by omega
            subst this
            unfold sltsE; rw [if_neg (by omega), firstAt_zero p2]))
-- SlotsFault
-- shift.checkWanted
theorem s135 (l : List Wnt) (hk : wnOk l) : FSpec Try.prog 30 [.d (wnts l)] [] (fun x r => x = .d (.int .i64 (wntsE l)) ∧ r = []) := by
  refine spec_of hT (C := []) Try.func30 rfl Try.call30 rfl rfl rfl ?_
  conv => whnf
  refine br_intro (fun h0 => ?_) (fun h0 => ?_)
  · simp at h0
    conv => whnf
    refine .ret _ ?_
    conv => whnf
    refine ⟨[], ⟨?_, rfl⟩, trivial⟩
    conv => lhs; whnf
    unfold wntsE; rw [if_pos (by omega)]
  simp at h0
  conv => whnf
  refine LoopX.rule hT (C := []) (ι := Nat) (fun i => i ≤ l.length ∧ ∀ j, j < i → wntE l j = 0) (fun i => mkSt [(0, .d (wnts l)), (8, .d (wnts l)), (9, .d (.int .i64 l.length)), (10, .d (.int .i64 i))] []) (fun i => l.length - i) 0 ⟨by omega, by omega⟩ (by refine Entails.mk' [] rfl rfl ?_ ?_ <;> repeat' (first | exact True.intro | exact SV.le_refl _ | exact Res.le_refl _ | exact SV.le_int (by omega) | exact SV.le_any _ | refine And.intro ?_ ?_)) ?_
  rintro i ⟨p1, p2⟩
  have hx : (i : Int) < l.length → wnK (l.getD (i : Int).toNat wn0) := fun hi => hk.2 _ (getD_mem (by omega))
  have e1 : (i : Int).toNat = i := Int.toNat_natCast i
  have hbad : ∀ e : Int, i < l.length → e ≠ 0 → wntE l i = e → wntsE l = e := fun e h h1 h2 => by
    unfold wntsE; rw [if_neg (by omega)]
    exact firstAt_eq h p2 h1 h2
  conv => whnf
  repeat' (first
    | (refine CallX.exact (s108 _ (hx (by omega))) rfl rfl ?_; rotate_right; conv => whnf)
    | (refine CallX.exact (s178 _ _) rfl rfl ?_; rotate_right; conv => whnf)
    | (refine br_intro (fun hb => ?_) (fun hb => ?_) <;> (try simp only [decide_eq_true_eq, decide_eq_false_iff_not, Bool.not_eq_true', Bool.not_eq_false', Bool.and_eq_true, Bool.or_eq_true, beq_iff_eq, not_and, Int.not_le, Int.not_lt, Int.toNat_natCast, beq_eq_false_iff_ne, ne_eq, eq_self, not_true_eq_false, not_false_eq_true] at hb) <;> (conv => whnf))
    | (refine RegX.rule (id := 8) hT rfl [] [(0, []), (1, []), (2, []), (3, []), (4, []), (5, [3, 4]), (6, [3, 4, 5]), (7, [3, 4, 5]), (8, [3, 4]), (9, [3, 4]), (10, [3, 4]), (11, []), (12, []), (13, [])] (by decide +kernel) ?_; conv => whnf)
    | omega
    | (refine And.intro ?_ ?_; ((try dsimp only); first | omega | (refine ⟨by omega, by omega, Int.le_trans (Int.mul_le_mul_of_nonneg_right (Int.ofNat_le.2 (Nat.le_of_ble_eq_true (rfl : Nat.ble _ 1024 = true))) (by omega)) (by omega), by omega⟩) | (refine Nat.le_trans (Nat.mul_le_mul_left _ (Nat.le_of_ble_eq_true (rfl : Nat.ble _ 1024 = true))) ?_; omega) | (unfold inI64; omega) | (constructor <;> omega) | (simp only [inI64, List.length_cons, List.length_append, List.length_nil, List.length_set] at *; omega) | decide | (unfold inI64; decide)); conv => whnf)
    | omega | decide | assumption)
  all_goals first
    | (refine ⟨i + 1, ⟨by omega, first_step p2 (by clear p2 hbad hk hx; simp only [e1, toNat_pred] at *; unfold wntE strLe; grind)⟩, by omega, (by refine Entails.mk' [] rfl rfl ?_ ?_ <;> repeat' (first | exact True.intro | exact SV.le_refl _ | exact Res.le_refl _ | exact SV.le_int (by omega) | exact SV.le_any _ | refine And.intro ?_ ?_))⟩)
    | (refine .ret _ ?_
       conv => whnf
       refine ⟨[], ⟨?_, rfl⟩, trivial⟩
       conv => lhs; whnf
       congr 2
       first
         | exact (hbad _ (by omega) (by decide) (by clear p2 hbad hk hx; simp only [e1, toNat_pred] at *; unfold wntE strLe; grind)).symm
         | (have : i = l.length := by omega
            subst this
            unfold wntsE; rw [if_neg (by omega), firstAt_zero p2]))
-- WantedFault
-- shift.checkPlacedList
theorem s141 (l : List Plc) (hk : plOk l) : FSpec Try.prog 34 [.d (plcs l)] [] (fun x r => x = .d (.int .i64 (plcsE l)) ∧ r = []) := by
  refine spec_of hT (C := []) Try.func34 rfl Try.call34 rfl rfl rfl ?_
  conv => whnf
  refine br_intro (fun h0 => ?_) (fun h0 => ?_)
  · simp at h0
    conv => whnf
    refine .ret _ ?_
    conv => whnf
    refine ⟨[], ⟨?_, rfl⟩, trivial⟩
    conv => lhs; whnf
    unfold plcsE; rw [if_pos (by omega)]
  simp at h0
  conv => whnf
  refine LoopX.rule hT (C := []) (ι := Nat) (fun i => i ≤ l.length ∧ ∀ j, j < i → plcE l j = 0) (fun i => mkSt [(0, .d (plcs l)), (8, .d (plcs l)), (9, .d (.int .i64 l.length)), (10, .d (.int .i64 i))] []) (fun i => l.length - i) 0 ⟨by omega, by omega⟩ (by refine Entails.mk' [] rfl rfl ?_ ?_ <;> repeat' (first | exact True.intro | exact SV.le_refl _ | exact Res.le_refl _ | exact SV.le_int (by omega) | exact SV.le_any _ | refine And.intro ?_ ?_)) ?_
  rintro i ⟨p1, p2⟩
  have hx : (i : Int) < l.length → plK (l.getD (i : Int).toNat pl0) := fun hi => hk.2 _ (getD_mem (by omega))
  have e1 : (i : Int).toNat = i := Int.toNat_natCast i
  have hbad : ∀ e : Int, i < l.length → e ≠ 0 → plcE l i = e → plcsE l = e := fun e h h1 h2 => by
    unfold plcsE; rw [if_neg (by omega)]
    exact firstAt_eq h p2 h1 h2
  conv => whnf
  repeat' (first
    | (refine CallX.exact (s108 _ (hx (by omega))) rfl rfl ?_; rotate_right; conv => whnf)
    | (refine CallX.exact (s119 _ _ _) rfl rfl ?_; rotate_right; conv => whnf)
    | (refine br_intro (fun hb => ?_) (fun hb => ?_) <;> (try simp only [decide_eq_true_eq, decide_eq_false_iff_not, Bool.not_eq_true', Bool.not_eq_false', Bool.and_eq_true, Bool.or_eq_true, beq_iff_eq, not_and, Int.not_le, Int.not_lt, Int.toNat_natCast, beq_eq_false_iff_ne, ne_eq, eq_self, not_true_eq_false, not_false_eq_true] at hb) <;> (conv => whnf))
    | (refine RegX.rule (id := 8) hT rfl [] [(0, []), (1, []), (2, []), (3, []), (4, []), (5, [3, 4]), (6, [3, 4, 5]), (7, [3, 4, 5]), (8, [3, 4]), (9, [3, 4]), (10, [3, 4]), (11, []), (12, []), (13, [])] (by decide +kernel) ?_; conv => whnf)
    | omega
    | (refine And.intro ?_ ?_; ((try dsimp only); first | omega | (refine ⟨by omega, by omega, Int.le_trans (Int.mul_le_mul_of_nonneg_right (Int.ofNat_le.2 (Nat.le_of_ble_eq_true (rfl : Nat.ble _ 1024 = true))) (by omega)) (by omega), by omega⟩) | (refine Nat.le_trans (Nat.mul_le_mul_left _ (Nat.le_of_ble_eq_true (rfl : Nat.ble _ 1024 = true))) ?_; omega) | (unfold inI64; omega) | (constructor <;> omega) | (simp only [inI64, List.length_cons, List.length_append, List.length_nil, List.length_set] at *; omega) | decide | (unfold inI64; decide)); conv => whnf)
    | omega | decide | assumption)
  all_goals first
    | (refine ⟨i + 1, ⟨by omega, first_step p2 (by clear p2 hbad hk hx; simp only [e1, toNat_pred] at *; unfold plcE strLe; grind)⟩, by omega, (by refine Entails.mk' [] rfl rfl ?_ ?_ <;> repeat' (first | exact True.intro | exact SV.le_refl _ | exact Res.le_refl _ | exact SV.le_int (by omega) | exact SV.le_any _ | refine And.intro ?_ ?_))⟩)
    | (refine .ret _ ?_
       conv => whnf
       refine ⟨[], ⟨?_, rfl⟩, trivial⟩
       conv => lhs; whnf
       congr 2
       first
         | exact (hbad _ (by omega) (by decide) (by clear p2 hbad hk hx; simp only [e1, toNat_pred] at *; unfold plcE strLe; grind)).symm
         | (have : i = l.length := by omega
            subst this
            unfold plcsE; rw [if_neg (by omega), firstAt_zero p2]))
-- PlacedForm
-- shift.checkBusy
theorem s136 (l : List Bsy) (hk : bsOk l) : FSpec Try.prog 31 [.d (bsys l)] [] (fun x r => x = .d (.int .i64 (bsysE l)) ∧ r = []) := by
  refine spec_of hT (C := []) Try.func31 rfl Try.call31 rfl rfl rfl ?_
  conv => whnf
  refine br_intro (fun h0 => ?_) (fun h0 => ?_)
  · simp at h0
    conv => whnf
    refine .ret _ ?_
    conv => whnf
    refine ⟨[], ⟨?_, rfl⟩, trivial⟩
    conv => lhs; whnf
    unfold bsysE; rw [if_pos (by omega)]
  simp at h0
  conv => whnf
  refine LoopX.rule hT (C := []) (ι := Nat) (fun i => i ≤ l.length ∧ ∀ j, j < i → bsyE l j = 0) (fun i => mkSt [(8, .d (bsys l)), (9, .d (.int .i64 l.length)), (10, .d (.int .i64 i))] []) (fun i => l.length - i) 0 ⟨by omega, by omega⟩ (by refine Entails.mk' [] rfl rfl ?_ ?_ <;> repeat' (first | exact True.intro | exact SV.le_refl _ | exact Res.le_refl _ | exact SV.le_int (by omega) | exact SV.le_any _ | refine And.intro ?_ ?_)) ?_
  rintro i ⟨p1, p2⟩
  have hx : (i : Int) < l.length → bsK (l.getD (i : Int).toNat bs0) := fun hi => hk.2 _ (getD_mem (by omega))
  have e1 : (i : Int).toNat = i := Int.toNat_natCast i
  have hbad : ∀ e : Int, i < l.length → e ≠ 0 → bsyE l i = e → bsysE l = e := fun e h h1 h2 => by
    unfold bsysE; rw [if_neg (by omega)]
    exact firstAt_eq h p2 h1 h2
  conv => whnf
  repeat' (first
    | (refine CallX.exact (s108 _ (hx (by omega))) rfl rfl ?_; rotate_right; conv => whnf)
    | (refine CallX.exact (s178 _ _) rfl rfl ?_; rotate_right; conv => whnf)
    | (refine CallX.exact (s119 _ _ _) rfl rfl ?_; rotate_right; conv => whnf)
    | (refine br_intro (fun hb => ?_) (fun hb => ?_) <;> (try simp only [decide_eq_true_eq, decide_eq_false_iff_not, Bool.not_eq_true', Bool.not_eq_false', Bool.and_eq_true, Bool.or_eq_true, beq_iff_eq, not_and, Int.not_le, Int.not_lt, Int.toNat_natCast, beq_eq_false_iff_ne, ne_eq, eq_self, not_true_eq_false, not_false_eq_true] at hb) <;> (conv => whnf))
    | omega
    | (refine And.intro ?_ ?_; ((try dsimp only); first | omega | (refine ⟨by omega, by omega, Int.le_trans (Int.mul_le_mul_of_nonneg_right (Int.ofNat_le.2 (Nat.le_of_ble_eq_true (rfl : Nat.ble _ 1024 = true))) (by omega)) (by omega), by omega⟩) | (refine Nat.le_trans (Nat.mul_le_mul_left _ (Nat.le_of_ble_eq_true (rfl : Nat.ble _ 1024 = true))) ?_; omega) | (unfold inI64; omega) | (constructor <;> omega) | (simp only [inI64, List.length_cons, List.length_append, List.length_nil, List.length_set] at *; omega) | decide | (unfold inI64; decide)); conv => whnf)
    | omega | decide | assumption)
  all_goals first
    | (refine ⟨i + 1, ⟨by omega, first_step p2 (by clear p2 hbad hk hx; simp only [e1, toNat_pred] at *; unfold bsyE ; grind)⟩, by omega, (by refine Entails.mk' [] rfl rfl ?_ ?_ <;> repeat' (first | exact True.intro | exact SV.le_refl _ | exact Res.le_refl _ | exact SV.le_int (by omega) | exact SV.le_any _ | refine And.intro ?_ ?_))⟩)
    | (refine .ret _ ?_
       conv => whnf
       refine ⟨[], ⟨?_, rfl⟩, trivial⟩
       conv => lhs; whnf
       congr 2
       first
         | exact (hbad _ (by omega) (by decide) (by clear p2 hbad hk hx; simp only [e1, toNat_pred] at *; unfold bsyE ; grind)).symm
         | (have : i = l.length := by omega
            subst this
            unfold bsysE; rw [if_neg (by omega), firstAt_zero p2]))
-- BusyFault
end Go.Proofs.Ytnkdlkgannnfhaa
set_option maxRecDepth 20000
namespace Go.Proofs.Ytnkdlkgannnfhaa
open Go Go.Eng
theorem s143 (a : Wnt) (b : Plc) : FSpec Try.prog 36 [.agg ((wnF a).map .d), .agg ((plF b).map .d)] [] (fun x r => x = .d (.bool (a.v == b.v)) ∧ r = []) := by
  refine spec_of hT (C := []) Try.func36 rfl Try.call36 rfl rfl rfl ?_
  conv => whnf
  refine .ret _ ?_
  conv => whnf
  refine ⟨[], ⟨?_, rfl⟩, trivial⟩
  conv => lhs; whnf
-- slices.EqualFunc of wanted and placed ones
theorem s142 (g : FuncId) (w : List Wnt) (l : List Plc) (hw : w.length ≤ 2^40) (hg : ∀ a b, FSpec Try.prog g [.agg ((wnF a).map .d), .agg ((plF b).map .d)] [] (fun x r => x = .d (.bool (a.v == b.v)) ∧ r = [])) :
    FSpec Try.prog 35 [.d (wnts w), .d (plcs l), .fn g []] [] (fun x r => x = .d (.bool (decide (namesB w l))) ∧ r = []) := by
  refine spec_of hT (C := []) Try.func35 rfl Try.call35 rfl rfl rfl ?_
  conv => whnf
  repeat' (first
    | (refine br_intro (fun hb => ?_) (fun hb => ?_) <;> (try simp only [decide_eq_true_eq, decide_eq_false_iff_not, Bool.not_eq_true', Bool.not_eq_false', Bool.and_eq_true, Bool.or_eq_true, beq_iff_eq, not_and, Int.not_le, Int.not_lt, Int.toNat_natCast, beq_eq_false_iff_ne, ne_eq, eq_self, not_true_eq_false, not_false_eq_true] at hb) <;> (conv => whnf))
    | omega
    | (refine And.intro ?_ ?_; ((try dsimp only); first | omega | (refine ⟨by omega, by omega, Int.le_trans (Int.mul_le_mul_of_nonneg_right (Int.ofNat_le.2 (Nat.le_of_ble_eq_true (rfl : Nat.ble _ 1024 = true))) (by omega)) (by omega), by omega⟩) | (refine Nat.le_trans (Nat.mul_le_mul_left _ (Nat.le_of_ble_eq_true (rfl : Nat.ble _ 1024 = true))) ?_; omega) | (unfold inI64; omega) | (constructor <;> omega) | (simp only [inI64, List.length_cons, List.length_append, List.length_nil, List.length_set] at *; omega) | decide | (unfold inI64; decide)); conv => whnf)
    | omega | decide | assumption)
  · refine .ret _ ?_
    conv => whnf
    refine ⟨[], ⟨?_, rfl⟩, trivial⟩
    conv => lhs; whnf
    have : ¬ namesB w l := fun q => by have := q.1; omega
    simp [this]
  have hlen : w.length = l.length := by omega
  refine LoopX.rule hT (C := []) (ι := Nat) (fun i => i ≤ w.length ∧ ∀ j, j < i → (w.getD j wn0).v = (l.getD j pl0).v) (fun i => mkSt [(1, .d (plcs l)), (2, .fn g []), (15, .d (wnts w)), (16, .d (.int .i64 w.length)), (17, .d (.int .i64 i))] []) (fun i => w.length - i) 0 ⟨by omega, by omega⟩ (by refine Entails.mk' [] rfl rfl ?_ ?_ <;> repeat' (first | exact True.intro | exact SV.le_refl _ | exact Res.le_refl _ | exact SV.le_int (by omega) | exact SV.le_any _ | refine And.intro ?_ ?_)) ?_
  rintro i ⟨p1, p2⟩
  have e1 : (i : Int).toNat = i := Int.toNat_natCast i
  conv => whnf
  repeat' (first
    | (refine CallX.exact (hg _ _) rfl rfl ?_; rotate_right; conv => whnf)
    | (refine br_intro (fun hb => ?_) (fun hb => ?_) <;> (try simp only [decide_eq_true_eq, decide_eq_false_iff_not, Bool.not_eq_true', Bool.not_eq_false', Bool.and_eq_true, Bool.or_eq_true, beq_iff_eq, not_and, Int.not_le, Int.not_lt, Int.toNat_natCast, beq_eq_false_iff_ne, ne_eq, eq_self, not_true_eq_false, not_false_eq_true] at hb) <;> (conv => whnf))
    | omega
    | (refine And.intro ?_ ?_; ((try dsimp only); first | omega | (refine ⟨by omega, by omega, Int.le_trans (Int.mul_le_mul_of_nonneg_right (Int.ofNat_le.2 (Nat.le_of_ble_eq_true (rfl : Nat.ble _ 1024 = true))) (by omega)) (by omega), by omega⟩) | (refine Nat.le_trans (Nat.mul_le_mul_left _ (Nat.le_of_ble_eq_true (rfl : Nat.ble _ 1024 = true))) ?_; omega) | (unfold inI64; omega) | (constructor <;> omega) | (simp only [inI64, List.length_cons, List.length_append, List.length_nil, List.length_set] at *; omega) | decide | (unfold inI64; decide)); conv => whnf)
    | omega | decide | assumption)
  · refine .ret _ ?_
    conv => whnf
    refine ⟨[], ⟨?_, rfl⟩, trivial⟩
    conv => lhs; whnf
    have : ¬ namesB w l := fun q => by
      exact hb (q.2 i (by omega))
    simp [this]
  · exact ⟨i + 1, ⟨by omega, all_step p2 (by (try rw [e1] at hb); simpa using hb)⟩, by omega, (by refine Entails.mk' [] rfl rfl ?_ ?_ <;> repeat' (first | exact True.intro | exact SV.le_refl _ | exact Res.le_refl _ | exact SV.le_int (by omega) | exact SV.le_any _ | refine And.intro ?_ ?_))⟩
  · refine .ret _ ?_
    conv => whnf
    refine ⟨[], ⟨?_, rfl⟩, trivial⟩
    conv => lhs; whnf
    have hi : i = w.length := by omega
    subst hi
    have : namesB w l := ⟨hlen, p2⟩
    simp [this]
def pcell (p : Plc) : Res := .cells 50 ((plF p).map .d)
def icell (n : Int) : Res := .cells 3 [.d (.int .i64 n)]
theorem s180 (s : Slt) (n : Int) : FSpec Try.prog 59 [.agg ((slF s).map .d), .ptr 1000001 0] [(1000001, icell n)] (fun x r => x = .d (.bool (decide (s.day = n))) ∧ r = [(1000001, icell n)]) := by
  refine spec_of hT (C := []) Try.func59 rfl Try.call59 rfl rfl rfl ?_
  conv => whnf
  refine .ret _ ?_
  conv => whnf
  exact ⟨[(1000001, icell n)], ⟨rfl, rfl⟩, Res.le_refl _, trivial⟩
-- slices.IndexFunc of slots
theorem s179b (l : List Slt) (hl : l.length ≤ 2^40) (n : Int) : FSpec Try.prog 58 [.d (slts l), .fn 59 [.ptr 1000001 0]] [(1000001, icell n)] (fun x r => x = .d (.int .i64 (sltIx l n)) ∧ r = [(1000001, icell n)]) := by
  refine spec_of hT (C := []) Try.func58 rfl Try.call58 rfl rfl rfl ?_
  conv => whnf
  refine LoopX.rule hT (C := []) (ι := Nat) (fun i => i ≤ l.length ∧ ∀ j, j < i → decide ((l.getD j sl0).day = n) = false) (fun i => mkSt [(0, .d (slts l)), (1, .fn 59 [.ptr 1000001 0]), (7, .d (.int .i64 l.length)), (8, .d (.int .i64 i))] [(1000001, icell n)]) (fun i => l.length - i) 0 ⟨by omega, by omega⟩ (by refine Entails.mk' [(1000001, 1000001)] rfl rfl ?_ ?_ <;> repeat' (first | exact True.intro | exact SV.le_refl _ | exact Res.le_refl _ | exact SV.le_int (by omega) | exact SV.le_any _ | refine And.intro ?_ ?_)) ?_
  rintro i ⟨p1, p2⟩
  have e1 : (i : Int).toNat = i := Int.toNat_natCast i
  conv => whnf
  repeat' (first
    | (refine CallX.of (s180 (l.getD (i : Int).toNat sl0) _) [(1000001, 1000001)] rfl ⟨SV.le_refl _, SV.le_refl _, trivial⟩ ⟨Res.le_refl _, trivial⟩ rfl rfl ?_; rintro x rout ⟨rfl, rfl⟩; refine ⟨rfl, ?_⟩; conv => whnf)
    | (refine br_intro (fun hb => ?_) (fun hb => ?_) <;> (try simp only [decide_eq_true_eq, decide_eq_false_iff_not, Bool.not_eq_true', Bool.not_eq_false', Bool.and_eq_true, Bool.or_eq_true, beq_iff_eq, not_and, Int.not_le, Int.not_lt, Int.toNat_natCast, beq_eq_false_iff_ne, ne_eq, eq_self, not_true_eq_false, not_false_eq_true] at hb) <;> (conv => whnf))
    | omega
    | (refine And.intro ?_ ?_; ((try dsimp only); first | omega | (refine ⟨by omega, by omega, Int.le_trans (Int.mul_le_mul_of_nonneg_right (Int.ofNat_le.2 (Nat.le_of_ble_eq_true (rfl : Nat.ble _ 1024 = true))) (by omega)) (by omega), by omega⟩) | (refine Nat.le_trans (Nat.mul_le_mul_left _ (Nat.le_of_ble_eq_true (rfl : Nat.ble _ 1024 = true))) ?_; omega) | (unfold inI64; omega) | (constructor <;> omega) | (simp only [inI64, List.length_cons, List.length_append, List.length_nil, List.length_set] at *; omega) | decide | (unfold inI64; decide)); conv => whnf)
    | omega | decide | assumption)
  · refine .ret _ ?_
    conv => whnf
    refine ⟨[(1000001, icell n)], ⟨?_, rfl⟩, Res.le_refl _, trivial⟩
    conv => lhs; whnf
    congr 2
    exact (ixF_hit (by omega) p2 (by (try rw [e1] at hb); simpa using hb)).symm
  · exact ⟨i + 1, ⟨by omega, all_step p2 (by (try rw [e1] at hb); simpa using hb)⟩, by omega, (by refine Entails.mk' [(1000001, 1000001)] rfl rfl ?_ ?_ <;> repeat' (first | exact True.intro | exact SV.le_refl _ | exact Res.le_refl _ | exact SV.le_int (by omega) | exact SV.le_any _ | refine And.intro ?_ ?_))⟩
  · refine .ret _ ?_
    conv => whnf
    refine ⟨[(1000001, icell n)], ⟨?_, rfl⟩, Res.le_refl _, trivial⟩
    conv => lhs; whnf
    congr 2
    have : i = l.length := by omega
    subst this
    exact (ixF_none p2).symm
-- slices.ContainsFunc of slots
-- shift.slotAt
theorem s147 (l : List Slt) (hl : l.length ≤ 2^40) (n : Int) : FSpec Try.prog 37 [.d (slts l), .d (.int .i64 n)] [] (fun x r => x = .d (.int .i64 (sltIx l n)) ∧ r = []) := by
  refine spec_of hT (C := []) Try.func37 rfl Try.call37 rfl rfl rfl ?_
  conv => whnf
  refine CallX.of (s179b l hl n) [(1000001, 3)] rfl ⟨SV.le_refl _, SV.le_refl _, trivial⟩ ⟨Res.le_refl _, trivial⟩ rfl rfl ?_
  rintro x rout ⟨rfl, rfl⟩
  refine ⟨rfl, ?_⟩
  conv => whnf
  refine .ret _ ?_
  conv => whnf
  refine ⟨[], ⟨?_, rfl⟩, trivial⟩
  conv => lhs; whnf
end Go.Proofs.Ytnkdlkgannnfhaa
set_option maxRecDepth 20000
namespace Go.Proofs.Ytnkdlkgannnfhaa
open Go Go.Eng
theorem getD_zeros (n i : Nat) : (List.replicate n (0 : Int)).getD i 0 = 0 := by
  rw [List.getD_eq_getElem?_getD, List.getElem?_replicate]; split <;> rfl
theorem Res.le_zeros {n : Nat} : Res.le (.buf 3 1 ((n : Nat) : Int).toNat fun _ => [cstD (.int .i64 0)]) (seqB 3 1 iF 0 (List.replicate n 0)) :=
  Res.le_buf (by simp) (fun i hi => by simp only [rowF, getD_zeros]; rfl)
theorem sltIx_lt (s : List Slt) (n : Int) : sltIx s n < s.length := (ixF_bd (p := fun i => decide ((s.getD i sl0).day = n)) (n := s.length)).2.1
theorem plcs_bd {l : List Plc} (h : plcsE l = 0) : l.length ≤ 6 ∧ ∀ i, i < l.length → 0 ≤ (l.getD i pl0).day ∧ (l.getD i pl0).day ≤ 4000 := by
  unfold plcsE at h
  split at h
  · cases h
  refine ⟨by omega, fun i hi => ?_⟩
  have := firstAt_all h i hi
  unfold plcE at this
  simp only at this
  grind
theorem wnts_bd {l : List Wnt} (h : wntsE l = 0) : l.length ≤ 6 ∧ ∀ i, i < l.length → (0 ≤ (l.getD i wn0).fr ∧ (l.getD i wn0).fr ≤ (l.getD i wn0).to) ∧ (l.getD i wn0).to ≤ 4001 := by
  unfold wntsE at h
  split at h
  · cases h
  refine ⟨by omega, fun i hi => ?_⟩
  have := firstAt_all h i hi
  unfold wntE at this
  simp only at this
  grind
-- PlacedFault, all else right
-- shift.CheckPlaced
end Go.Proofs.Ytnkdlkgannnfhaa
set_option maxRecDepth 20000
namespace Go.Proofs.Ytnkdlkgannnfhaa
open Go Go.Eng
-- shift.lost
theorem s137 (b : List Bsy) (p : Plc) (hb0 : bsysE b = 0) : FSpec Try.prog 32 [.d (bsys b), .agg ((plF p).map .d)] [] (fun x r => x = .d (.int .i64 (lostP b p)) ∧ r = []) := by
  obtain ⟨b1, b2⟩ := bsys_bd hb0
  refine spec_of hT (C := []) Try.func32 rfl Try.call32 rfl rfl rfl ?_
  conv => whnf
  refine LoopX.rule hT (C := []) (ι := Nat) (fun i => i ≤ b.length) (fun i => mkSt [(3, .ptr 3 0), (5, .d (.int .i64 (sumN (fun i => lostC (b.getD i bs0) p) i))), (8, .d (bsys b)), (9, .d (.int .i64 b.length)), (10, .d (.int .i64 i))] [(3, pcell p)]) (fun i => b.length - i) 0 (by omega) (by refine Entails.mk' [(3, 3)] rfl rfl ?_ ?_ <;> repeat' (first | exact True.intro | exact SV.le_refl _ | exact Res.le_refl _ | exact SV.le_int (by omega) | exact SV.le_any _ | refine And.intro ?_ ?_)) ?_
  rintro i p1
  have e1 : (i : Int).toNat = i := Int.toNat_natCast i
  have hs := sumN_bd (f := fun i => lostC (b.getD i bs0) p) (c := 1000000) (n := i) (fun j hj => lostC_bd (b2 j (by omega)))
  have hc : (i : Int) < b.length → 0 ≤ (b.getD (i : Int).toNat bs0).cents ∧ (b.getD (i : Int).toNat bs0).cents ≤ 1000000 := fun h => b2 _ (by omega)
  have hstep : sumN (fun i => lostC (b.getD i bs0) p) (i + 1) = sumN (fun i => lostC (b.getD i bs0) p) i + lostC (b.getD (i : Int).toNat bs0) p := by rw [e1]; rfl
  conv => whnf
  repeat' (first
    | (refine br_intro (fun hb => ?_) (fun hb => ?_) <;> (try simp only [decide_eq_true_eq, decide_eq_false_iff_not, Bool.not_eq_true', Bool.not_eq_false', Bool.and_eq_true, Bool.or_eq_true, beq_iff_eq, not_and, Int.not_le, Int.not_lt, Int.toNat_natCast, beq_eq_false_iff_ne, ne_eq, eq_self, not_true_eq_false, not_false_eq_true] at hb) <;> (conv => whnf))
    | omega
    | (refine And.intro ?_ ?_; ((try dsimp only); first | omega | (refine ⟨by omega, by omega, Int.le_trans (Int.mul_le_mul_of_nonneg_right (Int.ofNat_le.2 (Nat.le_of_ble_eq_true (rfl : Nat.ble _ 1024 = true))) (by omega)) (by omega), by omega⟩) | (refine Nat.le_trans (Nat.mul_le_mul_left _ (Nat.le_of_ble_eq_true (rfl : Nat.ble _ 1024 = true))) ?_; omega) | (unfold inI64; omega) | (constructor <;> omega) | (simp only [inI64, List.length_cons, List.length_append, List.length_nil, List.length_set] at *; omega) | decide | (unfold inI64; decide)); conv => whnf)
    | omega | decide | assumption)
  all_goals first
    | (refine ⟨i + 1, by omega, by omega, Entails.mk' [(3, 3)] rfl rfl ⟨SV.le_refl _, SV.le_int (by rw [hstep]; unfold lostC; clear hs hc hstep b2; grind), SV.le_refl _, SV.le_refl _, SV.le_refl _, trivial⟩ ⟨Res.le_refl _, trivial⟩⟩)
    | (refine .ret _ ?_
       conv => whnf
       refine ⟨[], ⟨?_, rfl⟩, trivial⟩
       conv => lhs; whnf
       congr 2
       have : i = b.length := by omega
       subst this
       rfl)
def lostE (b : List Bsy) (l : List Plc) : Int := firstE [bsysE b, plcsE l]
-- shift.Lost
theorem s79 (b : List Bsy) (l : List Plc) (hb : bsOk b) (hl : plOk l) : FSpec Try.prog 15 [.d (bsys b), .d (plcs l)] [] (fun x r => x = .tup [.d (.int .i64 (if lostE b l = 0 then lostA b l else 0)), .d (.int .i64 (lostE b l))] ∧ r = []) := by
  have h105 := s105 [bsysE b, plcsE l] (by simp)
  rw [show firstE [bsysE b, plcsE l] = lostE b l from rfl] at h105
  by_cases hE : lostE b l = 0
  · have hb0 : bsysE b = 0 := by unfold lostE at hE; simp only [firstE] at hE; grind
    have hl0 : plcsE l = 0 := by unfold lostE at hE; simp only [firstE] at hE; grind
    obtain ⟨b1, b2⟩ := bsys_bd hb0
    obtain ⟨l1, l2⟩ := plcs_bd hl0
    have hone : ∀ p, 0 ≤ lostP b p ∧ lostP b p ≤ 200000000 := fun p => by
      have := sumN_bd (f := fun i => lostC (b.getD i bs0) p) (c := 1000000) (n := b.length) (fun j hj => lostC_bd (b2 j (by omega)))
      unfold lostP; omega
    rw [hE] at h105 ⊢
    rw [if_pos rfl]
    refine spec_of hT (C := []) Try.func15 rfl Try.call15 rfl rfl rfl ?_
    conv => whnf
    repeat' (first
      | (refine CallX.exact (s136 b hb) rfl rfl ?_; rotate_right; conv => whnf)
      | (refine CallX.exact (s141 l hl) rfl rfl ?_; rotate_right; conv => whnf)
      | (refine CallX.pure h105 ⟨SV.le_lit (by rfl) (by rfl), trivial⟩ rfl ?_; conv => whnf)
      | (refine br_intro (fun hb => ?_) (fun hb => ?_) <;> (try simp only [decide_eq_true_eq, decide_eq_false_iff_not, Bool.not_eq_true', Bool.not_eq_false', Bool.and_eq_true, Bool.or_eq_true, beq_iff_eq, not_and, Int.not_le, Int.not_lt, Int.toNat_natCast, beq_eq_false_iff_ne, ne_eq, eq_self, not_true_eq_false, not_false_eq_true] at hb) <;> (conv => whnf))
      | omega
      | (refine And.intro ?_ ?_; ((try dsimp only); first | omega | (refine ⟨by omega, by omega, Int.le_trans (Int.mul_le_mul_of_nonneg_right (Int.ofNat_le.2 (Nat.le_of_ble_eq_true (rfl : Nat.ble _ 1024 = true))) (by omega)) (by omega), by omega⟩) | (refine Nat.le_trans (Nat.mul_le_mul_left _ (Nat.le_of_ble_eq_true (rfl : Nat.ble _ 1024 = true))) ?_; omega) | (unfold inI64; omega) | (constructor <;> omega) | (simp only [inI64, List.length_cons, List.length_append, List.length_nil, List.length_set] at *; omega) | decide | (unfold inI64; decide)); conv => whnf)
      | omega | decide | assumption)
    refine LoopX.rule hT (C := []) (ι := Nat) (fun i => i ≤ l.length) (fun i => mkSt [(0, .d (bsys b)), (7, .d (.int .i64 (sumN (fun j => lostP b (l.getD j pl0)) i))), (19, .d (plcs l)), (20, .d (.int .i64 l.length)), (21, .d (.int .i64 i))] []) (fun i => l.length - i) 0 (by omega) (by refine Entails.mk' [] rfl rfl ?_ ?_ <;> repeat' (first | exact True.intro | exact SV.le_refl _ | exact Res.le_refl _ | exact SV.le_int (by omega) | exact SV.le_any _ | refine And.intro ?_ ?_)) ?_
    rintro i p1
    have e1 : (i : Int).toNat = i := Int.toNat_natCast i
    have hs := sumN_bd (f := fun j => lostP b (l.getD j pl0)) (c := 200000000) (n := i) (fun j hj => hone _)
    have hp := hone (l.getD (i : Int).toNat pl0)
    have hstep : sumN (fun j => lostP b (l.getD j pl0)) (i + 1) = sumN (fun j => lostP b (l.getD j pl0)) i + lostP b (l.getD (i : Int).toNat pl0) := by rw [e1]; rfl
    conv => whnf
    repeat' (first
      | (refine CallX.exact (s137 b _ hb0) rfl rfl ?_; rotate_right; conv => whnf)
      | (refine br_intro (fun hb => ?_) (fun hb => ?_) <;> (try simp only [decide_eq_true_eq, decide_eq_false_iff_not, Bool.not_eq_true', Bool.not_eq_false', Bool.and_eq_true, Bool.or_eq_true, beq_iff_eq, not_and, Int.not_le, Int.not_lt, Int.toNat_natCast, beq_eq_false_iff_ne, ne_eq, eq_self, not_true_eq_false, not_false_eq_true] at hb) <;> (conv => whnf))
      | omega
      | (refine And.intro ?_ ?_; ((try dsimp only); first | omega | (refine ⟨by omega, by omega, Int.le_trans (Int.mul_le_mul_of_nonneg_right (Int.ofNat_le.2 (Nat.le_of_ble_eq_true (rfl : Nat.ble _ 1024 = true))) (by omega)) (by omega), by omega⟩) | (refine Nat.le_trans (Nat.mul_le_mul_left _ (Nat.le_of_ble_eq_true (rfl : Nat.ble _ 1024 = true))) ?_; omega) | (unfold inI64; omega) | (constructor <;> omega) | (simp only [inI64, List.length_cons, List.length_append, List.length_nil, List.length_set] at *; omega) | decide | (unfold inI64; decide)); conv => whnf)
      | omega | decide | assumption)
    · exact ⟨i + 1, by omega, by omega, Entails.mk' [] rfl rfl ⟨SV.le_refl _, SV.le_int hstep.symm, SV.le_refl _, SV.le_refl _, SV.le_refl _, trivial⟩ trivial⟩
    · have : i = l.length := by omega
      subst this
      refine .ret _ ?_
      conv => whnf
      refine ⟨[], ⟨congrArg SV.tup ?_, rfl⟩, trivial⟩
      repeat' (refine cons_eq ?_ ?_)
      all_goals (conv => lhs; whnf)
      all_goals try (with_reducible rfl)
      all_goals rfl
  · rw [if_neg hE]
    generalize lostE b l = e at h105 hE
    refine spec_of hT (C := []) Try.func15 rfl Try.call15 rfl rfl rfl ?_
    conv => whnf
    repeat' (first
      | (refine CallX.exact (s136 b hb) rfl rfl ?_; rotate_right; conv => whnf)
      | (refine CallX.exact (s141 l hl) rfl rfl ?_; rotate_right; conv => whnf)
      | (refine CallX.pure h105 ⟨SV.le_lit (by rfl) (by rfl), trivial⟩ rfl ?_; conv => whnf)
      | (refine br_intro (fun hb => ?_) (fun hb => ?_) <;> (try simp only [decide_eq_true_eq, decide_eq_false_iff_not, Bool.not_eq_true', Bool.not_eq_false', Bool.and_eq_true, Bool.or_eq_true, beq_iff_eq, not_and, Int.not_le, Int.not_lt, Int.toNat_natCast, beq_eq_false_iff_ne, ne_eq, eq_self, not_true_eq_false, not_false_eq_true] at hb) <;> (conv => whnf))
      | omega
      | (refine And.intro ?_ ?_; ((try dsimp only); first | omega | (refine ⟨by omega, by omega, Int.le_trans (Int.mul_le_mul_of_nonneg_right (Int.ofNat_le.2 (Nat.le_of_ble_eq_true (rfl : Nat.ble _ 1024 = true))) (by omega)) (by omega), by omega⟩) | (refine Nat.le_trans (Nat.mul_le_mul_left _ (Nat.le_of_ble_eq_true (rfl : Nat.ble _ 1024 = true))) ?_; omega) | (unfold inI64; omega) | (constructor <;> omega) | (simp only [inI64, List.length_cons, List.length_append, List.length_nil, List.length_set] at *; omega) | decide | (unfold inI64; decide)); conv => whnf)
      | omega | decide | assumption)
    refine .ret _ ?_
    conv => whnf
    refine ⟨[], ⟨congrArg SV.tup ?_, rfl⟩, trivial⟩
    repeat' (refine cons_eq ?_ ?_)
    all_goals (conv => lhs; whnf)
    all_goals try (with_reducible rfl)
    all_goals rfl
-- LostOf
end Go.Proofs.Ytnkdlkgannnfhaa
set_option maxRecDepth 20000
namespace Go.Proofs.Ytnkdlkgannnfhaa
open Go Go.Eng
theorem SV.le_drop {α : Type} {f : α → List DV} {d : α} {l : List α} {k j m : Nat} (hm : m = (l.drop j).length) : SV.le (.d (.ro k m fun i => rowF f d l (j + i))) (.d (seqD k f d (l.drop j))) :=
  SV.le_ro hm (fun i hi => by simp only [rowF]; rw [List.getD_eq_getElem?_getD, List.getD_eq_getElem?_getD, List.getElem?_drop])
theorem Res.le_upd {α : Type} {f : α → List DV} {d : α} {l : List α} {e k j off : Nat} {ds : List DV} (g : α → α) (hg : ∀ y, setAtD (f y) off ds = f (g y)) :
    Res.le (.buf e k l.length fun i => bif Nat.beq i j then setAtD (rowF f d l i) off ds else rowF f d l i) (seqB e k f d (l.set j (g (l.getD j d)))) :=
  Res.le_putF fun y hy => by rw [hg, List.getD_eq_getElem?_getD, hy]; rfl
-- slices.Clone of passages
end Go.Proofs.Ytnkdlkgannnfhaa
set_option maxRecDepth 20000
namespace Go.Proofs.Ytnkdlkgannnfhaa
open Go Go.Eng
def allK {α : Type} (K : α → Prop) (k : Nat) (l : List α) : Prop := l.length ≤ k ∧ ∀ x ∈ l, K x
theorem allK_snoc {α : Type} {K : α → Prop} {l : List α} {k m : Nat} {x : α} (h : allK K k l) (hm : k + 1 ≤ m) (hx : K x) : allK K m (l ++ [x]) := by
  refine ⟨by rw [List.length_append]; have := h.1; simp; omega, fun p hp => ?_⟩
  rcases List.mem_append.1 hp with q | q
  · exact h.2 p q
  · simp at q; subst q; exact hx
theorem allK_le {α : Type} {K : α → Prop} {l : List α} {k m : Nat} (h : allK K k l) (hm : k ≤ m) : allK K m l := ⟨by have := h.1; omega, h.2⟩
theorem allK_upd {α : Type} {K : α → Prop} {l : List α} {k j : Nat} {d : α} {g : α → α} (h : allK K k l) (hg : ∀ y, K y → K (g y)) : allK K k (l.set j (g (l.getD j d))) := by
  refine ⟨by rw [List.length_set]; exact h.1, fun p hp => ?_⟩
  by_cases hj : j < l.length
  · rcases List.mem_or_eq_of_mem_set hp with q | q
    · exact h.2 p q
    · subst q; exact hg _ (h.2 _ (getD_mem hj))
  · rw [List.set_eq_of_length_le (by omega)] at hp; exact h.2 p hp
theorem rows_updG {α : Type} {f : α → List DV} {d : α} {l : List α} {j off : Nat} {ds : List DV} {get : Nat → List DV} (hg : ∀ i, i < l.length → get i = rowF f d l i) (g : α → α) (h : ∀ y, setAtD (f y) off ds = f (g y)) :
    ∀ i, i < (l.set j (g (l.getD j d))).length → (bif Nat.beq i j then setAtD (get i) off ds else get i) = rowF f d (l.set j (g (l.getD j d))) i := by
  rw [List.length_set]
  exact rows_putG hg (fun y hy => by rw [h, List.getD_eq_getElem?_getD, hy]; rfl)
abbrev updL {α : Type} (l : List α) (j : Nat) (d : α) (g : α → α) : List α := l.set j (g (l.getD j d))
theorem SV.le_upd2 {α : Type} {f : α → List DV} {d : α} {l : List α} {k j1 j2 o1 o2 : Nat} {ds1 ds2 : List DV} (g1 g2 : α → α) (h1 : ∀ y, setAtD (f y) o1 ds1 = f (g1 y)) (h2 : ∀ y, setAtD (f y) o2 ds2 = f (g2 y)) :
    SV.le (.d (.ro k l.length fun i => bif Nat.beq i j2 then setAtD (bif Nat.beq i j1 then setAtD (rowF f d l i) o1 ds1 else rowF f d l i) o2 ds2 else (bif Nat.beq i j1 then setAtD (rowF f d l i) o1 ds1 else rowF f d l i)))
      (.d (seqD k f d (updL (updL l j1 d g1) j2 d g2))) :=
  SV.le_ro (by simp) (fun i hi => rows_updG (rows_updG (fun _ _ => rfl) g1 h1) g2 h2 i (by simpa using hi))
theorem SV.le_upd3 {α : Type} {f : α → List DV} {d : α} {l : List α} {k j1 j2 j3 o1 o2 o3 : Nat} {ds1 ds2 ds3 : List DV} (g1 g2 g3 : α → α) (h1 : ∀ y, setAtD (f y) o1 ds1 = f (g1 y)) (h2 : ∀ y, setAtD (f y) o2 ds2 = f (g2 y)) (h3 : ∀ y, setAtD (f y) o3 ds3 = f (g3 y)) :
    SV.le (.d (.ro k l.length fun i => bif Nat.beq i j3 then setAtD (bif Nat.beq i j2 then setAtD (bif Nat.beq i j1 then setAtD (rowF f d l i) o1 ds1 else rowF f d l i) o2 ds2 else (bif Nat.beq i j1 then setAtD (rowF f d l i) o1 ds1 else rowF f d l i)) o3 ds3
        else (bif Nat.beq i j2 then setAtD (bif Nat.beq i j1 then setAtD (rowF f d l i) o1 ds1 else rowF f d l i) o2 ds2 else (bif Nat.beq i j1 then setAtD (rowF f d l i) o1 ds1 else rowF f d l i))))
      (.d (seqD k f d (updL (updL (updL l j1 d g1) j2 d g2) j3 d g3))) :=
  SV.le_ro (by simp) (fun i hi => rows_updG (rows_updG (rows_updG (fun _ _ => rfl) g1 h1) g2 h2) g3 h3 i (by simpa using hi))
theorem rows_snocG {α : Type} {f : α → List DV} {d : α} {l : List α} {x : α} {n : Nat} {get h : Nat → List DV} (hn : n = l.length) (hg : ∀ i, i < l.length → get i = rowF f d l i) (hx : h 0 = f x) :
    ∀ i, i < (l ++ [x]).length → appGet n get h i = rowF f d (l ++ [x]) i := by
  intro i hi
  subst hn
  rw [← rows_snocF (f := f) (d := d) (l := l) (x := x) (h := h) hx i (by simpa using hi)]
  rcases Nat.lt_or_ge i l.length with q | q
  · rw [appGet_lt q, appGet_lt q, hg i q]
  · rw [appGet_ge q, appGet_ge q]
theorem SV.le_upd2_snoc {α : Type} {f : α → List DV} {d : α} {l : List α} {k j1 j2 o1 o2 : Nat} {ds1 ds2 : List DV} {h : Nat → List DV} (g1 g2 : α → α) (x : α) (h1 : ∀ y, setAtD (f y) o1 ds1 = f (g1 y)) (h2 : ∀ y, setAtD (f y) o2 ds2 = f (g2 y)) (hx : h 0 = f x) :
    SV.le (.d (.ro k (l.length + 1) (appGet l.length (fun i => bif Nat.beq i j2 then setAtD (bif Nat.beq i j1 then setAtD (rowF f d l i) o1 ds1 else rowF f d l i) o2 ds2 else (bif Nat.beq i j1 then setAtD (rowF f d l i) o1 ds1 else rowF f d l i)) h)))
      (.d (seqD k f d (updL (updL l j1 d g1) j2 d g2 ++ [x]))) :=
  SV.le_ro (by simp) (fun i hi => rows_snocG (l := updL (updL l j1 d g1) j2 d g2) (by simp) (rows_updG (rows_updG (fun _ _ => rfl) g1 h1) g2 h2) hx i (by simpa using hi))
def sameL {α : Type} (l c : List α) : Prop := c.length = l.length ∧ ∀ x ∈ c, x ∈ l
theorem sameL_set {α : Type} {l c : List α} {j : Nat} {x : α} (h : sameL l c) (hx : x ∈ l) : sameL l (c.set j x) :=
  ⟨by rw [List.length_set]; exact h.1, fun y hy => by rcases List.mem_or_eq_of_mem_set hy with q | q; exact h.2 y q; subst q; exact hx⟩
def subL {α : Type} (l c : List α) : Prop := c.length ≤ l.length ∧ ∀ x ∈ c, x ∈ l
end Go.Proofs.Ytnkdlkgannnfhaa
set_option maxRecDepth 20000
namespace Go.Proofs.Ytnkdlkgannnfhaa
open Go Go.Eng
-- Slots
theorem s69 (n : Nat) (L : Nat → Int) (hL : Rok n L) (a : Int) (h0 : 0 ≤ a) (ha : a ≤ 2^38) :
    FSpec Try.prog 10 [.ptr 1000000 0] [(1000000, strm n L a)] (fun y r => (∃ l, l.length ≤ 7 ∧ y = .d (slts l)) ∧ Moved n L a 20 r) := by
  refine spec_of hT (C := []) Try.func10 rfl Try.call10 rfl rfl rfl ?_
  conv => whnf
  refine LoopX.rule hT (C := []) (ι := Int × List Slt × Nat) (fun (b, l, k) => (a ≤ b ∧ b ≤ a + 2 * k ∧ k ≤ 6) ∧ l.length ≤ k)
    (fun (b, l, k) => mkSt [(0, .ptr 1000000 0), (3, .buf 3), (5, .d (.int .i64 k))] [(1000000, strm n L b), (3, seqB 79 2 slF sl0 l)])
    (fun (_, _, k) => 6 - k) (a, [], 0) ⟨⟨by simp, by simp, by simp⟩, by simp⟩ ?_ ?_
  · exact (Entails.nil 3 3 79 2 (rowF slF sl0 []) rfl rfl (by decide)).trans (by refine Entails.mk' [(1000000, 1000000), (3, 3)] rfl rfl ?_ ?_ <;> repeat' (first | exact True.intro | exact SV.le_refl _ | exact Res.le_refl _ | exact SV.le_int (by omega) | exact SV.le_any _ | refine And.intro ?_ ?_))
  rintro ⟨b, l, k⟩ ⟨⟨p1, p2, p3⟩, q1⟩
  conv => whnf
  repeat' (first
    | (refine CallX.of (s84 n L hL _ ?_ ?_ _ ?_) [(1000000, 1000000)] rfl ⟨SV.le_refl _, SV.le_refl _, trivial⟩ ⟨Res.le_refl _, trivial⟩ rfl rfl ?_; rotate_right; rintro x rout ⟨⟨f, rfl⟩, ⟨c, c1, c2, rfl⟩⟩; refine ⟨rfl, ?_⟩; conv => whnf)
    | (refine CallX.of (s33 n L hL _ ?_ ?_ [0, 1, 1, 2] ?_ ?_) [(1000000, 1000000)] rfl ⟨SV.le_refl _, SV.le_lit rfl rfl, trivial⟩ ⟨Res.le_refl _, trivial⟩ rfl rfl ?_; rotate_right; rintro x rout ⟨⟨u1, hu1, rfl⟩, ⟨c, c1, c2, rfl⟩⟩; refine ⟨rfl, ?_⟩; conv => whnf)
    | (refine CallX.of (s104 n L hL _ ?_ ?_ _ _ ?_ ?_ ?_) [(1000000, 1000000)] rfl ⟨SV.le_refl _, SV.le_refl _, SV.le_refl _, trivial⟩ ⟨Res.le_refl _, trivial⟩ rfl rfl ?_; rotate_right; rintro x rout ⟨⟨u5, hk1, hk2, rfl⟩, ⟨c, c1, c2, rfl⟩⟩; refine ⟨rfl, ?_⟩; conv => whnf)
    | (refine br_intro (fun hb => ?_) (fun hb => ?_) <;> (try simp only [decide_eq_true_eq, decide_eq_false_iff_not, Bool.not_eq_true', Bool.not_eq_false', Bool.and_eq_true, Bool.or_eq_true, beq_iff_eq, not_and, Int.not_le, Int.not_lt, Int.toNat_natCast, beq_eq_false_iff_ne, ne_eq, eq_self, not_true_eq_false, not_false_eq_true] at hb) <;> (conv => whnf))
    | omega
    | (refine And.intro ?_ ?_; ((try dsimp only); first | omega | (refine ⟨by omega, by omega, Int.le_trans (Int.mul_le_mul_of_nonneg_right (Int.ofNat_le.2 (Nat.le_of_ble_eq_true (rfl : Nat.ble _ 1024 = true))) (by omega)) (by omega), by omega⟩) | (refine Nat.le_trans (Nat.mul_le_mul_left _ (Nat.le_of_ble_eq_true (rfl : Nat.ble _ 1024 = true))) ?_; omega) | (unfold inI64; omega) | (constructor <;> omega) | (simp only [inI64, List.length_cons, List.length_append, List.length_nil, List.length_set] at *; omega) | decide | (unfold inI64; decide)); conv => whnf)
    | omega | decide | assumption)
  · refine ⟨(_, _, k + 1), ?_, ?_, Entails.mk' [(1000000, 1000000), (3, 18)] rfl rfl ⟨SV.le_refl _, SV.le_refl _, SV.le_refl _, trivial⟩ ⟨Res.le_refl _, Res.le_snocF (x := ⟨_, _⟩) rfl, trivial⟩⟩
    · exact ⟨⟨by omega, by omega, by omega⟩, by simp; omega⟩
    · show 6 - (k + 1) < 6 - k; omega
  · exact ⟨(c, l, k + 1), ⟨⟨by omega, by omega, by omega⟩, by omega⟩, by show 6 - (k + 1) < 6 - k; omega, (by refine Entails.mk' [(1000000, 1000000), (3, 3)] rfl rfl ?_ ?_ <;> repeat' (first | exact True.intro | exact SV.le_refl _ | exact Res.le_refl _ | exact SV.le_int (by omega) | exact SV.le_any _ | refine And.intro ?_ ?_))⟩
  · refine .freeze _ 29 79 2 _ _ rfl (.weak _ ?_)
    (conv => whnf)
    exact ⟨_, [(1000000, strm n L _)], SV.le_snocF (f := slF) (d := sl0) (x := ⟨_, _⟩) rfl, ⟨⟨_, by simp; omega, rfl⟩, _, by omega, by omega, rfl⟩, Res.le_refl _, trivial⟩
  · refine .freeze _ 3 79 2 _ _ rfl (.weak _ ?_)
    (conv => whnf)
    exact ⟨_, [(1000000, strm n L _)], SV.le_refl _, ⟨⟨l, by omega, rfl⟩, _, by omega, by omega, rfl⟩, Res.le_refl _, trivial⟩
def wnG (x : Wnt) : Prop := x.v.length ≤ 8 ∧ -2^40 ≤ x.fr ∧ x.fr ≤ 2^40
-- Wanted
theorem s70 (n : Nat) (L : Nat → Int) (hL : Rok n L) (a : Int) (h0 : 0 ≤ a) (ha : a ≤ 2^38) :
    FSpec Try.prog 11 [.ptr 1000000 0] [(1000000, strm n L a)] (fun y r => (∃ l, allK wnG 4 l ∧ y = .d (wnts l)) ∧ Moved n L a 20 r) := by
  refine spec_of hT (C := []) Try.func11 rfl Try.call11 rfl rfl rfl ?_
  conv => whnf
  refine LoopX.rule hT (C := []) (ι := Int × List Wnt × Nat) (fun (b, l, k) => (a ≤ b ∧ b ≤ a + 3 * k ∧ k ≤ 4) ∧ allK wnG k l)
    (fun (b, l, k) => mkSt [(0, .ptr 1000000 0), (3, .buf 3), (8, .d (strs [[118, 49], [118, 50], [118, 51], [118, 52]])), (9, .d (.int .i64 4)), (10, .d (.int .i64 k))] [(1000000, strm n L b), (3, seqB 48 3 wnF wn0 l)])
    (fun (_, _, k) => 4 - k) (a, [], 0) ⟨⟨by simp, by simp, by simp⟩, ⟨by simp, by simp⟩⟩ ?_ ?_
  · refine (Entails.nil 3 3 48 3 (rowF wnF wn0 []) rfl rfl (by decide)).trans (Entails.mk' [(1000000, 1000000), (3, 3)] rfl rfl ⟨SV.le_refl _, SV.le_refl _, SV.le_lit rfl rfl, SV.le_refl _, SV.le_refl _, trivial⟩ ⟨Res.le_refl _, Res.le_refl _, trivial⟩)
  rintro ⟨b, l, k⟩ ⟨⟨p1, p2, p3⟩, q1⟩
  have hl1 := q1.1
  have hkey : (([[118, 49], [118, 50], [118, 51], [118, 52]] : List (List UInt8)).getD (k : Int).toNat []).length ≤ 8 := by
    rw [Int.toNat_natCast]
    match k with
    | 0 | 1 | 2 | 3 => simp
    | k + 4 => simp
  conv => whnf
  repeat' (first
    | (refine CallX.of (s84 n L hL _ ?_ ?_ _ ?_) [(1000000, 1000000)] rfl ⟨SV.le_refl _, SV.le_refl _, trivial⟩ ⟨Res.le_refl _, trivial⟩ rfl rfl ?_; rotate_right; rintro x rout ⟨⟨f, rfl⟩, ⟨c, c1, c2, rfl⟩⟩; refine ⟨rfl, ?_⟩; conv => whnf)
    | (refine CallX.of (s86 n L hL _ ?_ ?_ _ ?_) [(1000000, 1000000)] rfl ⟨SV.le_refl _, SV.le_refl _, trivial⟩ ⟨Res.le_refl _, trivial⟩ rfl rfl ?_; rotate_right; rintro x rout ⟨⟨j, hj1, hj2, hj3, rfl⟩, ⟨c, c1, c2, rfl⟩⟩; refine ⟨rfl, ?_⟩; conv => whnf)
    | (refine CallX.of (s33 n L hL _ ?_ ?_ [0, 0, 1, 2] ?_ ?_) [(1000000, 1000000)] rfl ⟨SV.le_refl _, SV.le_lit rfl rfl, trivial⟩ ⟨Res.le_refl _, trivial⟩ rfl rfl ?_; rotate_right; rintro x rout ⟨⟨u1, hu1, rfl⟩, ⟨c, c1, c2, rfl⟩⟩; have hw1 := mem_bd hu1 rfl; refine ⟨rfl, ?_⟩; conv => whnf)
    | (refine CallX.of (s33 n L hL _ ?_ ?_ [1, 2, 3, 4, 6, 0] ?_ ?_) [(1000000, 1000000)] rfl ⟨SV.le_refl _, SV.le_lit rfl rfl, trivial⟩ ⟨Res.le_refl _, trivial⟩ rfl rfl ?_; rotate_right; rintro x rout ⟨⟨u2, hu2, rfl⟩, ⟨c, c1, c2, rfl⟩⟩; have hw2 := mem_bd hu2 rfl; refine ⟨rfl, ?_⟩; conv => whnf)
    | (refine CallX.of (s104 n L hL _ ?_ ?_ 0 9 ?_ ?_ ?_) [(1000000, 1000000)] rfl ⟨SV.le_refl _, SV.le_refl _, SV.le_refl _, trivial⟩ ⟨Res.le_refl _, trivial⟩ rfl rfl ?_; rotate_right; rintro x rout ⟨⟨u5, hk1, hk2, rfl⟩, ⟨c, c1, c2, rfl⟩⟩; refine ⟨rfl, ?_⟩; conv => whnf)
    | (refine CallX.of (s104 n L hL _ ?_ ?_ 0 4001 ?_ ?_ ?_) [(1000000, 1000000)] rfl ⟨SV.le_refl _, SV.le_refl _, SV.le_refl _, trivial⟩ ⟨Res.le_refl _, trivial⟩ rfl rfl ?_; rotate_right; rintro x rout ⟨⟨u6, hk3, hk4, rfl⟩, ⟨c, c1, c2, rfl⟩⟩; refine ⟨rfl, ?_⟩; conv => whnf)
    | (refine CallX.of (s15 n L hL _ ?_ ?_ [_, [], [118, 49]] (by simp) (by simp)) [(1000000, 1000000)] rfl ⟨SV.le_refl _, SV.le_lit rfl rfl, trivial⟩ ⟨Res.le_refl _, trivial⟩ rfl rfl ?_; rotate_right; rintro x rout ⟨⟨u3, hu3, rfl⟩, ⟨c, c1, c2, rfl⟩⟩; refine ⟨rfl, ?_⟩; conv => whnf)
    | (refine br_intro (fun hb => ?_) (fun hb => ?_) <;> (try simp only [decide_eq_true_eq, decide_eq_false_iff_not, Bool.not_eq_true', Bool.not_eq_false', Bool.and_eq_true, Bool.or_eq_true, beq_iff_eq, not_and, Int.not_le, Int.not_lt, Int.toNat_natCast, beq_eq_false_iff_ne, ne_eq, eq_self, not_true_eq_false, not_false_eq_true] at hb) <;> (conv => whnf))
    | omega
    | (refine And.intro ?_ ?_; ((try dsimp only); first | omega | (refine ⟨by omega, by omega, Int.le_trans (Int.mul_le_mul_of_nonneg_right (Int.ofNat_le.2 (Nat.le_of_ble_eq_true (rfl : Nat.ble _ 1024 = true))) (by omega)) (by omega), by omega⟩) | (refine Nat.le_trans (Nat.mul_le_mul_left _ (Nat.le_of_ble_eq_true (rfl : Nat.ble _ 1024 = true))) ?_; omega) | (unfold inI64; omega) | (constructor <;> omega) | (simp only [inI64, List.length_cons, List.length_append, List.length_nil, List.length_set] at *; omega) | decide | (unfold inI64; decide)); conv => whnf)
    | omega | decide | assumption)
  · refine ⟨(_, _, k + 1), ?_, ?_, Entails.mk' [(1000000, 1000000), (3, 30)] rfl rfl ⟨SV.le_refl _, SV.le_refl _, SV.le_refl _, SV.le_refl _, SV.le_refl _, trivial⟩ ⟨Res.le_refl _, Res.le_snocF (x := ⟨_, _, _⟩) rfl, trivial⟩⟩
    · exact ⟨⟨by omega, by omega, by omega⟩, allK_snoc q1 (Nat.le_refl _) ⟨hkey, hw1⟩⟩
    · show 4 - (k + 1) < 4 - k; omega
  · exact ⟨(c, l, k + 1), ⟨⟨by omega, by omega, by omega⟩, allK_le q1 (by omega)⟩, by show 4 - (k + 1) < 4 - k; omega, (by refine Entails.mk' [(1000000, 1000000), (3, 3)] rfl rfl ?_ ?_ <;> repeat' (first | exact True.intro | exact SV.le_refl _ | exact Res.le_refl _ | exact SV.le_int (by omega) | exact SV.le_any _ | refine And.intro ?_ ?_))⟩
  · refine .freeze _ 3 48 3 _ _ rfl (.weak _ ?_)
    (conv => whnf)
    have hu3' : u3.length ≤ 8 := by
      have hm := (q1.2 _ (getD_mem (l := l) (i := j.toNat) (x := wn0) (by omega))).1
      simp only [List.mem_cons, List.not_mem_nil, or_false] at hu3
      rcases hu3 with rfl | rfl | rfl
      · exact hm
      · simp
      · simp
    refine ⟨_, [(1000000, strm n L _)], SV.le_upd3 (f := wnF) (d := wn0) (l := l) (fun y => ⟨u3, y.fr, y.to⟩) (fun y => ⟨y.v, u5, y.to⟩) (fun y => ⟨y.v, y.fr, u6⟩) (fun _ => rfl) (fun _ => rfl) (fun _ => rfl), ⟨⟨_, ?_, rfl⟩, _, by omega, by omega, rfl⟩, Res.le_refl _, trivial⟩
    exact allK_upd (g := fun y => ⟨y.v, y.fr, u6⟩) (allK_upd (g := fun y => ⟨y.v, u5, y.to⟩) (allK_upd (g := fun y => ⟨u3, y.fr, y.to⟩) (allK_le q1 p3) (fun y hy => ⟨hu3', hy.2⟩)) (fun y hy => ⟨hy.1, hk1, hk2⟩)) (fun y hy => hy)
  all_goals
    refine .freeze _ 3 48 3 _ _ rfl (.weak _ ?_)
    (conv => whnf)
    exact ⟨_, [(1000000, strm n L _)], SV.le_refl _, ⟨⟨l, allK_le q1 p3, rfl⟩, _, by omega, by omega, rfl⟩, Res.le_refl _, trivial⟩
def bsG (x : Bsy) : Prop := x.v.length ≤ 8
-- BusyOf
theorem s71 (n : Nat) (L : Nat → Int) (hL : Rok n L) (a : Int) (h0 : 0 ≤ a) (ha : a ≤ 2^38) :
    FSpec Try.prog 12 [.ptr 1000000 0] [(1000000, strm n L a)] (fun y r => (∃ l, allK bsG 7 l ∧ y = .d (bsys l)) ∧ Moved n L a 50 r) := by
  refine spec_of hT (C := []) Try.func12 rfl Try.call12 rfl rfl rfl ?_
  conv => whnf
  repeat' (first
    | (refine CallX.of (s64 n L hL _ ?_ ?_ _ _ ?_ ?_ ?_ ?_) [(1000000, 1000000)] rfl ⟨SV.le_refl _, SV.le_refl _, SV.le_refl _, trivial⟩ ⟨Res.le_refl _, trivial⟩ rfl rfl ?_; rotate_right; rintro x rout ⟨⟨m, hm1, hm2, rfl⟩, ⟨c, c1, c2, rfl⟩⟩; refine ⟨rfl, ?_⟩; conv => whnf)
    | (refine br_intro (fun hb => ?_) (fun hb => ?_) <;> (try simp only [decide_eq_true_eq, decide_eq_false_iff_not, Bool.not_eq_true', Bool.not_eq_false', Bool.and_eq_true, Bool.or_eq_true, beq_iff_eq, not_and, Int.not_le, Int.not_lt, Int.toNat_natCast, beq_eq_false_iff_ne, ne_eq, eq_self, not_true_eq_false, not_false_eq_true] at hb) <;> (conv => whnf))
    | omega
    | (refine And.intro ?_ ?_; ((try dsimp only); first | omega | (refine ⟨by omega, by omega, Int.le_trans (Int.mul_le_mul_of_nonneg_right (Int.ofNat_le.2 (Nat.le_of_ble_eq_true (rfl : Nat.ble _ 1024 = true))) (by omega)) (by omega), by omega⟩) | (refine Nat.le_trans (Nat.mul_le_mul_left _ (Nat.le_of_ble_eq_true (rfl : Nat.ble _ 1024 = true))) ?_; omega) | (unfold inI64; omega) | (constructor <;> omega) | (simp only [inI64, List.length_cons, List.length_append, List.length_nil, List.length_set] at *; omega) | decide | (unfold inI64; decide)); conv => whnf)
    | omega | decide | assumption)
  refine LoopX.rule hT (C := []) (ι := Int × List Bsy × Nat) (fun (b, l, k) => (c ≤ b ∧ b ≤ c + 4 * k ∧ (k : Int) ≤ m) ∧ allK bsG k l)
    (fun (b, l, k) => mkSt [(0, .ptr 1000000 0), (3, .buf 3), (7, .d (.int .i64 m)), (8, .d (.int .i64 k))] [(1000000, strm n L b), (3, seqB 84 4 bsF bs0 l)])
    (fun (_, _, k) => 7 - k) (c, [], 0) ⟨⟨by simp, by simp, by simpa using hm1⟩, ⟨by simp, by simp⟩⟩ ?_ ?_
  · exact (Entails.nil 3 3 84 4 (rowF bsF bs0 []) rfl rfl (by decide)).trans (by refine Entails.mk' [(1000000, 1000000), (3, 3)] rfl rfl ?_ ?_ <;> repeat' (first | exact True.intro | exact SV.le_refl _ | exact Res.le_refl _ | exact SV.le_int (by omega) | exact SV.le_any _ | refine And.intro ?_ ?_))
  rintro ⟨b, l, k⟩ ⟨⟨p1, p2, p3⟩, q1⟩
  have hl1 := q1.1
  have hl7 : allK bsG 7 l := allK_le q1 (by omega)
  conv => whnf
  repeat' (first
    | (refine CallX.of (s64 n L hL _ ?_ ?_ 0 5 ?_ ?_ ?_ ?_) [(1000000, 1000000)] rfl ⟨SV.le_refl _, SV.le_refl _, SV.le_refl _, trivial⟩ ⟨Res.le_refl _, trivial⟩ rfl rfl ?_; rotate_right; rintro x rout ⟨⟨u0, hm3, hm4, rfl⟩, ⟨c, c1, c2, rfl⟩⟩; refine ⟨rfl, ?_⟩; conv => whnf)
    | (refine CallX.of (s84 n L hL _ ?_ ?_ _ ?_) [(1000000, 1000000)] rfl ⟨SV.le_refl _, SV.le_refl _, trivial⟩ ⟨Res.le_refl _, trivial⟩ rfl rfl ?_; rotate_right; rintro x rout ⟨⟨f, rfl⟩, ⟨c, c1, c2, rfl⟩⟩; refine ⟨rfl, ?_⟩; conv => whnf)
    | (refine CallX.of (s86 n L hL _ ?_ ?_ _ ?_) [(1000000, 1000000)] rfl ⟨SV.le_refl _, SV.le_refl _, trivial⟩ ⟨Res.le_refl _, trivial⟩ rfl rfl ?_; rotate_right; rintro x rout ⟨⟨j, hj1, hj2, hj3, rfl⟩, ⟨c, c1, c2, rfl⟩⟩; refine ⟨rfl, ?_⟩; conv => whnf)
    | (refine CallX.of (s33 n L hL _ ?_ ?_ [0, 1, 1, 2, 4] ?_ ?_) [(1000000, 1000000)] rfl ⟨SV.le_refl _, SV.le_lit rfl rfl, trivial⟩ ⟨Res.le_refl _, trivial⟩ rfl rfl ?_; rotate_right; rintro x rout ⟨⟨u1, hu1, rfl⟩, ⟨c, c1, c2, rfl⟩⟩; have hw1 := mem_bd hu1 rfl; refine ⟨rfl, ?_⟩; conv => whnf)
    | (refine CallX.of (s33 n L hL _ ?_ ?_ [0, 50, 50, 80, 100] ?_ ?_) [(1000000, 1000000)] rfl ⟨SV.le_refl _, SV.le_lit rfl rfl, trivial⟩ ⟨Res.le_refl _, trivial⟩ rfl rfl ?_; rotate_right; rintro x rout ⟨⟨u2, hu2, rfl⟩, ⟨c, c1, c2, rfl⟩⟩; refine ⟨rfl, ?_⟩; conv => whnf)
    | (refine CallX.of (s104 n L hL _ ?_ ?_ 0 4001 ?_ ?_ ?_) [(1000000, 1000000)] rfl ⟨SV.le_refl _, SV.le_refl _, SV.le_refl _, trivial⟩ ⟨Res.le_refl _, trivial⟩ rfl rfl ?_; rotate_right; rintro x rout ⟨⟨u5, hk1, hk2, rfl⟩, ⟨c, c1, c2, rfl⟩⟩; refine ⟨rfl, ?_⟩; conv => whnf)
    | (refine CallX.of (s104 n L hL _ ?_ ?_ 0 1000000 ?_ ?_ ?_) [(1000000, 1000000)] rfl ⟨SV.le_refl _, SV.le_refl _, SV.le_refl _, trivial⟩ ⟨Res.le_refl _, trivial⟩ rfl rfl ?_; rotate_right; rintro x rout ⟨⟨u6, hk3, hk4, rfl⟩, ⟨c, c1, c2, rfl⟩⟩; refine ⟨rfl, ?_⟩; conv => whnf)
    | (refine CallX.of (s15 n L hL _ ?_ ?_ [[118, 49], [118, 50], [118, 51], [118, 57]] ?_ ?_) [(1000000, 1000000)] rfl ⟨SV.le_refl _, SV.le_lit rfl rfl, trivial⟩ ⟨Res.le_refl _, trivial⟩ rfl rfl ?_; rotate_right; rintro x rout ⟨⟨u3, hu3, rfl⟩, ⟨c, c1, c2, rfl⟩⟩; refine ⟨rfl, ?_⟩; conv => whnf)
    | (refine CallX.of (s15 n L hL _ ?_ ?_ [_, []] (by simp) (by simp)) [(1000000, 1000000)] rfl ⟨SV.le_refl _, SV.le_lit rfl rfl, trivial⟩ ⟨Res.le_refl _, trivial⟩ rfl rfl ?_; rotate_right; rintro x rout ⟨⟨u3, hu3, rfl⟩, ⟨c, c1, c2, rfl⟩⟩; refine ⟨rfl, ?_⟩; conv => whnf)
    | (refine br_intro (fun hb => ?_) (fun hb => ?_) <;> (try simp only [decide_eq_true_eq, decide_eq_false_iff_not, Bool.not_eq_true', Bool.not_eq_false', Bool.and_eq_true, Bool.or_eq_true, beq_iff_eq, not_and, Int.not_le, Int.not_lt, Int.toNat_natCast, beq_eq_false_iff_ne, ne_eq, eq_self, not_true_eq_false, not_false_eq_true] at hb) <;> (conv => whnf))
    | omega
    | (refine And.intro ?_ ?_; ((try dsimp only); first | omega | (refine ⟨by omega, by omega, Int.le_trans (Int.mul_le_mul_of_nonneg_right (Int.ofNat_le.2 (Nat.le_of_ble_eq_true (rfl : Nat.ble _ 1024 = true))) (by omega)) (by omega), by omega⟩) | (refine Nat.le_trans (Nat.mul_le_mul_left _ (Nat.le_of_ble_eq_true (rfl : Nat.ble _ 1024 = true))) ?_; omega) | (unfold inI64; omega) | (constructor <;> omega) | (simp only [inI64, List.length_cons, List.length_append, List.length_nil, List.length_set] at *; omega) | decide | (unfold inI64; decide)); conv => whnf)
    | omega | decide | assumption)
  · refine ⟨(_, _, k + 1), ?_, ?_, Entails.mk' [(1000000, 1000000), (3, 27)] rfl rfl ⟨SV.le_refl _, SV.le_refl _, SV.le_refl _, SV.le_refl _, trivial⟩ ⟨Res.le_refl _, Res.le_snocF (x := ⟨_, _, _, _⟩) rfl, trivial⟩⟩
    · exact ⟨⟨by omega, by omega, by omega⟩, allK_snoc q1 (Nat.le_refl _) (mem_len hu3 rfl)⟩
    · show 7 - (k + 1) < 7 - k; omega
  · refine .freeze _ 3 84 4 _ _ rfl (.weak _ ?_)
    (conv => whnf)
    have hu3' : u3.length ≤ 8 := by
      have hm := q1.2 _ (getD_mem (l := l) (i := j.toNat) (x := bs0) (by omega))
      simp only [List.mem_cons, List.not_mem_nil, or_false] at hu3
      rcases hu3 with rfl | rfl
      · exact hm
      · simp
    refine ⟨_, [(1000000, strm n L _)], SV.le_upd3 (f := bsF) (d := bs0) (l := l) (fun y => ⟨u3, y.fr, y.to, y.cents⟩) (fun y => ⟨y.v, y.fr, u5, y.cents⟩) (fun y => ⟨y.v, y.fr, y.to, u6⟩) (fun _ => rfl) (fun _ => rfl) (fun _ => rfl), ⟨⟨_, ?_, rfl⟩, _, by omega, by omega, rfl⟩, Res.le_refl _, trivial⟩
    exact allK_upd (g := fun y : Bsy => (⟨y.v, y.fr, y.to, u6⟩ : Bsy)) (allK_upd (g := fun y : Bsy => (⟨y.v, y.fr, u5, y.cents⟩ : Bsy)) (allK_upd (g := fun y : Bsy => (⟨u3, y.fr, y.to, y.cents⟩ : Bsy)) hl7 (fun y hy => (hu3' : bsG ⟨u3, y.fr, y.to, y.cents⟩))) (fun y hy => hy)) (fun y hy => hy)
  all_goals
    refine .freeze _ 3 84 4 _ _ rfl (.weak _ ?_)
    (conv => whnf)
    exact ⟨_, [(1000000, strm n L _)], SV.le_refl _, ⟨⟨l, hl7, rfl⟩, _, by omega, by omega, rfl⟩, Res.le_refl _, trivial⟩
def plG (x : Plc) : Prop := x.v.length ≤ 8
-- placed
end Go.Proofs.Ytnkdlkgannnfhaa
set_option maxRecDepth 20000
namespace Go.Proofs.Ytnkdlkgannnfhaa
open Go Go.Eng
structure Ned where
  st : List UInt8
  many : Int
def ndF : Ned → List DV := fun s => [.str s.st, .int .i64 s.many]
def nd0 : Ned := ⟨[], 0⟩
abbrev neds (l : List Ned) : DV := seqD 2 ndF nd0 l
structure Roa where
  a : List UInt8
  b : List UInt8
  car : Int
  ride : Int
def rdF : Roa → List DV := fun s => [.str s.a, .str s.b, .int .i64 s.car, .int .i64 s.ride]
def rd0 : Roa := ⟨[], [], 0, 0⟩
abbrev roas (l : List Roa) : DV := seqD 4 rdF rd0 l
structure Mov where
  a : List UInt8
  b : List UInt8
  many : Int
def mvF : Mov → List DV := fun s => [.str s.a, .str s.b, .int .i64 s.many]
def mv0 : Mov := ⟨[], [], 0⟩
abbrev movs (l : List Mov) : DV := seqD 3 mvF mv0 l
def ndE (l : List Ned) (i : Nat) : Int :=
  let x := l.getD i nd0
  if isKeyB x.st = false then 5 else if 0 < i ∧ strLe x.st (l.getD (i - 1) nd0).st = true then 7 else if ¬ (-20 ≤ x.many ∧ x.many ≤ 20) then 1 else 0
def ndsE (l : List Ned) : Int := if 10 < l.length then 2 else firstAt (ndE l) l.length
def ndK (x : Ned) : Prop := x.st.length ≤ 2^40
def ndOk (l : List Ned) : Prop := l.length ≤ 2^40 ∧ ∀ x ∈ l, ndK x
def endsC (a b c d : List UInt8) : Int := firstE [cmpS a c, cmpS b d]
def rdE (l : List Roa) (i : Nat) : Int :=
  let x := l.getD i rd0
  if isKeyB x.a = false ∨ isKeyB x.b = false then 5 else if x.a = x.b then 14 else if 0 < i ∧ 0 ≤ endsC (l.getD (i - 1) rd0).a (l.getD (i - 1) rd0).b x.a x.b then 7 else if ¬ ((0 ≤ x.car ∧ x.car ≤ 1000000) ∧ (0 ≤ x.ride ∧ x.ride ≤ 1000000)) then 1 else 0
def rdsE (l : List Roa) : Int := if 2500 < l.length then 2 else firstAt (rdE l) l.length
def rdK (x : Roa) : Prop := x.a.length ≤ 2^40 ∧ x.b.length ≤ 2^40
def rdOk (l : List Roa) : Prop := l.length ≤ 2^40 ∧ ∀ x ∈ l, rdK x
-- shift.byEnds
theorem s204 (a b c d : List UInt8) : FSpec Try.prog 74 [.d (.str a), .d (.str b), .d (.str c), .d (.str d)] [] (fun x r => x = .d (.int .i64 (endsC a b c d)) ∧ r = []) := by
  refine spec_of hT (C := []) Try.func74 rfl Try.call74 rfl rfl rfl ?_
  conv => whnf
  repeat' (first
    | (refine CallX.exact (s184 _ _) rfl rfl ?_; rotate_right; conv => whnf)
    | (refine CallX.pure (s182 [_, _] (by simp)) ⟨SV.le_lit (by rfl) (by rfl), trivial⟩ rfl ?_; conv => whnf)
    | (refine br_intro (fun hb => ?_) (fun hb => ?_) <;> (try simp only [decide_eq_true_eq, decide_eq_false_iff_not, Bool.not_eq_true', Bool.not_eq_false', Bool.and_eq_true, Bool.or_eq_true, beq_iff_eq, not_and, Int.not_le, Int.not_lt, Int.toNat_natCast, beq_eq_false_iff_ne, ne_eq, eq_self, not_true_eq_false, not_false_eq_true] at hb) <;> (conv => whnf))
    | omega
    | (refine And.intro ?_ ?_; ((try dsimp only); first | omega | (refine ⟨by omega, by omega, Int.le_trans (Int.mul_le_mul_of_nonneg_right (Int.ofNat_le.2 (Nat.le_of_ble_eq_true (rfl : Nat.ble _ 1024 = true))) (by omega)) (by omega), by omega⟩) | (refine Nat.le_trans (Nat.mul_le_mul_left _ (Nat.le_of_ble_eq_true (rfl : Nat.ble _ 1024 = true))) ?_; omega) | (unfold inI64; omega) | (constructor <;> omega) | (simp only [inI64, List.length_cons, List.length_append, List.length_nil, List.length_set] at *; omega) | decide | (unfold inI64; decide)); conv => whnf)
    | omega | decide | assumption)
  refine .ret _ ?_
  conv => whnf
  refine ⟨[], ⟨?_, rfl⟩, trivial⟩
  conv => lhs; whnf
  rfl
-- shift.CheckNeeds
theorem s163 (l : List Ned) (hk : ndOk l) : FSpec Try.prog 62 [.d (neds l)] [] (fun x r => x = .d (.int .i64 (ndsE l)) ∧ r = []) := by
  refine spec_of hT (C := []) Try.func62 rfl Try.call62 rfl rfl rfl ?_
  conv => whnf
  refine br_intro (fun h0 => ?_) (fun h0 => ?_)
  · simp at h0
    conv => whnf
    refine .ret _ ?_
    conv => whnf
    refine ⟨[], ⟨?_, rfl⟩, trivial⟩
    conv => lhs; whnf
    unfold ndsE; rw [if_pos (by omega)]
  simp at h0
  conv => whnf
  refine LoopX.rule hT (C := []) (ι := Nat) (fun i => i ≤ l.length ∧ ∀ j, j < i → ndE l j = 0) (fun i => mkSt [(0, .d (neds l)), (8, .d (neds l)), (9, .d (.int .i64 l.length)), (10, .d (.int .i64 i))] []) (fun i => l.length - i) 0 ⟨by omega, by omega⟩ (by refine Entails.mk' [] rfl rfl ?_ ?_ <;> repeat' (first | exact True.intro | exact SV.le_refl _ | exact Res.le_refl _ | exact SV.le_int (by omega) | exact SV.le_any _ | refine And.intro ?_ ?_)) ?_
  rintro i ⟨p1, p2⟩
  have hx : (i : Int) < l.length → ndK (l.getD (i : Int).toNat nd0) := fun hi => hk.2 _ (getD_mem (by omega))
  have e1 : (i : Int).toNat = i := Int.toNat_natCast i
  have hbad : ∀ e : Int, i < l.length → e ≠ 0 → ndE l i = e → ndsE l = e := fun e h h1 h2 => by
    unfold ndsE; rw [if_neg (by omega)]
    exact firstAt_eq h p2 h1 h2
  conv => whnf
  repeat' (first
    | (refine CallX.exact (s108 _ (hx (by omega))) rfl rfl ?_; rotate_right; conv => whnf)
    | (refine CallX.exact (s119 _ _ _) rfl rfl ?_; rotate_right; conv => whnf)
    | (refine br_intro (fun hb => ?_) (fun hb => ?_) <;> (try simp only [decide_eq_true_eq, decide_eq_false_iff_not, Bool.not_eq_true', Bool.not_eq_false', Bool.and_eq_true, Bool.or_eq_true, beq_iff_eq, not_and, Int.not_le, Int.not_lt, Int.toNat_natCast, beq_eq_false_iff_ne, ne_eq, eq_self, not_true_eq_false, not_false_eq_true] at hb) <;> (conv => whnf))
    | (refine RegX.rule (id := 8) hT rfl [] [(0, []), (1, []), (2, []), (3, []), (4, []), (5, [3, 4]), (6, [3, 4, 5]), (7, [3, 4, 5]), (8, [3, 4]), (9, [3, 4]), (10, [3, 4]), (11, []), (12, []), (13, [])] (by decide +kernel) ?_; conv => whnf)
    | omega
    | (refine And.intro ?_ ?_; ((try dsimp only); first | omega | (refine ⟨by omega, by omega, Int.le_trans (Int.mul_le_mul_of_nonneg_right (Int.ofNat_le.2 (Nat.le_of_ble_eq_true (rfl : Nat.ble _ 1024 = true))) (by omega)) (by omega), by omega⟩) | (refine Nat.le_trans (Nat.mul_le_mul_left _ (Nat.le_of_ble_eq_true (rfl : Nat.ble _ 1024 = true))) ?_; omega) | (unfold inI64; omega) | (constructor <;> omega) | (simp only [inI64, List.length_cons, List.length_append, List.length_nil, List.length_set] at *; omega) | decide | (unfold inI64; decide)); conv => whnf)
    | omega | decide | assumption)
  all_goals first
    | (refine ⟨i + 1, ⟨by omega, first_step p2 (by clear p2 hbad hk hx; simp only [e1, toNat_pred] at *; unfold ndE strLe; grind)⟩, by omega, (by refine Entails.mk' [] rfl rfl ?_ ?_ <;> repeat' (first | exact True.intro | exact SV.le_refl _ | exact Res.le_refl _ | exact SV.le_int (by omega) | exact SV.le_any _ | refine And.intro ?_ ?_))⟩)
    | (refine .ret _ ?_
       conv => whnf
       refine ⟨[], ⟨?_, rfl⟩, trivial⟩
       conv => lhs; whnf
       congr 2
       first
         | exact (hbad _ (by omega) (by decide) (by clear p2 hbad hk hx; simp only [e1, toNat_pred] at *; unfold ndE strLe; grind)).symm
         | (have : i = l.length := by omega
            subst this
            unfold ndsE; rw [if_neg (by omega), firstAt_zero p2]))
-- shift.CheckRoads
theorem s164 (l : List Roa) (hk : rdOk l) : FSpec Try.prog 63 [.d (roas l)] [] (fun x r => x = .d (.int .i64 (rdsE l)) ∧ r = []) := by
  refine spec_of hT (C := []) Try.func63 rfl Try.call63 rfl rfl rfl ?_
  conv => whnf
  refine br_intro (fun h0 => ?_) (fun h0 => ?_)
  · simp at h0
    conv => whnf
    refine .ret _ ?_
    conv => whnf
    refine ⟨[], ⟨?_, rfl⟩, trivial⟩
    conv => lhs; whnf
    unfold rdsE; rw [if_pos (by omega)]
  simp at h0
  conv => whnf
  refine LoopX.rule hT (C := []) (ι := Nat) (fun i => i ≤ l.length ∧ ∀ j, j < i → rdE l j = 0) (fun i => mkSt [(0, .d (roas l)), (8, .d (roas l)), (9, .d (.int .i64 l.length)), (10, .d (.int .i64 i))] []) (fun i => l.length - i) 0 ⟨by omega, by omega⟩ (by refine Entails.mk' [] rfl rfl ?_ ?_ <;> repeat' (first | exact True.intro | exact SV.le_refl _ | exact Res.le_refl _ | exact SV.le_int (by omega) | exact SV.le_any _ | refine And.intro ?_ ?_)) ?_
  rintro i ⟨p1, p2⟩
  have hx : (i : Int) < l.length → rdK (l.getD (i : Int).toNat rd0) := fun hi => hk.2 _ (getD_mem (by omega))
  have e1 : (i : Int).toNat = i := Int.toNat_natCast i
  have hbad : ∀ e : Int, i < l.length → e ≠ 0 → rdE l i = e → rdsE l = e := fun e h h1 h2 => by
    unfold rdsE; rw [if_neg (by omega)]
    exact firstAt_eq h p2 h1 h2
  conv => whnf
  repeat' (first
    | (refine CallX.exact (s108 _ (hx (by omega)).1) rfl rfl ?_; rotate_right; conv => whnf)
    | (refine CallX.exact (s108 _ (hx (by omega)).2) rfl rfl ?_; rotate_right; conv => whnf)
    | (refine CallX.exact (s204 _ _ _ _) rfl rfl ?_; rotate_right; conv => whnf)
    | (refine CallX.exact (s119 _ _ _) rfl rfl ?_; rotate_right; conv => whnf)
    | (refine br_intro (fun hb => ?_) (fun hb => ?_) <;> (try simp only [decide_eq_true_eq, decide_eq_false_iff_not, Bool.not_eq_true', Bool.not_eq_false', Bool.and_eq_true, Bool.or_eq_true, beq_iff_eq, not_and, Int.not_le, Int.not_lt, Int.toNat_natCast, beq_eq_false_iff_ne, ne_eq, eq_self, not_true_eq_false, not_false_eq_true] at hb) <;> (conv => whnf))
    | (refine RegX.rule (id := 10) hT rfl [] [(0, []), (1, []), (2, []), (3, []), (4, [3]), (5, [3]), (6, []), (7, []), (8, []), (9, [3, 4, 5, 6, 7, 8]), (10, [3, 4, 5, 6, 7, 8, 9]), (11, [3, 4, 5, 6, 7, 8, 9]), (12, [3, 4, 5, 6, 7, 8]), (13, [3, 4, 5, 6, 7, 8]), (14, [3, 4, 5, 6, 7, 8]), (15, [3, 4, 5, 6, 7, 8, 9, 10, 11, 12, 13, 14]), (16, [3, 4, 5, 6, 7, 8, 9, 10, 11, 12, 13, 14]), (17, [3, 4, 5, 6, 7, 8, 9, 10, 11, 12, 13, 14, 15, 16]), (18, [3, 4, 5, 6, 7, 8, 9, 10, 11, 12, 13, 14, 15, 16]), (19, []), (20, []), (21, []), (22, [])] (by decide +kernel) ?_; conv => whnf)
    | omega
    | (refine And.intro ?_ ?_; ((try dsimp only); first | omega | (refine ⟨by omega, by omega, Int.le_trans (Int.mul_le_mul_of_nonneg_right (Int.ofNat_le.2 (Nat.le_of_ble_eq_true (rfl : Nat.ble _ 1024 = true))) (by omega)) (by omega), by omega⟩) | (refine Nat.le_trans (Nat.mul_le_mul_left _ (Nat.le_of_ble_eq_true (rfl : Nat.ble _ 1024 = true))) ?_; omega) | (unfold inI64; omega) | (constructor <;> omega) | (simp only [inI64, List.length_cons, List.length_append, List.length_nil, List.length_set] at *; omega) | decide | (unfold inI64; decide)); conv => whnf)
    | omega | decide | assumption)
  all_goals first
    | (refine ⟨i + 1, ⟨by omega, first_step p2 (by clear p2 hbad hk hx; simp only [e1, toNat_pred] at *; unfold rdE ; grind)⟩, by omega, (by refine Entails.mk' [] rfl rfl ?_ ?_ <;> repeat' (first | exact True.intro | exact SV.le_refl _ | exact Res.le_refl _ | exact SV.le_int (by omega) | exact SV.le_any _ | refine And.intro ?_ ?_))⟩)
    | (refine .ret _ ?_
       conv => whnf
       refine ⟨[], ⟨?_, rfl⟩, trivial⟩
       conv => lhs; whnf
       congr 2
       first
         | exact (hbad _ (by omega) (by decide) (by clear p2 hbad hk hx; simp only [e1, toNat_pred] at *; unfold rdE ; grind)).symm
         | (have : i = l.length := by omega
            subst this
            unfold rdsE; rw [if_neg (by omega), firstAt_zero p2]))
-- shift.checkTask
theorem s113 (l : List Ned) (m : List Roa) (hl : ndOk l) (hm : rdOk m) : FSpec Try.prog 44 [.d (neds l), .d (roas m)] [] (fun x r => x = .d (.int .i64 (firstE [ndsE l, rdsE m])) ∧ r = []) := by
  refine spec_of hT (C := []) Try.func44 rfl Try.call44 rfl rfl rfl ?_
  conv => whnf
  repeat' (first
    | (refine CallX.exact (s163 l hl) rfl rfl ?_; rotate_right; conv => whnf)
    | (refine CallX.exact (s164 m hm) rfl rfl ?_; rotate_right; conv => whnf)
    | (refine CallX.pure (s105 [_, _] (by simp)) ⟨SV.le_lit (by rfl) (by rfl), trivial⟩ rfl ?_; conv => whnf)
    | (refine br_intro (fun hb => ?_) (fun hb => ?_) <;> (try simp only [decide_eq_true_eq, decide_eq_false_iff_not, Bool.not_eq_true', Bool.not_eq_false', Bool.and_eq_true, Bool.or_eq_true, beq_iff_eq, not_and, Int.not_le, Int.not_lt, Int.toNat_natCast, beq_eq_false_iff_ne, ne_eq, eq_self, not_true_eq_false, not_false_eq_true] at hb) <;> (conv => whnf))
    | omega
    | (refine And.intro ?_ ?_; ((try dsimp only); first | omega | (refine ⟨by omega, by omega, Int.le_trans (Int.mul_le_mul_of_nonneg_right (Int.ofNat_le.2 (Nat.le_of_ble_eq_true (rfl : Nat.ble _ 1024 = true))) (by omega)) (by omega), by omega⟩) | (refine Nat.le_trans (Nat.mul_le_mul_left _ (Nat.le_of_ble_eq_true (rfl : Nat.ble _ 1024 = true))) ?_; omega) | (unfold inI64; omega) | (constructor <;> omega) | (simp only [inI64, List.length_cons, List.length_append, List.length_nil, List.length_set] at *; omega) | decide | (unfold inI64; decide)); conv => whnf)
    | omega | decide | assumption)
  refine .ret _ ?_
  conv => whnf
  refine ⟨[], ⟨?_, rfl⟩, trivial⟩
  conv => lhs; whnf
-- the program's own try
def tN : List Ned := [⟨[97], 1⟩, ⟨[98], -1⟩]
def tR : List Roa := [⟨[97], [98], 4, 0⟩]
theorem s113t : FSpec Try.prog 44 [.d (neds tN), .d (roas tR)] [] (fun x r => x = .d (.int .i64 0) ∧ r = []) := by
  have h := s113 tN tR ⟨by simp [tN], by intro x hx; simp [tN] at hx; rcases hx with rfl | rfl <;> simp [ndK]⟩ ⟨by simp [tR], by intro x hx; simp [tR] at hx; subst hx; simp [rdK]⟩
  rwa [show firstE [ndsE tN, rdsE tR] = 0 by decide] at h
end Go.Proofs.Ytnkdlkgannnfhaa
set_option maxRecDepth 20000
namespace Go.Proofs.Ytnkdlkgannnfhaa
open Go Go.Eng
def nHas (l : List Roa) : Nat → List DV → Bool
  | 0 => fun _ => false
  | n + 1 => fun q => keyEq q [.str (l.getD n rd0).a, .str (l.getD n rd0).b] || nHas l n q
def nVal (l : List Roa) : Nat → List DV → List DV
  | 0 => fun _ => [.str [], .str [], .int .i64 0, .int .i64 0]
  | n + 1 => fun q => bif keyEq q [.str (l.getD n rd0).a, .str (l.getD n rd0).b] then rdF (l.getD n rd0) else nVal l n q
abbrev netR (l : List Roa) (n : Nat) : Res := .map true true [.str, .str] [.str [], .str [], .int .i64 0, .int .i64 0] (nHas l n) (nVal l n)
-- shift.netOf
theorem s165 (l : List Roa) (hl : l.length ≤ 2^40) : FSpec Try.prog 64 [.d (roas l)] [] (fun y r => y = .mp 3 ∧ r = [(3, netR l l.length)]) := by
  refine spec_of hT (C := []) Try.func64 rfl Try.call64 rfl rfl rfl ?_
  conv => whnf
  refine LoopX.rule hT (C := []) (ι := Nat) (fun i => i ≤ l.length) (fun i => mkSt [(3, .mp 3), (7, .d (roas l)), (8, .d (.int .i64 l.length)), (9, .d (.int .i64 i))] [(3, netR l i)]) (fun i => l.length - i) 0 (by omega) ?_ ?_
  · exact Entails.mk' [(3, 6)] rfl rfl ⟨SV.le_refl _, SV.le_refl _, SV.le_refl _, SV.le_refl _, trivial⟩ ⟨Res.le_refl _, trivial⟩
  rintro i p1
  conv => whnf
  repeat' (first
    | (refine br_intro (fun hb => ?_) (fun hb => ?_) <;> (try simp only [decide_eq_true_eq, decide_eq_false_iff_not, Bool.not_eq_true', Bool.not_eq_false', Bool.and_eq_true, Bool.or_eq_true, beq_iff_eq, not_and, Int.not_le, Int.not_lt, Int.toNat_natCast, beq_eq_false_iff_ne, ne_eq, eq_self, not_true_eq_false, not_false_eq_true] at hb) <;> (conv => whnf))
    | omega
    | (refine And.intro ?_ ?_; ((try dsimp only); first | omega | (refine ⟨by omega, by omega, Int.le_trans (Int.mul_le_mul_of_nonneg_right (Int.ofNat_le.2 (Nat.le_of_ble_eq_true (rfl : Nat.ble _ 1024 = true))) (by omega)) (by omega), by omega⟩) | (refine Nat.le_trans (Nat.mul_le_mul_left _ (Nat.le_of_ble_eq_true (rfl : Nat.ble _ 1024 = true))) ?_; omega) | (unfold inI64; omega) | (constructor <;> omega) | (simp only [inI64, List.length_cons, List.length_append, List.length_nil, List.length_set] at *; omega) | decide | (unfold inI64; decide)); conv => whnf)
    | omega | decide | assumption)
  · exact ⟨i + 1, by omega, by omega, Entails.mk' [(3, 3)] rfl rfl ⟨SV.le_refl _, SV.le_refl _, SV.le_refl _, SV.le_refl _, trivial⟩ ⟨Res.le_refl _, trivial⟩⟩
  · have : i = l.length := by omega
    subst this
    refine .ret _ ?_
    conv => whnf
    exact ⟨_, ⟨rfl, rfl⟩, Res.le_refl _, trivial⟩
structure Arc where
  fr : Int
  to : Int
  car : Int
  flow : Int
def arF : Arc → List DV := fun s => [.int .i64 s.fr, .int .i64 s.to, .int .i64 s.car, .int .i64 s.flow]
def ar0 : Arc := ⟨0, 0, 0, 0⟩
abbrev froI (l : List Int) : Res := .fro 1 l.length (rowF iF 0 l)
abbrev arcB (l : List Arc) : Res := seqB 111 4 arF ar0 l
set_option maxHeartbeats 4000000 in
-- shift.transportOf, of the try
theorem s114t : FSpec Try.prog 45 [.d (neds tN), .d (roas tR)] [] (fun y r => y = .ptr 20 0 ∧ r = [(20, .cells 109 [.buf 15, .buf 18, .buf 88]), (15, froI [1, 0]), (18, froI [0, 1]), (88, arcB [⟨0, 1, 4, 0⟩])]) := by
  refine spec_of hT (C := []) Try.func45 rfl Try.call45 rfl rfl rfl ?_
  conv => whnf
  repeat' (first
    | (refine CallX.of (s165 tR (by simp [tR])) [(3, 22)] rfl ⟨SV.le_refl _, trivial⟩ trivial rfl rfl ?_; rintro x rout ⟨rfl, rfl⟩; refine ⟨rfl, ?_⟩; conv => whnf)
    | (refine LoopX.run hT (C := []) 8 rfl [0, 5, 6, 23, 24, 25] [] (fun _ _ h => h) (fun _ h => h) ?_; conv => whnf)
    | (refine LoopX.run hT (C := []) 16 rfl [0, 5, 6, 7, 8, 23, 24, 25, 49, 50, 51] [] (fun _ _ h => h) (fun _ h => h) ?_; conv => whnf)
    | (refine And.intro (rfl : zrow _ = some [.str [], .str [], .int .i64 0, .int .i64 0]) ?_; conv => whnf)
    | (refine br_intro (fun hb => ?_) (fun hb => ?_) <;> (try simp only [decide_eq_true_eq, decide_eq_false_iff_not, Bool.not_eq_true', Bool.not_eq_false', Bool.and_eq_true, Bool.or_eq_true, beq_iff_eq, not_and, Int.not_le, Int.not_lt, Int.toNat_natCast, beq_eq_false_iff_ne, ne_eq, eq_self, not_true_eq_false, not_false_eq_true] at hb) <;> (conv => whnf))
    | (refine RegX.rule (id := 1) hT rfl [] [(0, []), (1, []), (2, []), (3, [0, 1, 2]), (4, [0, 1, 2]), (5, [0, 1, 2]), (6, []), (7, []), (8, [])] (by decide +kernel) ?_; conv => whnf)
    | (refine RegX.rule (id := 6) hT rfl [] [(0, []), (1, []), (2, []), (3, []), (4, [0, 1, 2, 3]), (5, [0, 1, 2, 3, 4]), (6, [0, 1, 2, 3, 4]), (7, [0, 1, 2, 3, 4]), (8, [0, 1, 2, 3, 4]), (9, [0, 1, 2, 3, 4, 5, 6, 7, 8]), (10, [0, 1, 2, 3, 4, 5, 6, 7, 8, 9]), (11, [0, 1, 2, 3, 4, 5, 6, 7, 8, 9]), (12, [0, 1, 2, 3, 4, 5, 6, 7, 8, 9]), (13, [0, 1, 2, 3, 4, 5, 6, 7, 8, 9, 10, 11, 12]), (14, [0, 1, 2, 3, 4, 5, 6, 7, 8, 9, 10, 11, 12]), (15, [0, 1, 2, 3, 4, 5, 6, 7, 8, 9, 10, 11, 12]), (16, [0, 1, 2, 3, 4, 5, 6, 7, 8, 9, 10, 11, 12]), (17, [9, 13, 14, 15, 16]), (18, [9, 13, 14, 15, 16]), (19, []), (20, [])] (by decide +kernel) ?_; conv => whnf)
    | (refine RegX.rule (id := 12) hT rfl [] [(0, []), (1, [0]), (2, [0]), (3, [0]), (4, [0]), (5, [0, 1, 2, 3, 4]), (6, [0, 1, 2, 3, 4, 5]), (7, [0, 1, 2, 3, 4, 5, 6]), (8, [0, 1, 2, 3, 4, 5, 6]), (9, [0, 1, 2, 3, 4]), (10, [0, 1, 2, 3, 4]), (11, [0]), (12, []), (13, []), (14, [])] (by decide +kernel) ?_; conv => whnf)
    | omega
    | (refine And.intro ?_ ?_; ((try dsimp only); first | omega | (refine ⟨by omega, by omega, Int.le_trans (Int.mul_le_mul_of_nonneg_right (Int.ofNat_le.2 (Nat.le_of_ble_eq_true (rfl : Nat.ble _ 1024 = true))) (by omega)) (by omega), by omega⟩) | (refine Nat.le_trans (Nat.mul_le_mul_left _ (Nat.le_of_ble_eq_true (rfl : Nat.ble _ 1024 = true))) ?_; omega) | (unfold inI64; omega) | (constructor <;> omega) | (simp only [inI64, List.length_cons, List.length_append, List.length_nil, List.length_set] at *; omega) | decide | (unfold inI64; decide)); conv => whnf)
    | omega | decide | assumption)
  refine .freeze _ 15 3 1 _ _ rfl (.freeze _ 18 3 1 _ _ rfl (.ret _ ?_))
  conv => whnf
  refine ⟨_, ⟨rfl, rfl⟩, Res.le_refl _, Res.le_fro rfl ?_, Res.le_fro rfl ?_, Res.le_buf rfl ?_, trivial⟩
  · intro i hi
    have : i = 0 ∨ i = 1 := by simp [tN] at hi; omega
    rcases this with rfl | rfl <;> rfl
  · intro i hi
    have : i = 0 ∨ i = 1 := by simp [tN] at hi; omega
    rcases this with rfl | rfl <;> rfl
  · intro i hi
    have : i = 0 := by simp at hi; omega
    subst this; rfl
-- slices.Clone of numbers
theorem s166 (l : List Int) (hl : l.length ≤ 2^20) (h0 : 0 < l.length) : FSpec Try.prog 65 [.d (ints l)] [] (fun y r => y = .buf 7 ∧ r = [(7, seqB 3 1 iF 0 l)]) := by
  refine spec_of hT (C := [5]) Try.func65 rfl Try.call65 rfl rfl rfl ?_
  conv => whnf
  rintro b hbn
  conv => whnf
  repeat' (first
    | (refine br_intro (fun hb => ?_) (fun hb => ?_) <;> (try simp only [decide_eq_true_eq, decide_eq_false_iff_not, Bool.not_eq_true', Bool.not_eq_false', Bool.and_eq_true, Bool.or_eq_true, beq_iff_eq, not_and, Int.not_le, Int.not_lt, Int.toNat_natCast, beq_eq_false_iff_ne, ne_eq, eq_self, not_true_eq_false, not_false_eq_true] at hb) <;> (conv => whnf))
    | omega
    | (refine And.intro ?_ ?_; ((try dsimp only); first | omega | (refine ⟨by omega, by omega, Int.le_trans (Int.mul_le_mul_of_nonneg_right (Int.ofNat_le.2 (Nat.le_of_ble_eq_true (rfl : Nat.ble _ 1024 = true))) (by omega)) (by omega), by omega⟩) | (refine Nat.le_trans (Nat.mul_le_mul_left _ (Nat.le_of_ble_eq_true (rfl : Nat.ble _ 1024 = true))) ?_; omega) | (unfold inI64; omega) | (constructor <;> omega) | (simp only [inI64, List.length_cons, List.length_append, List.length_nil, List.length_set] at *; omega) | decide | (unfold inI64; decide)); conv => whnf)
    | omega | decide | assumption)
  · exact absurd (hbn (by assumption)) (by omega)
  · refine .ret _ ?_
    conv => whnf
    refine ⟨_, ⟨rfl, rfl⟩, Res.le_buf (by simp) (fun i hi => ?_), trivial⟩
    rw [appGet_ge (by omega)]; rfl
-- slices.Clone of no arcs
theorem s168e (g : Nat → List DV) : FSpec Try.prog 67 [.d (.ro 4 0 g)] [] (fun y r => y = .d (seqD 4 arF ar0 []) ∧ r = []) := by
  refine spec_of hT (C := [5]) Try.func67 rfl Try.call67 rfl rfl rfl ?_
  conv => whnf
  rintro b hbn
  conv => whnf
  repeat' (first
    | (refine br_intro (fun hb => ?_) (fun hb => ?_) <;> (try simp only [decide_eq_true_eq, decide_eq_false_iff_not, Bool.not_eq_true', Bool.not_eq_false', Bool.and_eq_true, Bool.or_eq_true, beq_iff_eq, not_and, Int.not_le, Int.not_lt, Int.toNat_natCast, beq_eq_false_iff_ne, ne_eq, eq_self, not_true_eq_false, not_false_eq_true] at hb) <;> (conv => whnf))
    | omega
    | (refine And.intro ?_ ?_; ((try dsimp only); first | omega | (refine ⟨by omega, by omega, Int.le_trans (Int.mul_le_mul_of_nonneg_right (Int.ofNat_le.2 (Nat.le_of_ble_eq_true (rfl : Nat.ble _ 1024 = true))) (by omega)) (by omega), by omega⟩) | (refine Nat.le_trans (Nat.mul_le_mul_left _ (Nat.le_of_ble_eq_true (rfl : Nat.ble _ 1024 = true))) ?_; omega) | (unfold inI64; omega) | (constructor <;> omega) | (simp only [inI64, List.length_cons, List.length_append, List.length_nil, List.length_set] at *; omega) | decide | (unfold inI64; decide)); conv => whnf)
    | omega | decide | assumption)
  · refine .weak _ ?_
    conv => whnf
    exact ⟨_, [], SV.le_nilS, ⟨rfl, rfl⟩, trivial⟩
  · refine .freeze _ 7 111 4 _ _ rfl (.weak _ ?_)
    conv => whnf
    exact ⟨_, [], SV.le_ro (by simp) (fun i hi => absurd hi (by simp)), ⟨rfl, rfl⟩, trivial⟩
end Go.Proofs.Ytnkdlkgannnfhaa
