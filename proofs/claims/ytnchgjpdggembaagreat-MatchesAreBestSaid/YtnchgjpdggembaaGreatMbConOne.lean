/- MatchesAreBest is proved: for every input the law returns true, and its argument reads afterwards as it read before. Conditions: those of the given row alone. -/
import Derived.Test.YtnchgjpdggembaaGreatMbEngTwo
import Derived.Test.YtnchgjpdggembaaGreatProg
import Derived.Shelf.Strings.SlTrimAscii
import Derived.Shelf.Small.Strs
set_option linter.unusedVariables false
set_option linter.unusedSimpArgs false
set_option maxRecDepth 20000
namespace Go.Proofs.YtnchgjpdggembaaGreat
open Go Go.Eng
/-- The structs that are compared. -/
def eqTab : List Nat := [123, 46, 43, 164, 86, 131]
theorem eqTab_ok : eqTab.all (eqFits Tryz.prog) = true := by decide +kernel
noncomputable def T : Tab := tiOf Tryz.prog (mem eqTab)
theorem hT : TabOk Tryz.prog T := ⟨mem eqTab, fun _ _ h => h, fun t ht => List.all_eq_true.1 eqTab_ok t ((mem_iff _ _).1 ht)⟩
abbrev i64 (n : Int) : DV := .int .i64 n
def strm (n : Nat) (L : Nat → Int) (at' : Int) : Res := .cells 25 [.d (.ro 1 n fun i => [.int .i64 (L i)]), .d (.int .i64 at')]
def Rok (n : Nat) (L : Nat → Int) : Prop := n ≤ maxLen ∧ ∀ i, -2^63 ≤ L i ∧ L i < 2^63
theorem s148 (x n : Int) (hn : n ≤ 2^40) : FSpec Tryz.prog 51 [.d (.int .i64 x), .d (.int .i64 n)] [] (fun y r => (∃ m : Int, 0 ≤ m ∧ (1 ≤ n → m < n) ∧ (n < 1 → m = 0) ∧ y = .d (.int .i64 m)) ∧ r = []) := by
  refine spec_of hT (C := []) Tryz.func51 rfl Tryz.call51 rfl rfl rfl ?_
  conv => whnf
  refine br_intro (fun h => ?_) (fun h => ?_)
  · conv => whnf
    refine .ret _ ?_
    conv => whnf
    refine ⟨[], ⟨⟨_, ?_, ?_, ?_, rfl⟩, rfl⟩, trivial⟩
    all_goals (simp at h; omega)
  · conv => whnf
    refine ⟨?_, ?_⟩
    · simp at h; omega
    conv => whnf
    simp at h
    have h1 := Int.tmod_lt_of_pos x (b := n) (by omega)
    have h2 := Int.lt_tmod_of_pos x (b := n) (by omega)
    refine br_intro (fun h2 => ?_) (fun h2 => ?_)
    · conv => whnf
      simp at h2
      refine ⟨?_, ?_⟩
      · unfold inI64; omega
      · conv => whnf
        refine .ret _ ?_
        conv => whnf
        refine ⟨[], ⟨⟨_, ?_, ?_, ?_, rfl⟩, rfl⟩, trivial⟩
        all_goals omega
    · conv => whnf
      simp at h2
      refine .ret _ ?_
      conv => whnf
      refine ⟨[], ⟨⟨_, ?_, ?_, ?_, rfl⟩, rfl⟩, trivial⟩
      all_goals omega
theorem nextB {a n : Int} (h0 : 0 ≤ a) (hn : 1 ≤ n) : 0 ≤ a.tdiv n ∧ a.tdiv n ≤ a ∧ 0 ≤ a.tmod n ∧ a.tmod n < n ∧ 0 ≤ a.tdiv n * a.tmod n ∧ a.tdiv n * a.tmod n ≤ a ∧ a.tmod n ≤ a := by
  have h1 : 0 ≤ a.tdiv n := Int.tdiv_nonneg h0 (by omega)
  have h2 : 0 ≤ a.tmod n := Int.tmod_nonneg _ h0
  have h3 : a.tmod n < n := Int.tmod_lt_of_pos _ (by omega)
  have h4 := Int.tmod_add_mul_tdiv a n
  have h5 : a.tdiv n * 1 ≤ a.tdiv n * n := Int.mul_le_mul_of_nonneg_left hn h1
  have h6 : a.tdiv n * a.tmod n ≤ a.tdiv n * n := Int.mul_le_mul_of_nonneg_left (by omega) h1
  have h7 : 0 ≤ a.tdiv n * a.tmod n := Int.mul_nonneg h1 h2
  rw [Int.mul_comm] at h4
  have h8 : 0 ≤ a.tdiv n * n := Int.mul_nonneg h1 (by omega)
  refine ⟨h1, ?_, h2, h3, h7, ?_, ?_⟩ <;> omega
theorem s86 (n : Nat) (L : Nat → Int) (hL : Rok n L) (a : Int) (h0 : 0 ≤ a) (ha : a ≤ 2^40) (m : Int) (hm : m ≤ 2^40) :
    FSpec Tryz.prog 24 [.ptr 1000000 0, .d (.int .i64 m)] [(1000000, strm n L a)] (fun y r => (∃ j : Int, 0 ≤ j ∧ (1 ≤ m → j < m) ∧ (m < 1 → j = 0) ∧ y = .d (.int .i64 j)) ∧ r = [(1000000, strm n L (a + 1))]) := by
  refine spec_of hT (C := []) Tryz.func24 rfl Tryz.call24 rfl rfl rfl ?_
  conv => whnf
  refine ⟨by unfold inI64; omega, ?_⟩
  conv => whnf
  refine br_intro (fun h => ?_) (fun h => ?_)
  · conv => whnf
    refine ⟨by unfold inI64; omega, ?_⟩
    conv => whnf
    refine CallX.of (s148 _ _ hm) [] rfl ⟨SV.le_refl _, SV.le_refl _, trivial⟩ trivial rfl rfl ?_
    rintro x rout ⟨⟨j, j1, j2, j3, rfl⟩, rfl⟩
    refine ⟨rfl, ?_⟩
    conv => whnf
    refine .ret _ ?_
    conv => whnf
    exact ⟨[(1000000, strm n L (a + 1))], ⟨⟨_, j1, j2, j3, rfl⟩, rfl⟩, Res.le_refl _, trivial⟩
  · conv => whnf
    simp at h
    have hnp : (1:Int) ≤ n := by omega
    refine RegX.rule hT rfl [] [(0, []), (1, []), (2, []), (3, []), (4, []), (5, [0, 1, 2, 3, 4]), (6, [0, 1, 2, 3, 4]), (7, [0, 1, 2, 3, 4]), (8, [0, 1, 2, 3, 4]), (9, [0, 1, 2, 3, 4]), (10, []), (11, [])] (by decide +kernel) ?_
    conv => whnf
    refine ⟨by unfold inI64; omega, ?_⟩
    conv => whnf
    refine ⟨by omega, ?_⟩
    conv => whnf
    have ea : a + 1 - 1 = a := by omega
    obtain ⟨b1, b2, b3, b4, b5, b6, b7⟩ := nextB h0 hnp
    refine RegX.rule hT rfl [] [(0, []), (1, []), (2, []), (3, []), (4, []), (5, [0, 1, 2, 3, 4]), (6, [0, 1, 2, 3, 4]), (7, [0, 1, 2, 3, 4]), (8, [0, 1, 2, 3, 4]), (9, [0, 1, 2, 3, 4]), (10, []), (11, [])] (by decide +kernel) ?_
    conv => whnf
    refine ⟨by unfold inI64; omega, ?_⟩
    conv => whnf
    refine ⟨by omega, ?_⟩
    conv => whnf
    refine ⟨by unfold inI64; rw [ea]; omega, ?_⟩
    conv => whnf
    rw [ea]
    refine ⟨⟨b3, b4⟩, ?_⟩
    conv => whnf
    refine CallX.of (s148 _ _ (by omega)) [] rfl ⟨SV.le_refl _, SV.le_refl _, trivial⟩ trivial rfl rfl ?_
    rintro x rout ⟨⟨j, j1, j2, j3, rfl⟩, rfl⟩
    refine ⟨rfl, ?_⟩
    conv => whnf
    refine ⟨by unfold inI64; omega, ?_⟩
    conv => whnf
    have e2 : a.tdiv n * (7919 + a.tmod n) = 7919 * a.tdiv n + a.tdiv n * a.tmod n := by rw [Int.mul_add, Int.mul_comm _ 7919]
    rw [e2]
    refine ⟨by unfold inI64; omega, ?_⟩
    conv => whnf
    refine ⟨by unfold inI64; omega, ?_⟩
    conv => whnf
    refine CallX.of (s148 _ _ hm) [] rfl ⟨SV.le_refl _, SV.le_refl _, trivial⟩ trivial rfl rfl ?_
    rintro x rout ⟨⟨j, k1, k2, k3, rfl⟩, rfl⟩
    refine ⟨rfl, ?_⟩
    conv => whnf
    refine .ret _ ?_
    conv => whnf
    exact ⟨[(1000000, strm n L (a + 1))], ⟨⟨_, k1, k2, k3, rfl⟩, rfl⟩, Res.le_refl _, trivial⟩
/-- What a maker leaves of the stream: it moved on by at most 'c'. -/
def Moved (n : Nat) (L : Nat → Int) (a : Int) (c : Int) (r : List (Nat × Res)) : Prop := ∃ b, a ≤ b ∧ b ≤ a + c ∧ r = [(1000000, strm n L b)]
-- Range
theorem s64 (n : Nat) (L : Nat → Int) (hL : Rok n L) (a : Int) (h0 : 0 ≤ a) (ha : a ≤ 2^40) (lo hi : Int) (h1 : -2^41 ≤ lo) (h2 : hi ≤ lo + 2^40 - 1) (h3 : lo ≤ 2^41) (h4 : lo ≤ hi) :
    FSpec Tryz.prog 8 [.ptr 1000000 0, .d (.int .i64 lo), .d (.int .i64 hi)] [(1000000, strm n L a)] (fun y r => (∃ j : Int, lo ≤ j ∧ j ≤ hi ∧ y = .d (.int .i64 j)) ∧ Moved n L a 1 r) := by
  refine spec_of hT (C := []) Tryz.func8 rfl Tryz.call8 rfl rfl rfl ?_
  conv => whnf
  refine br_intro (fun h => ?_) (fun h => ?_)
  · simp at h; omega
  conv => whnf
  refine ⟨by unfold inI64; omega, ?_⟩
  conv => whnf
  refine ⟨by unfold inI64; omega, ?_⟩
  conv => whnf
  refine CallX.of (s86 n L hL a h0 ha _ (by omega)) [(1000000, 1000000)] rfl ⟨SV.le_refl _, SV.le_refl _, trivial⟩ ⟨Res.le_refl _, trivial⟩ rfl rfl ?_
  rintro x rout ⟨⟨j, k1, k2, k3, rfl⟩, rfl⟩
  refine ⟨rfl, ?_⟩
  conv => whnf
  refine ⟨by unfold inI64; omega, ?_⟩
  conv => whnf
  refine .ret _ ?_
  conv => whnf
  exact ⟨[(1000000, strm n L (a + 1))], ⟨⟨_, by omega, by omega, rfl⟩, a + 1, by omega, by omega, rfl⟩, Res.le_refl _, trivial⟩
-- Flip
theorem s84 (n : Nat) (L : Nat → Int) (hL : Rok n L) (a : Int) (h0 : 0 ≤ a) (ha : a ≤ 2^40) (m : Int) (hm : m ≤ 2^40) :
    FSpec Tryz.prog 16 [.ptr 1000000 0, .d (.int .i64 m)] [(1000000, strm n L a)] (fun y r => (∃ b : Bool, y = .d (.bool b)) ∧ Moved n L a 1 r) := by
  refine spec_of hT (C := []) Tryz.func16 rfl Tryz.call16 rfl rfl rfl ?_
  conv => whnf
  refine CallX.of (s86 n L hL a h0 ha _ (by omega)) [(1000000, 1000000)] rfl ⟨SV.le_refl _, SV.le_refl _, trivial⟩ ⟨Res.le_refl _, trivial⟩ rfl rfl ?_
  rintro x rout ⟨⟨j, k1, k2, k3, rfl⟩, rfl⟩
  refine ⟨rfl, ?_⟩
  conv => whnf
  refine .ret _ ?_
  conv => whnf
  exact ⟨[(1000000, strm n L (a + 1))], ⟨⟨_, rfl⟩, a + 1, by omega, by omega, rfl⟩, Res.le_refl _, trivial⟩
-- Pick
theorem s33 (n : Nat) (L : Nat → Int) (hL : Rok n L) (a : Int) (h0 : 0 ≤ a) (ha : a ≤ 2^40) (l : List Int) (hl : 1 ≤ l.length) (hl2 : l.length ≤ 2^40) :
    FSpec Tryz.prog 23 [.ptr 1000000 0, .d (ints l)] [(1000000, strm n L a)] (fun y r => (∃ x ∈ l, y = .d (.int .i64 x)) ∧ Moved n L a 1 r) := by
  refine spec_of hT (C := []) Tryz.func23 rfl Tryz.call23 rfl rfl rfl ?_
  conv => whnf
  refine CallX.of (s86 n L hL a h0 ha l.length (by omega)) [(1000000, 1000000)] rfl ⟨SV.le_refl _, SV.le_refl _, trivial⟩ ⟨Res.le_refl _, trivial⟩ rfl rfl ?_
  rintro x rout ⟨⟨j, k1, k2, k3, rfl⟩, rfl⟩
  refine ⟨rfl, ?_⟩
  conv => whnf
  refine ⟨⟨k1, by omega⟩, ?_⟩
  conv => whnf
  refine .ret _ ?_
  conv => whnf
  exact ⟨[(1000000, strm n L (a + 1))], ⟨⟨_, getD_mem (by omega), rfl⟩, a + 1, by omega, by omega, rfl⟩, Res.le_refl _, trivial⟩
-- Some
theorem s15 (n : Nat) (L : Nat → Int) (hL : Rok n L) (a : Int) (h0 : 0 ≤ a) (ha : a ≤ 2^40) (l : List (List UInt8)) (hl : 1 ≤ l.length) (hl2 : l.length ≤ 2^40) :
    FSpec Tryz.prog 25 [.ptr 1000000 0, .d (strs l)] [(1000000, strm n L a)] (fun y r => (∃ x ∈ l, y = .d (.str x)) ∧ Moved n L a 1 r) := by
  refine spec_of hT (C := []) Tryz.func25 rfl Tryz.call25 rfl rfl rfl ?_
  conv => whnf
  refine CallX.of (s86 n L hL a h0 ha l.length (by omega)) [(1000000, 1000000)] rfl ⟨SV.le_refl _, SV.le_refl _, trivial⟩ ⟨Res.le_refl _, trivial⟩ rfl rfl ?_
  rintro x rout ⟨⟨j, k1, k2, k3, rfl⟩, rfl⟩
  refine ⟨rfl, ?_⟩
  conv => whnf
  refine ⟨⟨k1, by omega⟩, ?_⟩
  conv => whnf
  refine .ret _ ?_
  conv => whnf
  exact ⟨[(1000000, strm n L (a + 1))], ⟨⟨_, getD_mem (by omega), rfl⟩, a + 1, by omega, by omega, rfl⟩, Res.le_refl _, trivial⟩
theorem Moved.trans {n : Nat} {L : Nat → Int} {a c : Int} {r : List (Nat × Res)} {b d : Int} (h1 : a ≤ b) (h2 : b + d ≤ a + c) (h : Moved n L b d r) : Moved n L a c r := by
  obtain ⟨e, q1, q2, rfl⟩ := h
  exact ⟨e, by omega, by omega, rfl⟩
-- Odd
theorem s104 (n : Nat) (L : Nat → Int) (hL : Rok n L) (a : Int) (h0 : 0 ≤ a) (ha : a ≤ 2^39) (lo hi : Int) (h1 : -2^38 ≤ lo) (h2 : lo ≤ hi) (h3 : hi ≤ 2^39) :
    FSpec Tryz.prog 26 [.ptr 1000000 0, .d (.int .i64 lo), .d (.int .i64 hi)] [(1000000, strm n L a)] (fun y r => (∃ j : Int, -2^40 ≤ j ∧ j ≤ 2^40 ∧ y = .d (.int .i64 j)) ∧ Moved n L a 2 r) := by
  refine spec_of hT (C := []) Tryz.func26 rfl Tryz.call26 rfl rfl rfl ?_
  conv => whnf
  refine CallX.of (s84 n L hL a h0 (by omega) 12 (by omega)) [(1000000, 1000000)] rfl ⟨SV.le_refl _, SV.le_refl _, trivial⟩ ⟨Res.le_refl _, trivial⟩ rfl rfl ?_
  rintro x rout ⟨⟨f, rfl⟩, ⟨b, b1, b2, rfl⟩⟩
  refine ⟨rfl, ?_⟩
  conv => whnf
  refine br_intro (fun hf => ?_) (fun hf => ?_)
  · conv => whnf
    refine ⟨by unfold inI64; omega, ?_⟩
    conv => whnf
    refine ⟨by unfold inI64; omega, ?_⟩
    conv => whnf
    refine CallX.of (s33 n L hL b (by omega) (by omega) [lo - 1, hi + 1, lo, hi, -1099511627776, 1099511627776] (by simp) (by simp)) [(1000000, 1000000)] rfl ⟨SV.le_refl _, SV.le_lit (by rfl) (by rfl), trivial⟩ ⟨Res.le_refl _, trivial⟩ rfl rfl ?_
    rintro x rout ⟨⟨j, hj, rfl⟩, ⟨c, c1, c2, rfl⟩⟩
    refine ⟨rfl, ?_⟩
    conv => whnf
    refine .ret _ ?_
    conv => whnf
    exact ⟨[(1000000, strm n L c)], ⟨⟨j, by simp at hj; omega, by simp at hj; omega, rfl⟩, c, by omega, by omega, rfl⟩, Res.le_refl _, trivial⟩
  · conv => whnf
    refine CallX.of (s64 n L hL b (by omega) (by omega) lo hi (by omega) (by omega) (by omega) h2) [(1000000, 1000000)] rfl ⟨SV.le_refl _, SV.le_refl _, SV.le_refl _, trivial⟩ ⟨Res.le_refl _, trivial⟩ rfl rfl ?_
    rintro x rout ⟨⟨j, j1, j2, rfl⟩, ⟨c, c1, c2, rfl⟩⟩
    refine ⟨rfl, ?_⟩
    conv => whnf
    refine .ret _ ?_
    conv => whnf
    exact ⟨[(1000000, strm n L c)], ⟨⟨j, by omega, by omega, rfl⟩, c, by omega, by omega, rfl⟩, Res.le_refl _, trivial⟩
end Go.Proofs.YtnchgjpdggembaaGreat
set_option maxRecDepth 20000
namespace Go.Proofs.YtnchgjpdggembaaGreat
open Go Go.Eng
-- word.In
theorem s119 (n lo hi : Int) : FSpec Tryz.prog 40 [.d (.int .i64 n), .d (.int .i64 lo), .d (.int .i64 hi)] [] (fun x r => x = .d (.bool (decide (lo ≤ n ∧ n ≤ hi))) ∧ r = []) := by
  refine spec_of hT (C := []) Tryz.func40 rfl Tryz.call40 rfl rfl rfl ?_
  conv => whnf
  refine br_intro (fun h => ?_) (fun h => ?_)
  · conv => whnf
    refine .ret _ ?_
    conv => whnf
    refine ⟨[], ⟨?_, rfl⟩, trivial⟩
    conv => lhs; whnf
    simp at h ⊢; simp [h]
  · conv => whnf
    refine .ret _ ?_
    conv => whnf
    refine ⟨[], ⟨?_, rfl⟩, trivial⟩
    conv => lhs; whnf
    simp at h ⊢; omega
-- rentref2.in
-- word.When
theorem s107 (b : Bool) (e : Int) : FSpec Tryz.prog 60 [.d (.bool b), .d (.int .i64 e)] [] (fun x r => x = .d (.int .i64 (if b then e else 0)) ∧ r = []) := by
  refine spec_of hT (C := []) Tryz.func60 rfl Tryz.call60 rfl rfl rfl ?_
  conv => whnf
  refine br_intro (fun h => ?_) (fun h => ?_)
  · conv => whnf
    refine .ret _ ?_
    conv => whnf
    refine ⟨[], ⟨?_, rfl⟩, trivial⟩
    conv => lhs; whnf
    simp [h]
  · conv => whnf
    refine .ret _ ?_
    conv => whnf
    refine ⟨[], ⟨?_, rfl⟩, trivial⟩
    conv => lhs; whnf
    simp [h]
theorem getD_toNat {α : Type} {l : List α} {i : Nat} {d : α} (h : i < l.length) : l.getD (i : Int).toNat d = l[i] := by
  rw [Int.toNat_natCast, List.getD_eq_getElem?_getD]; simp [h]
theorem sum_take {l : List Int} {i : Nat} (hi : i < l.length) : (l.take (i + 1)).sum = (l.take i).sum + l[i] := by
  rw [← List.take_append_getElem hi, List.sum_append]; simp
/-- The first error of some. -/
def firstE : List Int → Int
  | [] => 0
  | x :: l => if x = 0 then firstE l else x
-- cmp.Or
theorem s161 (l : List Int) (hl : l.length ≤ 2^40) : FSpec Tryz.prog 97 [.d (ints l)] [] (fun x r => x = .d (.int .i64 (firstE l)) ∧ r = []) := by
  refine spec_of hT (C := []) Tryz.func97 rfl Tryz.call97 rfl rfl rfl ?_
  conv => whnf
  refine LoopX.rule hT (C := []) (ι := Nat) (fun i => i ≤ l.length ∧ firstE l = firstE (l.drop i)) (fun i => mkSt [(3, .d (.int .i64 0)), (6, .d (ints l)), (7, .d (.int .i64 l.length)), (8, .d (.int .i64 i))] []) (fun i => l.length - i) 0 ⟨by omega, by simp⟩ ?_ ?_
  · refine Entails.mk' [] rfl rfl ⟨SV.le_refl _, SV.le_refl _, SV.le_refl _, SV.le_refl _, trivial⟩ trivial
  rintro i ⟨p1, p2⟩
  conv => whnf
  refine br_intro (fun h => ?_) (fun h => ?_)
  · simp only [decide_eq_true_eq] at h
    conv => whnf
    refine ⟨⟨by omega, by omega⟩, ?_⟩
    conv => whnf
    have hi : i < l.length := by omega
    have hd : l.drop i = l[i] :: l.drop (i + 1) := List.drop_eq_getElem_cons hi
    refine br_intro (fun h2 => ?_) (fun h2 => ?_)
    · conv => whnf
      refine .ret _ ?_
      conv => whnf
      refine ⟨[], ⟨?_, rfl⟩, trivial⟩
      conv => lhs; whnf
      rw [getD_toNat hi] at h2 ⊢
      simp at h2
      rw [p2, hd, firstE, if_neg h2]
    · conv => whnf
      rw [getD_toNat hi] at h2
      simp at h2
      refine ⟨by unfold inI64; omega, ?_⟩
      conv => whnf
      refine ⟨i + 1, ⟨hi, ?_⟩, by omega, ?_⟩
      · rw [p2, hd, firstE, if_pos h2]
      · exact Entails.mk' [] rfl rfl ⟨SV.le_refl _, SV.le_refl _, SV.le_refl _, SV.le_refl _, trivial⟩ trivial
  · simp only [decide_eq_false_iff_not] at h
    conv => whnf
    refine .ret _ ?_
    conv => whnf
    refine ⟨[], ⟨?_, rfl⟩, trivial⟩
    conv => lhs; whnf
    rw [p2, List.drop_eq_nil_iff.2 (by omega)]; rfl
-- word.First
theorem s105 (l : List Int) (hl : l.length ≤ 2^40) : FSpec Tryz.prog 55 [.d (ints l)] [] (fun x r => x = .d (.int .i64 (firstE l)) ∧ r = []) := by
  refine spec_of hT (C := []) Tryz.func55 rfl Tryz.call55 rfl rfl rfl ?_
  conv => whnf
  refine CallX.pure (s161 l hl) ⟨SV.le_refl _, trivial⟩ rfl ?_
  conv => whnf
  refine .ret _ ?_
  conv => whnf
  exact ⟨[], ⟨rfl, rfl⟩, trivial⟩
-- slices.Equal of numbers
def splitF (cents : Int) (w : List Int) : Int :=
  if ¬ (0 ≤ cents ∧ cents ≤ 1000000000) then 1 else if 50 < w.length then 2 else if w.any (fun x => !decide (0 ≤ x ∧ x ≤ 5761440)) then 1 else if w.sum = 0 then 8 else 0
-- rentref2.SplitFault
end Go.Proofs.YtnchgjpdggembaaGreat
set_option maxRecDepth 20000
namespace Go.Proofs.YtnchgjpdggembaaGreat
open Go Go.Eng
def keyCh (i : Nat) (c : UInt8) : Bool := (decide (97 ≤ c.toNat) && decide (c.toNat ≤ 122)) || (!decide (i = 0) && ((decide (48 ≤ c.toNat) && decide (c.toNat ≤ 57)) || decide (c.toNat = 45) || decide (c.toNat = 95)))
def isKeyB (s : List UInt8) : Bool := (List.range s.length).all (fun i => keyCh i (s.getD i 0)) && !s.isEmpty && decide (s.length ≤ 40)
theorem keyCh_iff {i : Nat} {c : UInt8} : keyCh i c = true ↔ ((97 ≤ (c.toNat : Int) ∧ (c.toNat : Int) ≤ 122) ∨ ((i : Int) ≠ 0 ∧ ((48 ≤ (c.toNat : Int) ∧ (c.toNat : Int) ≤ 57) ∨ (c.toNat : Int) = 45 ∨ (c.toNat : Int) = 95))) := by
  simp only [keyCh, Bool.or_eq_true, Bool.and_eq_true, decide_eq_true_eq, Bool.not_eq_true', decide_eq_false_iff_not]
  omega
-- word.IsKey
theorem s108 (s : List UInt8) (hl : s.length ≤ 2^40) : FSpec Tryz.prog 107 [.d (.str s)] [] (fun x r => x = .d (.bool (isKeyB s)) ∧ r = []) := by
  refine spec_of hT (C := []) Tryz.func107 rfl Tryz.call107 rfl rfl rfl ?_
  conv => whnf
  refine LoopX.rule hT (C := []) (ι := Nat) (fun i => i ≤ s.length ∧ ∀ j, j < i → keyCh j (s.getD j 0) = true) (fun i => mkSt [(0, .d (.str s)), (7, .d (.int .i64 s.length)), (8, .d (.int .i64 i))] []) (fun i => s.length - i) 0 ⟨by omega, by omega⟩ ?_ ?_
  · exact Entails.mk' [] rfl rfl ⟨SV.le_refl _, SV.le_refl _, SV.le_refl _, trivial⟩ trivial
  rintro i ⟨p1, p2⟩
  conv => whnf
  refine br_intro (fun h => ?_) (fun h => ?_)
  · simp only [decide_eq_true_eq] at h
    have hi : i < s.length := by omega
    have e1 : (i : Int).toNat = i := Int.toNat_natCast i
    conv => whnf
    repeat (refine And.intro (by (try unfold inI64); (try dsimp only); (try simp only [e1, List.length_cons, List.length_append, List.length_singleton, List.length_nil]); omega) ?_; conv => whnf)
    have hbad : keyCh i (s.getD i 0) = false → isKeyB s = false := fun h => by
      have : (List.range s.length).all (fun i => keyCh i (s.getD i 0)) = false := by
        rw [List.all_eq_false]; exact ⟨i, List.mem_range.2 hi, by rw [h]; simp⟩
      simp only [isKeyB, this, Bool.false_and]
    have hgood : keyCh i (s.getD i 0) = true → ∀ j, j < i + 1 → keyCh j (s.getD j 0) = true := fun h j hj => by
      rcases Nat.lt_or_ge j i with q | q
      · exact p2 j q
      · have : j = i := by omega
        subst this; exact h
    repeat' (refine br_intro (fun _ => ?_) (fun _ => ?_) <;> (conv => whnf))
    all_goals first
      | (refine And.intro (by unfold inI64; omega) ?_
         conv => whnf
         refine ⟨i + 1, ⟨hi, hgood ?_⟩, by omega, Entails.mk' [] rfl rfl ⟨SV.le_refl _, SV.le_refl _, SV.le_refl _, trivial⟩ trivial⟩
         rw [keyCh_iff]
         simp only [decide_eq_true_eq, decide_eq_false_iff_not, Bool.not_eq_true', Bool.not_eq_false', e1] at *
         omega)
      | (refine .ret _ ?_
         conv => whnf
         refine ⟨[], ⟨?_, rfl⟩, trivial⟩
         conv => lhs; whnf
         rw [hbad]
         cases hq : keyCh i (s.getD i 0) with
         | false => rfl
         | true =>
           rw [keyCh_iff] at hq
           simp only [decide_eq_true_eq, decide_eq_false_iff_not, Bool.not_eq_true', Bool.not_eq_false', e1] at *
           omega)
      | skip
  simp only [decide_eq_false_iff_not] at h
  have e1 : i = s.length := by omega
  subst e1
  have hall : (List.range s.length).all (fun i => keyCh i (s.getD i 0)) = true := by
    rw [List.all_eq_true]; intro j hj; exact p2 j (List.mem_range.1 hj)
  conv => whnf
  repeat' (refine br_intro (fun _ => ?_) (fun _ => ?_) <;> (conv => whnf))
  all_goals (refine .ret _ ?_; conv => whnf)
  all_goals (refine ⟨[], ⟨?_, rfl⟩, trivial⟩; conv => lhs; whnf)
  · rename_i hq
    have : s.isEmpty = false := by
      cases s with
      | nil => exact absurd hq (by decide)
      | cons x l => rfl
    unfold isKeyB
    rw [hall, this]
    simp
    omega
  · rename_i hq
    have : s.isEmpty = true := by
      cases s with
      | nil => rfl
      | cons x l => exact absurd hq (by simp)
    unfold isKeyB
    rw [hall, this]
    rfl
end Go.Proofs.YtnchgjpdggembaaGreat
set_option maxRecDepth 20000
namespace Go.Proofs.YtnchgjpdggembaaGreat
open Go Go.Eng
def strLe (a b : List UInt8) : Bool := Op.bytesLess a b || a == b
def firstAt (f : Nat → Int) : Nat → Int
  | 0 => 0
  | n + 1 => if firstAt f n = 0 then f n else firstAt f n
theorem firstAt_zero {f : Nat → Int} : ∀ {n : Nat}, (∀ j, j < n → f j = 0) → firstAt f n = 0 := by
  intro n
  induction n with
  | zero => intro _; rfl
  | succ n ih => intro h; rw [firstAt, if_pos (ih fun j hj => h j (by omega))]; exact h n (by omega)
theorem firstAt_eq {f : Nat → Int} {n i : Nat} {e : Int} (hi : i < n) (h : ∀ j, j < i → f j = 0) (h1 : e ≠ 0) (h2 : f i = e) : firstAt f n = e := by
  induction n with
  | zero => omega
  | succ n ih =>
    rw [firstAt]
    by_cases q : i < n
    · rw [ih q, if_neg h1]
    · have : i = n := by omega
      subst this
      rw [if_pos (firstAt_zero h)]; exact h2
-- mark.checkShares
end Go.Proofs.YtnchgjpdggembaaGreat
namespace Go.Proofs
open Go.Shelf
end Go.Proofs
set_option maxRecDepth 20000
namespace Go.Proofs.YtnchgjpdggembaaGreat
open Go Go.Eng Go.Shelf
-- R.Key
end Go.Proofs.YtnchgjpdggembaaGreat
set_option maxRecDepth 20000
namespace Go.Proofs.YtnchgjpdggembaaGreat
open Go Go.Eng
theorem first_step {f : Nat → Int} {i : Nat} (p : ∀ j, j < i → f j = 0) (h : f i = 0) : ∀ j, j < i + 1 → f j = 0 := fun j hj => by
  rcases Nat.lt_or_ge j i with q | q
  · exact p j q
  · have : j = i := by omega
    subst this; exact h
theorem toNat_pred (i : Nat) : ((i : Int) - 1).toNat = i - 1 := by omega
-- mark.checkWaivers
end Go.Proofs.YtnchgjpdggembaaGreat
set_option maxRecDepth 20000
namespace Go.Proofs.YtnchgjpdggembaaGreat
open Go Go.Eng
theorem take_snocD {α : Type} {l : List α} {i : Nat} {d : α} (h : i < l.length) : l.take (i + 1) = l.take i ++ [l.getD i d] := by
  rw [List.take_succ_eq_append_getElem h, List.getD_eq_getElem?_getD, List.getElem?_eq_getElem h]; rfl
theorem firstAt_all {f : Nat → Int} : ∀ {n : Nat}, firstAt f n = 0 → ∀ j, j < n → f j = 0 := by
  intro n
  induction n with
  | zero => intro _ j hj; omega
  | succ n ih =>
    intro h j hj
    rw [firstAt] at h
    split at h
    · rename_i q
      rcases Nat.lt_or_ge j n with r | r
      · exact ih q j r
      · have : j = n := by omega
        subst this; exact h
    · omega
theorem mem_getD {α : Type} {l : List α} {x d : α} (h : x ∈ l) : ∃ j, j < l.length ∧ l.getD j d = x := by
  obtain ⟨j, hj, rfl⟩ := List.getElem_of_mem h
  exact ⟨j, hj, by rw [List.getD_eq_getElem?_getD, List.getElem?_eq_getElem hj]; rfl⟩
-- mark.Excess
end Go.Proofs.YtnchgjpdggembaaGreat
set_option maxRecDepth 20000
namespace Go.Proofs.YtnchgjpdggembaaGreat
open Go Go.Eng
-- Q.SharesFault
end Go.Proofs.YtnchgjpdggembaaGreat
set_option maxRecDepth 20000
namespace Go.Proofs.YtnchgjpdggembaaGreat
open Go Go.Eng
-- Q.ExcessOf
end Go.Proofs.YtnchgjpdggembaaGreat
set_option maxRecDepth 20000
namespace Go.Proofs.YtnchgjpdggembaaGreat
open Go Go.Eng
-- Weights
end Go.Proofs.YtnchgjpdggembaaGreat
set_option maxRecDepth 20000
namespace Go.Proofs.YtnchgjpdggembaaGreat
open Go Go.Eng
section
variable {α : Type} (cmp : α → α → Int)
/-- Insertion from the right into a row that is written backwards. -/
def insR (x : α) : List α → List α
  | [] => [x]
  | y :: r => if cmp x y < 0 then y :: insR x r else x :: y :: r
def isortR (l : List α) : List α := l.foldl (fun acc x => insR cmp x acc) []
def isort (l : List α) : List α := (isortR cmp l).reverse
theorem insR_length (x : α) : ∀ l : List α, (insR cmp x l).length = l.length + 1 := by
  intro l
  induction l with
  | nil => rfl
  | cons y r ih => simp only [insR]; split <;> simp [ih]
theorem isortR_snoc (l : List α) (x : α) : isortR cmp (l ++ [x]) = insR cmp x (isortR cmp l) := by simp [isortR]
theorem isortR_length (l : List α) : (isortR cmp l).length = l.length := by
  have : ∀ (l acc : List α), (l.foldl (fun acc x => insR cmp x acc) acc).length = acc.length + l.length := by
    intro l
    induction l with
    | nil => intro acc; simp
    | cons x l ih => intro acc; rw [List.foldl_cons, ih, insR_length]; simp; omega
  rw [isortR, this]; simp
theorem insR_mem (x y : α) : ∀ {l : List α}, y ∈ insR cmp x l ↔ y = x ∨ y ∈ l := by
  intro l
  induction l with
  | nil => simp [insR]
  | cons z r ih =>
    simp only [insR]
    split
    · simp only [List.mem_cons, ih]
      constructor
      · rintro (h | h | h)
        · exact .inr (.inl h)
        · exact .inl h
        · exact .inr (.inr h)
      · rintro (h | h | h)
        · exact .inr (.inl h)
        · exact .inl h
        · exact .inr (.inr h)
    · simp
theorem isortR_mem {y : α} (l : List α) : y ∈ isortR cmp l ↔ y ∈ l := by
  have : ∀ (l acc : List α), y ∈ (l.foldl (fun acc x => insR cmp x acc) acc) ↔ y ∈ acc ∨ y ∈ l := by
    intro l
    induction l with
    | nil => intro acc; simp
    | cons x l ih =>
      intro acc; rw [List.foldl_cons, ih, insR_mem, List.mem_cons]
      constructor
      · rintro ((h | h) | h)
        · exact .inr (.inl h)
        · exact .inl h
        · exact .inr (.inr h)
      · rintro (h | h | h)
        · exact .inl (.inr h)
        · exact .inl (.inl h)
        · exact .inr h
  rw [isortR, this]; simp
end
def cap3 (x y z : SV) (e1 e2 e3 : TypeId) : List (Nat × Res) := [(1000002, .cells e1 [x]), (1000003, .cells e2 [y]), (1000004, .cells e3 [z])]
theorem take_snoc {α : Type} {l : List α} {i : Nat} (h : i < l.length) : l.take (i + 1) = l.take i ++ [l[i]] := (List.take_append_getElem h).symm
theorem getD_mid {α : Type} (A B : List α) (x d : α) {i : Nat} (h : i = A.length) : (A ++ x :: B).getD i d = x := by
  subst h; rw [List.getD_eq_getElem?_getD]; simp
theorem swap_lemma {α : Type} (A B : List α) (x y : α) : (((A ++ [y] ++ [x] ++ B).set (A.length + 1) y).set A.length x) = A ++ [x] ++ [y] ++ B := by
  simp [List.set_append]
-- insertionSortCmpFunc[int], a closure with three cells
theorem s228 (g : FuncId) (x1 x2 x3 : DV) (e1 e2 e3 : TypeId) (cmp : Int → Int → Int) (l : List Int) (hl : l.length ≤ 2^40)
    (hcmp : ∀ p q, p ∈ l → q ∈ l → FSpec Tryz.prog g [.d (.int .i64 p), .d (.int .i64 q), .ptr 1000002 0, .ptr 1000003 0, .ptr 1000004 0] (cap3 (.d x1) (.d x2) (.d x3) e1 e2 e3)
      (fun y r => y = .d (.int .i64 (cmp p q)) ∧ r = cap3 (.d x1) (.d x2) (.d x3) e1 e2 e3)) :
    FSpec Tryz.prog 137 [.buf 1000001, .d (.int .i64 0), .d (.int .i64 l.length), .fn g [.ptr 1000002 0, .ptr 1000003 0, .ptr 1000004 0]] ((1000001, seqB 3 1 iF 0 l) :: cap3 (.d x1) (.d x2) (.d x3) e1 e2 e3)
      (fun y r => y = .tup [] ∧ r = (1000001, seqB 3 1 iF 0 (isort cmp l)) :: cap3 (.d x1) (.d x2) (.d x3) e1 e2 e3) := by
  refine spec_of hT (C := []) Tryz.func137 rfl Tryz.call137 rfl rfl rfl ?_
  conv => whnf
  refine ⟨by unfold inI64; omega, ?_⟩
  conv => whnf
  refine LoopX.rule hT (C := []) (ι := Nat × List Int) (fun p => 1 ≤ p.1 ∧ (p.1 ≤ l.length ∨ p.1 = 1) ∧ p.2 = (isortR cmp (l.take p.1)).reverse ++ l.drop p.1)
    (fun p => mkSt [(0, .buf 1000001), (1, .d (.int .i64 0)), (2, .d (.int .i64 l.length)), (3, .fn g [.ptr 1000002 0, .ptr 1000003 0, .ptr 1000004 0]), (8, .d (.int .i64 p.1))] ((1000001, seqB 3 1 iF 0 p.2) :: cap3 (.d x1) (.d x2) (.d x3) e1 e2 e3))
    (fun p => l.length - p.1) (1, l) ⟨by simp, by simp, ?_⟩ ?_ ?_
  · simp only
    cases l with
    | nil => rfl
    | cons x l => simp [isortR, insR]
  · exact Entails.mk' [(1000001, 1000001), (1000002, 1000002), (1000003, 1000003), (1000004, 1000004)] rfl rfl ⟨SV.le_refl _, SV.le_refl _, SV.le_refl _, SV.le_refl _, SV.le_refl _, trivial⟩ ⟨Res.le_refl _, Res.le_refl _, Res.le_refl _, Res.le_refl _, trivial⟩
  rintro ⟨i, c⟩ ⟨p1, p2, p3⟩
  simp only at p1 p2 p3
  conv => whnf
  refine br_intro (fun h => ?_) (fun h => ?_)
  · simp only [decide_eq_true_eq] at h
    have hi : i < l.length := by omega
    conv => whnf
    have hx : l[i] ∈ l := List.getElem_mem hi
    have hmem : ∀ y ∈ isortR cmp (l.take i), y ∈ l := fun y hy => List.mem_of_mem_take ((isortR_mem cmp _).1 hy)
    refine LoopX.rule hT (C := []) (ι := List Int × List Int) (fun p => insR cmp l[i] (isortR cmp (l.take i)) = p.2.reverse ++ insR cmp l[i] p.1 ∧ p.1.length + p.2.length = i ∧ ∀ y ∈ p.1, y ∈ l)
      (fun p => mkSt [(0, .buf 1000001), (1, .d (.int .i64 0)), (2, .d (.int .i64 l.length)), (3, .fn g [.ptr 1000002 0, .ptr 1000003 0, .ptr 1000004 0]), (8, .d (.int .i64 i)), (9, .d (.int .i64 p.1.length))]
        ((1000001, seqB 3 1 iF 0 (p.1.reverse ++ [l[i]] ++ p.2 ++ l.drop (i + 1))) :: cap3 (.d x1) (.d x2) (.d x3) e1 e2 e3))
      (fun p => p.1.length) (isortR cmp (l.take i), []) ⟨by simp, ?_, hmem⟩ ?_ ?_
    · simp [isortR_length]; omega
    · refine Entails.mk' [(1000001, 1000001), (1000002, 1000002), (1000003, 1000003), (1000004, 1000004)] rfl rfl ⟨SV.le_refl _, SV.le_refl _, SV.le_refl _, SV.le_refl _, SV.le_refl _, SV.le_int ?_, trivial⟩ ⟨?_, Res.le_refl _, Res.le_refl _, Res.le_refl _, trivial⟩
      · simp [isortR_length]; omega
      · have : c = (isortR cmp (l.take i)).reverse ++ [l[i]] ++ [] ++ l.drop (i + 1) := by rw [p3, List.drop_eq_getElem_cons hi]; simp
        show Res.le (seqB 3 1 iF 0 c) _
        rw [this]; exact Res.le_refl _
    rintro ⟨A, B⟩ ⟨q1, q2, q3⟩
    simp only at q1 q2 q3
    have hlen : (A.reverse ++ [l[i]] ++ B ++ l.drop (i + 1)).length = l.length := by simp; omega
    conv => whnf
    refine RegX.rule hT rfl [] [(0, []), (1, [0]), (2, []), (3, []), (4, []), (5, [4]), (6, [4, 5]), (7, [4]), (8, [4]), (9, [4, 5, 6, 7, 8]), (10, [4, 5, 6, 7, 8, 9]), (11, [4, 5, 6, 7, 8, 9]), (12, [4, 5, 6, 7, 8]), (13, [4, 5, 6, 7, 8]), (14, []), (15, []), (16, [])] (by decide +kernel) ?_
    conv => whnf
    refine br_intro (fun h2 => ?_) (fun h2 => ?_)
    · conv => whnf
      cases A with
      | nil => simp at h2
      | cons y A =>
      have g1 : ((y :: A).reverse ++ [l[i]] ++ B ++ l.drop (i + 1)).getD (((y :: A).length : Int)).toNat 0 = l[i] := by
        rw [show (y :: A).reverse ++ [l[i]] ++ B ++ l.drop (i + 1) = (y :: A).reverse ++ l[i] :: (B ++ l.drop (i + 1)) by simp]
        exact getD_mid _ _ _ _ (by simp)
      have g2 : ((y :: A).reverse ++ [l[i]] ++ B ++ l.drop (i + 1)).getD ((((y :: A).length : Int)) - 1).toNat 0 = y := by
        rw [show (y :: A).reverse ++ [l[i]] ++ B ++ l.drop (i + 1) = A.reverse ++ y :: ([l[i]] ++ B ++ l.drop (i + 1)) by simp]
        exact getD_mid _ _ _ _ (by simp)
      have hA : (y :: A).length = A.length + 1 := rfl
      refine ⟨⟨by omega, by simp only [hlen]; omega⟩, ?_⟩
      conv => whnf
      refine ⟨by simp only [hlen]; omega, ?_⟩
      conv => whnf
      refine ⟨by unfold inI64; simp only [List.length_cons]; omega, ?_⟩
      conv => whnf
      refine ⟨⟨by simp only [List.length_cons]; omega, by simp only [hlen, List.length_cons]; omega⟩, ?_⟩
      conv => whnf
      refine ⟨by simp only [hlen, List.length_cons]; omega, ?_⟩
      conv => whnf
      refine CallX.of (hcmp l[i] y hx (q3 y (by simp))) [(1000002, 1000002), (1000003, 1000003), (1000004, 1000004)] rfl ⟨SV.le_int g1, SV.le_int g2, SV.le_refl _, SV.le_refl _, SV.le_refl _, trivial⟩ ⟨Res.le_refl _, Res.le_refl _, Res.le_refl _, trivial⟩ rfl rfl ?_
      rintro x rout ⟨rfl, rfl⟩
      refine ⟨rfl, ?_⟩
      conv => whnf
      refine br_intro (fun h3 => ?_) (fun h3 => ?_)
      · simp only [decide_eq_true_eq] at h3
        conv => whnf
        refine RegX.rule hT rfl [] [(0, []), (1, [0]), (2, [0, 1]), (3, [0, 1, 2]), (4, [0, 1, 2]), (5, [0, 1, 2, 3, 4]), (6, [0, 1, 2, 3, 4, 5]), (7, [0, 1, 2, 3, 4, 5]), (8, [0, 1, 2, 3, 4]), (9, [0, 1, 2, 3, 4]), (10, [0, 1, 2, 3, 4, 5, 6, 7, 8, 9]), (11, [0, 1, 2, 3, 4, 5, 6, 7, 8, 9, 10]), (12, [0, 1, 2, 3, 4, 5, 6, 7, 8, 9]), (13, [0, 1, 2, 3, 4, 5, 6, 7, 8, 9]), (14, [2, 3, 4]), (15, [2, 3, 4]), (16, []), (17, [])] (by decide +kernel) ?_
        conv => whnf
        repeat (refine And.intro (by (try unfold inI64); (try dsimp only); (try simp only [hlen, List.length_cons, List.length_append, List.length_singleton, List.length_nil]); omega) ?_; conv => whnf)
        have hsw : (((y :: A).reverse ++ [l[i]] ++ B ++ l.drop (i + 1)).set (((y :: A).length : Int)).toNat y).set ((((y :: A).length : Int)) - 1).toNat l[i] = A.reverse ++ [l[i]] ++ (y :: B) ++ l.drop (i + 1) := by
          have k1 : (((y :: A).length : Int)).toNat = A.reverse.length + 1 := by simp
          have k2 : ((((y :: A).length : Int)) - 1).toNat = A.reverse.length := by simp
          rw [k1, k2]
          have := swap_lemma A.reverse (B ++ l.drop (i + 1)) l[i] y
          simp only [List.reverse_cons, List.append_assoc, List.singleton_append, List.cons_append, List.nil_append] at this ⊢
          exact this
        refine ⟨(A, y :: B), ⟨?_, by simp only [List.length_cons] at q2 ⊢; omega, fun z hz => q3 z (by simp [hz])⟩, by simp only [List.length_cons]; omega, ?_⟩
        · rw [q1]; simp [insR, h3]
        · refine Entails.mk' [(1000001, 1000001), (1000002, 1000002), (1000003, 1000003), (1000004, 1000004)] rfl rfl ⟨SV.le_refl _, SV.le_refl _, SV.le_refl _, SV.le_refl _, SV.le_refl _, SV.le_int (by simp only [List.length_cons]; omega), trivial⟩ ⟨?_, Res.le_refl _, Res.le_refl _, Res.le_refl _, trivial⟩
          show Res.le _ (seqB 3 1 iF 0 (A.reverse ++ [l[i]] ++ (y :: B) ++ l.drop (i + 1)))
          rw [← hsw]
          refine Res.le_buf (by simp) (fun k hk => ?_)
          have e1 := rows_putG (f := iF) (d := 0) (l := ((y :: A).reverse ++ [l[i]] ++ B ++ l.drop (i + 1))) (x := y) (j := ((((y :: A).length : Int)).toNat)) (off := 0) (ds := [.int .i64 (((y :: A).reverse ++ [l[i]] ++ B ++ l.drop (i + 1)).getD ((((y :: A).length : Int) - 1).toNat) 0)]) (get := rowF iF 0 ((y :: A).reverse ++ [l[i]] ++ B ++ l.drop (i + 1))) (fun _ _ => rfl) (fun z _ => by rw [g2]; rfl)
          have e2 := rows_putG (f := iF) (d := 0) (l := ((y :: A).reverse ++ [l[i]] ++ B ++ l.drop (i + 1)).set ((((y :: A).length : Int)).toNat) y) (x := l[i]) (j := ((((y :: A).length : Int) - 1).toNat)) (off := 0) (ds := [.int .i64 (((y :: A).reverse ++ [l[i]] ++ B ++ l.drop (i + 1)).getD ((((y :: A).length : Int)).toNat) 0)])
            (get := fun k => bif Nat.beq k ((((y :: A).length : Int)).toNat) then setAtD (rowF iF 0 ((y :: A).reverse ++ [l[i]] ++ B ++ l.drop (i + 1)) k) 0 [.int .i64 (((y :: A).reverse ++ [l[i]] ++ B ++ l.drop (i + 1)).getD ((((y :: A).length : Int) - 1).toNat) 0)] else rowF iF 0 ((y :: A).reverse ++ [l[i]] ++ B ++ l.drop (i + 1)) k) (fun k hk => e1 k (by simpa using hk)) (fun z _ => by rw [g1]; rfl)
          exact e2 k (by simpa using hk)
      · simp only [decide_eq_false_iff_not] at h3
        conv => whnf
        refine ⟨by unfold inI64; omega, ?_⟩
        conv => whnf
        refine ⟨(i + 1, (y :: A).reverse ++ [l[i]] ++ B ++ l.drop (i + 1)), ⟨by simp only; omega, by simp only; omega, ?_⟩, by simp only; omega, ?_⟩
        · simp only
          rw [take_snoc hi, isortR_snoc, q1]; simp [insR, h3]
        · exact Entails.mk' [(1000001, 1000001), (1000002, 1000002), (1000003, 1000003), (1000004, 1000004)] rfl rfl ⟨SV.le_refl _, SV.le_refl _, SV.le_refl _, SV.le_refl _, SV.le_refl _, trivial⟩ ⟨Res.le_refl _, Res.le_refl _, Res.le_refl _, Res.le_refl _, trivial⟩
    · conv => whnf
      refine ⟨by unfold inI64; omega, ?_⟩
      conv => whnf
      have hA : A = [] := by cases A <;> simp at h2 ⊢
      subst hA
      refine ⟨(i + 1, [].reverse ++ [l[i]] ++ B ++ l.drop (i + 1)), ⟨by simp only; omega, by simp only; omega, ?_⟩, by simp only; omega, ?_⟩
      · simp only
        rw [take_snoc hi, isortR_snoc, q1]; simp [insR]
      · exact Entails.mk' [(1000001, 1000001), (1000002, 1000002), (1000003, 1000003), (1000004, 1000004)] rfl rfl ⟨SV.le_refl _, SV.le_refl _, SV.le_refl _, SV.le_refl _, SV.le_refl _, trivial⟩ ⟨Res.le_refl _, Res.le_refl _, Res.le_refl _, Res.le_refl _, trivial⟩
  · conv => whnf
    have e1 : c = isort cmp l := by
      simp only [decide_eq_false_iff_not] at h
      rw [p3, List.take_of_length_le (by omega), List.drop_eq_nil_iff.2 (by omega), List.append_nil]; rfl
    refine .ret _ ?_
    conv => whnf
    subst e1
    exact ⟨_, ⟨rfl, rfl⟩, Res.le_refl _, Res.le_refl _, Res.le_refl _, Res.le_refl _, trivial⟩
end Go.Proofs.YtnchgjpdggembaaGreat
set_option maxRecDepth 20000
namespace Go.Proofs.YtnchgjpdggembaaGreat
open Go Go.Eng
-- stableCmpFunc[int], few elements
theorem s207 (g : FuncId) (x1 x2 x3 : DV) (e1 e2 e3 : TypeId) (cmp : Int → Int → Int) (l : List Int) (hl : l.length < 20)
    (hcmp : ∀ p q, p ∈ l → q ∈ l → FSpec Tryz.prog g [.d (.int .i64 p), .d (.int .i64 q), .ptr 1000002 0, .ptr 1000003 0, .ptr 1000004 0] (cap3 (.d x1) (.d x2) (.d x3) e1 e2 e3)
      (fun y r => y = .d (.int .i64 (cmp p q)) ∧ r = cap3 (.d x1) (.d x2) (.d x3) e1 e2 e3)) :
    FSpec Tryz.prog 131 [.buf 1000001, .d (.int .i64 l.length), .fn g [.ptr 1000002 0, .ptr 1000003 0, .ptr 1000004 0]] ((1000001, seqB 3 1 iF 0 l) :: cap3 (.d x1) (.d x2) (.d x3) e1 e2 e3)
      (fun y r => y = .tup [] ∧ r = (1000001, seqB 3 1 iF 0 (isort cmp l)) :: cap3 (.d x1) (.d x2) (.d x3) e1 e2 e3) := by
  refine spec_of hT (C := []) Tryz.func131 rfl Tryz.call131 rfl rfl rfl ?_
  conv => whnf
  refine LoopX.unroll hT (C := []) (fun _ _ h => h) (fun _ h => h) ?_
  conv => whnf
  refine br_intro (fun h => ?_) (fun h => ?_)
  · simp at h; omega
  conv => whnf
  refine CallX.of (s228 g x1 x2 x3 e1 e2 e3 cmp l (by omega) hcmp) [(1000001, 1000001), (1000002, 1000002), (1000003, 1000003), (1000004, 1000004)] rfl ⟨SV.le_refl _, SV.le_refl _, SV.le_refl _, SV.le_refl _, trivial⟩ ⟨Res.le_refl _, Res.le_refl _, Res.le_refl _, Res.le_refl _, trivial⟩ rfl rfl ?_
  rintro x rout ⟨rfl, rfl⟩
  refine ⟨rfl, ?_⟩
  conv => whnf
  refine LoopX.unroll hT (C := []) (fun _ _ h => h) (fun _ h => h) ?_
  conv => whnf
  refine br_intro (fun h => ?_) (fun h => ?_)
  · simp at h; omega
  conv => whnf
  refine .ret _ ?_
  conv => whnf
  exact ⟨_, ⟨rfl, rfl⟩, Res.le_refl _, Res.le_refl _, Res.le_refl _, Res.le_refl _, trivial⟩
-- SortStableFunc[[]int,int]
theorem s173 (g : FuncId) (x1 x2 x3 : DV) (e1 e2 e3 : TypeId) (cmp : Int → Int → Int) (l : List Int) (hl : l.length < 20)
    (hcmp : ∀ p q, p ∈ l → q ∈ l → FSpec Tryz.prog g [.d (.int .i64 p), .d (.int .i64 q), .ptr 1000002 0, .ptr 1000003 0, .ptr 1000004 0] (cap3 (.d x1) (.d x2) (.d x3) e1 e2 e3)
      (fun y r => y = .d (.int .i64 (cmp p q)) ∧ r = cap3 (.d x1) (.d x2) (.d x3) e1 e2 e3)) :
    FSpec Tryz.prog 105 [.buf 1000001, .fn g [.ptr 1000002 0, .ptr 1000003 0, .ptr 1000004 0]] ((1000001, seqB 3 1 iF 0 l) :: cap3 (.d x1) (.d x2) (.d x3) e1 e2 e3)
      (fun y r => y = .tup [] ∧ r = (1000001, seqB 3 1 iF 0 (isort cmp l)) :: cap3 (.d x1) (.d x2) (.d x3) e1 e2 e3) := by
  refine spec_of hT (C := []) Tryz.func105 rfl Tryz.call105 rfl rfl rfl ?_
  conv => whnf
  refine CallX.of (s207 g x1 x2 x3 e1 e2 e3 cmp l (by omega) hcmp) [(1000001, 1000001), (1000002, 1000002), (1000003, 1000003), (1000004, 1000004)] rfl ⟨SV.le_refl _, SV.le_refl _, SV.le_refl _, trivial⟩ ⟨Res.le_refl _, Res.le_refl _, Res.le_refl _, Res.le_refl _, trivial⟩ rfl rfl ?_
  rintro x rout ⟨rfl, rfl⟩
  refine ⟨rfl, ?_⟩
  conv => whnf
  refine .ret _ ?_
  conv => whnf
  exact ⟨_, ⟨rfl, rfl⟩, Res.le_refl _, Res.le_refl _, Res.le_refl _, Res.le_refl _, trivial⟩
-- the order of split
theorem s174 (c s : Int) (w : List Int) (hc : 0 ≤ c ∧ c ≤ 1000000000) (hw : ∀ x ∈ w, 0 ≤ x ∧ x ≤ 5761440) (hs : 0 < s) (hs2 : s ≤ 2^40) (p q : Nat) (hp : p < w.length) (hq : q < w.length) :
    FSpec Tryz.prog 106 [.d (.int .i64 p), .d (.int .i64 q), .ptr 1000002 0, .ptr 1000003 0, .ptr 1000004 0] (cap3 (.d (.int .i64 c)) (.d (ints w)) (.d (.int .i64 s)) 3 22 3)
      (fun y r => y = .d (.int .i64 ((c * w.getD q 0).tmod s - (c * w.getD p 0).tmod s)) ∧ r = cap3 (.d (.int .i64 c)) (.d (ints w)) (.d (.int .i64 s)) 3 22 3) := by
  refine spec_of hT (C := []) Tryz.func106 rfl Tryz.call106 rfl rfl rfl ?_
  conv => whnf
  have bd : ∀ i : Nat, i < w.length → 0 ≤ c * w.getD (i : Int).toNat 0 ∧ c * w.getD (i : Int).toNat 0 ≤ 1000000000 * 5761440 := fun i hi => by
    rw [getD_toNat hi]
    have := hw _ (List.getElem_mem hi)
    exact ⟨Int.mul_nonneg hc.1 this.1, Int.mul_le_mul hc.2 this.2 this.1 (by omega)⟩
  have bp := bd p hp
  have bq := bd q hq
  have tp := Int.tmod_nonneg s bp.1
  have tq := Int.tmod_nonneg s bq.1
  have tp2 := Int.tmod_lt_of_pos (c * w.getD (p : Int).toNat 0) hs
  have tq2 := Int.tmod_lt_of_pos (c * w.getD (q : Int).toNat 0) hs
  refine RegX.rule hT rfl [] [(0, []), (1, [0]), (2, [0, 1]), (3, [0]), (4, [0]), (5, []), (6, [0, 1, 2, 3, 4, 5]), (7, []), (8, [0, 1, 2, 3, 4, 5, 6, 7]), (9, [0, 1, 2, 3, 4, 5, 6, 7, 8]), (10, [0, 1, 2, 3, 4, 5, 6, 7, 8, 9]), (11, [0, 1, 2, 3, 4, 5, 6, 7, 8]), (12, [0, 1, 2, 3, 4, 5, 6, 7, 8]), (13, [0, 1, 2, 3, 4, 5, 6, 7]), (14, [0, 1, 2, 3, 4, 5, 6, 7, 8, 9, 10, 11, 12, 13]), (15, [0, 1, 2, 3, 4, 5, 6, 7]), (16, []), (17, [])] (by decide +kernel) ?_
  conv => whnf
  repeat (refine And.intro (by (try unfold inI64); (try dsimp only); (try simp only [List.length_cons, List.length_append, List.length_singleton, List.length_nil]); omega) ?_; conv => whnf)
  refine .ret _ ?_
  conv => whnf
  exact ⟨_, ⟨rfl, rfl⟩, Res.le_refl _, Res.le_refl _, Res.le_refl _, trivial⟩
end Go.Proofs.YtnchgjpdggembaaGreat
set_option maxRecDepth 20000
namespace Go.Proofs.YtnchgjpdggembaaGreat
open Go Go.Eng
/-- A row of which the first places are filled. -/
def fillL (g : Nat → Int) (n i : Nat) : List Int := (List.range n).map fun j => if j < i then g j else 0
theorem fillL_length (g : Nat → Int) (n i : Nat) : (fillL g n i).length = n := by simp [fillL]
theorem fillL_get {g : Nat → Int} {n i j : Nat} (h : j < n) : (fillL g n i)[j]'(by rw [fillL_length]; exact h) = if j < i then g j else 0 := by simp [fillL]
theorem fillL_zero {e : Nat} {g : Nat → Int} {n m : Nat} {get : Nat → List DV} (hm : m = n) (hg : ∀ i, get i = iF 0) : Res.le (.buf e 1 m get) (seqB e 1 iF 0 (fillL g n 0)) :=
  Res.le_buf (by rw [fillL_length, hm]) (fun i hi => by rw [rowF_lt (by rw [fillL_length]; omega), hg i, fillL_get (by omega)]; simp)
theorem fillL_set (g : Nat → Int) (n i : Nat) : (fillL g n i).set i (g i) = fillL g n (i + 1) := by
  apply List.ext_getElem
  · simp [fillL]
  · intro j h1 h2
    simp only [fillL, List.getElem_set, List.getElem_map, List.getElem_range]
    by_cases e : i = j
    · subst e; simp
    · by_cases q : j < i
      · have : j < i + 1 := by omega
        simp [e, q, this]
      · have : ¬ j < i + 1 := by omega
        simp [e, q, this]
def leftL (c : Int) (g : Nat → Int) (i : Nat) : Int := c - ((List.range i).map g).sum
theorem leftL_succ (c : Int) (g : Nat → Int) (i : Nat) : leftL c g (i + 1) = leftL c g i - g i := by
  simp [leftL, List.range_succ, List.sum_append]; omega
def partG (c : Int) (w : List Int) (j : Nat) : Int := (c * w.getD j 0).tdiv w.sum
def cmpG (c : Int) (w : List Int) (p q : Int) : Int := (c * w.getD q.toNat 0).tmod w.sum - (c * w.getD p.toNat 0).tmod w.sum
def orderG (c : Int) (w : List Int) : List Int := isort (cmpG c w) (fillL (fun j => (j : Int)) w.length w.length)
def incL (P : List Int) (js : List Int) : List Int := js.foldl (fun P j => P.set j.toNat (P.getD j.toNat 0 + 1)) P
def splitG (c : Int) (w : List Int) : List Int := incL (fillL (partG c w) w.length w.length) ((orderG c w).take (leftL c (partG c w) w.length).toNat)
theorem incL_snoc (P : List Int) (js : List Int) (j : Int) : incL P (js ++ [j]) = (incL P js).set j.toNat ((incL P js).getD j.toNat 0 + 1) := by simp [incL]
theorem sum_nonneg {l : List Int} (h : ∀ x ∈ l, 0 ≤ x) : 0 ≤ l.sum := by
  induction l with
  | nil => simp
  | cons x l ih => rw [List.sum_cons]; have := h x (by simp); have := ih (fun y hy => h y (by simp [hy])); omega
theorem sum_le {l : List Int} {b : Int} (h : ∀ x ∈ l, x ≤ b) : l.sum ≤ b * l.length := by
  induction l with
  | nil => simp
  | cons x l ih => rw [List.sum_cons]; have := h x (by simp); have := ih (fun y hy => h y (by simp [hy])); simp only [List.length_cons]; rw [show b * ((l.length + 1 : Nat) : Int) = b * l.length + b by push_cast; rw [Int.mul_add, Int.mul_one]]; omega
-- split
theorem s120 (c : Int) (w : List Int) (hc : 0 ≤ c ∧ c ≤ 1000000000) (hw : ∀ x ∈ w, 0 ≤ x ∧ x ≤ 5761440) (hn : w.length < 20) (hs : w.sum ≠ 0) (hleft : 0 ≤ leftL c (partG c w) w.length ∧ leftL c (partG c w) w.length ≤ w.length) :
    FSpec Tryz.prog 61 [.d (.int .i64 c), .d (ints w)] [] (fun y r => y = .d (ints (splitG c w)) ∧ r = []) := by
  have hs0 : 0 ≤ w.sum := sum_nonneg fun x hx => (hw x hx).1
  have hs1 : w.sum ≤ 5761440 * w.length := sum_le fun x hx => (hw x hx).2
  refine spec_of hT (C := []) Tryz.func61 rfl Tryz.call61 rfl rfl rfl ?_
  conv => whnf
  refine LoopX.rule hT (C := []) (ι := Nat) (fun i => i ≤ w.length) (fun i => mkSt [(2, .ptr 2 0), (3, .ptr 3 0), (5, .ptr 5 0), (15, .d (ints w)), (16, .d (.int .i64 w.length)), (17, .d (.int .i64 i))]
    [(2, .cells 3 [.d (.int .i64 c)]), (3, .cells 22 [.d (ints w)]), (5, .cells 3 [.d (.int .i64 (w.take i).sum)])]) (fun i => w.length - i) 0 (by omega) ?_ ?_
  · exact Entails.mk' [(2, 2), (3, 3), (5, 5)] rfl rfl ⟨SV.le_refl _, SV.le_refl _, SV.le_refl _, SV.le_refl _, SV.le_refl _, SV.le_refl _, trivial⟩ ⟨Res.le_refl _, Res.le_refl _, Res.le_refl _, trivial⟩
  intro i p1
  conv => whnf
  refine br_intro (fun h => ?_) (fun h => ?_)
  · simp only [decide_eq_true_eq] at h
    have hi : i < w.length := by omega
    have b1 := hw _ (List.getElem_mem hi)
    have b2 : 0 ≤ (w.take i).sum := sum_nonneg fun x hx => (hw x (List.mem_of_mem_take hx)).1
    have b3 : (w.take i).sum ≤ 5761440 * (w.take i).length := sum_le fun x hx => (hw x (List.mem_of_mem_take hx)).2
    have b4 : (w.take i).length = i := by simp; omega
    have b5 : w.getD (i : Int).toNat 0 = w[i] := getD_toNat hi
    conv => whnf
    repeat (refine And.intro (by (try unfold inI64); (try dsimp only); (try simp only [List.length_cons, List.length_append, List.length_singleton, List.length_nil]); omega) ?_; conv => whnf)
    refine ⟨i + 1, hi, by omega, ?_⟩
    refine Entails.mk' [(2, 2), (3, 3), (5, 5)] rfl rfl ⟨SV.le_refl _, SV.le_refl _, SV.le_refl _, SV.le_refl _, SV.le_refl _, SV.le_refl _, trivial⟩ ⟨Res.le_refl _, Res.le_refl _, ?_, trivial⟩
    show Res.le (.cells 3 [.d (.int .i64 ((w.take i).sum + w.getD (i : Int).toNat 0))]) (.cells 3 [.d (.int .i64 (w.take (i + 1)).sum)])
    rw [b5, sum_take hi]; exact Res.le_refl _
  simp only [decide_eq_false_iff_not] at h
  have e1 : i = w.length := by omega
  subst e1
  rw [List.take_length]
  conv => whnf
  refine RegX.rule hT rfl [] [(0, []), (1, []), (2, []), (3, [0, 1, 2]), (4, [0, 1, 2]), (5, [0, 1, 2]), (6, [3, 4, 5]), (7, [])] (by decide +kernel) ?_
  conv => whnf
  refine And.intro ⟨by omega, by omega, by show (8:Int) * w.length ≤ _; omega, by omega⟩ ?_
  conv => whnf
  refine And.intro ⟨by omega, by omega, by show (8:Int) * w.length ≤ _; omega, by omega⟩ ?_
  conv => whnf
  have hg0 : ∀ j, j < w.length → 0 ≤ c * w.getD j 0 ∧ c * w.getD j 0 ≤ 1000000000 * 5761440 := fun j hj => by
    have := hw _ (getD_mem (x := (0 : Int)) hj)
    exact ⟨Int.mul_nonneg hc.1 this.1, Int.mul_le_mul hc.2 this.2 this.1 (by omega)⟩
  have hg1 : ∀ j, j < w.length → 0 ≤ partG c w j ∧ partG c w j ≤ 1000000000 * 5761440 := fun j hj => by
    have := hg0 j hj
    exact ⟨Int.tdiv_nonneg this.1 hs0, Int.le_trans (Int.tdiv_le_self _ this.1) this.2⟩
  have hl1 : ∀ i, i ≤ w.length → c - 1000000000 * 5761440 * i ≤ leftL c (partG c w) i ∧ leftL c (partG c w) i ≤ c := fun i => by
    induction i with
    | zero => intro _; simp [leftL]
    | succ i ih => intro hi; have := ih (by omega); have := hg1 i (by omega); rw [leftL_succ]; omega
  refine LoopX.rule hT (C := []) (ι := Nat) (fun i => i ≤ w.length) (fun i => mkSt [(2, .ptr 2 0), (3, .ptr 3 0), (5, .ptr 5 0), (8, .buf 27), (9, .buf 30), (10, .d (.int .i64 (leftL c (partG c w) i))), (32, .d (ints w)), (33, .d (.int .i64 w.length)), (34, .d (.int .i64 i))]
    [(2, .cells 3 [.d (.int .i64 c)]), (3, .cells 22 [.d (ints w)]), (5, .cells 3 [.d (.int .i64 w.sum)]), (27, seqB 3 1 iF 0 (fillL (partG c w) w.length i)), (30, seqB 3 1 iF 0 (fillL (fun j => (j : Int)) w.length i))]) (fun i => w.length - i) 0 (by omega) ?_ ?_
  · exact Entails.mk' [(2, 2), (3, 3), (5, 5), (27, 27), (30, 30)] rfl rfl ⟨SV.le_refl _, SV.le_refl _, SV.le_refl _, SV.le_refl _, SV.le_refl _, SV.le_int (by simp [leftL]), SV.le_refl _, SV.le_refl _, SV.le_refl _, trivial⟩
      ⟨Res.le_refl _, Res.le_refl _, Res.le_refl _, fillL_zero (by rfl) (fun _ => rfl), fillL_zero (by rfl) (fun _ => rfl), trivial⟩
  clear p1 h
  intro i p1
  conv => whnf
  refine br_intro (fun h => ?_) (fun h => ?_)
  · simp only [decide_eq_true_eq] at h
    have hi : i < w.length := by omega
    have b0 := hg0 i hi
    have b1 := hg1 i hi
    have b2 := hl1 i p1
    have e1 : (i : Int).toNat = i := Int.toNat_natCast i
    have l1 := fillL_length (partG c w) w.length i
    have l2 := fillL_length (fun j => (j : Int)) w.length i
    conv => whnf
    repeat (refine And.intro (by (try unfold inI64); (try dsimp only); (try simp only [e1, l1, l2, List.length_cons, List.length_append, List.length_singleton, List.length_nil]); omega) ?_; conv => whnf)
    refine And.intro (by show inI64 (partG c w i); unfold inI64; omega) ?_
    conv => whnf
    repeat (refine And.intro (by (try unfold inI64); (try dsimp only); (try simp only [e1, l1, l2, List.length_cons, List.length_append, List.length_singleton, List.length_nil]); omega) ?_; conv => whnf)
    simp only [e1, Nat.beq_refl, cond_true]
    conv => whnf
    refine And.intro (by show inI64 (leftL c (partG c w) i - partG c w i); unfold inI64; omega) ?_
    conv => whnf
    refine And.intro (by unfold inI64; omega) ?_
    conv => whnf
    refine ⟨i + 1, hi, by omega, ?_⟩
    have r1 : Res.le (.buf 3 1 (fillL (partG c w) w.length i).length fun j => bif Nat.beq j i then setAtD (rowF iF 0 (fillL (partG c w) w.length i) j) 0 [.int .i64 (partG c w i)] else rowF iF 0 (fillL (partG c w) w.length i) j) (seqB 3 1 iF 0 (fillL (partG c w) w.length (i + 1))) := by
      rw [← fillL_set]; exact Res.le_putF (fun _ _ => rfl)
    have r2 : Res.le (.buf 3 1 (fillL (fun j => (j : Int)) w.length i).length fun j => bif Nat.beq j i then setAtD (rowF iF 0 (fillL (fun j => (j : Int)) w.length i) j) 0 [.int .i64 (i : Int)] else rowF iF 0 (fillL (fun j => (j : Int)) w.length i) j) (seqB 3 1 iF 0 (fillL (fun j => (j : Int)) w.length (i + 1))) := by
      rw [← fillL_set]; exact Res.le_putF (fun _ _ => rfl)
    exact Entails.mk' [(2, 2), (3, 3), (5, 5), (27, 27), (30, 30)] rfl rfl ⟨SV.le_refl _, SV.le_refl _, SV.le_refl _, SV.le_refl _, SV.le_refl _, SV.le_int (leftL_succ c (partG c w) i).symm, SV.le_refl _, SV.le_refl _, SV.le_refl _, trivial⟩
      ⟨Res.le_refl _, Res.le_refl _, Res.le_refl _, r1, r2, trivial⟩
  simp only [decide_eq_false_iff_not] at h
  have e1 : i = w.length := by omega
  subst e1
  conv => whnf
  have hlen : (fillL (fun j => (j : Int)) w.length w.length).length = w.length := fillL_length _ _ _
  have hmemo : ∀ p, p ∈ fillL (fun j => (j : Int)) w.length w.length → ∃ j : Nat, p = j ∧ j < w.length := fun p hp => by
    simp only [fillL, List.mem_map, List.mem_range] at hp
    obtain ⟨j, hj, rfl⟩ := hp
    exact ⟨j, by simp [hj], hj⟩
  refine CallX.of (s173 106 (.int .i64 c) (ints w) (.int .i64 w.sum) 3 22 3 (cmpG c w) (fillL (fun j => (j : Int)) w.length w.length) (by omega) (fun p q hp hq => by
    obtain ⟨j, rfl, hj⟩ := hmemo p hp
    obtain ⟨k, rfl, hk⟩ := hmemo q hq
    exact s174 c w.sum w hc hw (by omega) (by omega) j k hj hk)) [(1000001, 30), (1000002, 2), (1000003, 3), (1000004, 5)] rfl ⟨SV.le_refl _, SV.le_refl _, trivial⟩ ⟨Res.le_refl _, Res.le_refl _, Res.le_refl _, Res.le_refl _, trivial⟩ rfl rfl ?_
  rintro x rout ⟨rfl, rfl⟩
  refine ⟨rfl, ?_⟩
  conv => whnf
  have hol : (orderG c w).length = w.length := by unfold orderG isort; rw [List.length_reverse, isortR_length, fillL_length]
  refine SliceX.freeze _ _ _ _ rfl ?_
  conv => whnf
  refine And.intro ⟨by omega, hleft.1, by show _ ≤ ((orderG c w).length : Int); rw [hol]; exact hleft.2⟩ ?_
  conv => whnf
  obtain ⟨idx, hidx⟩ : ∃ idx, idx = (orderG c w).take (leftL c (partG c w) w.length).toNat := ⟨_, rfl⟩
  have hil : idx.length = (leftL c (partG c w) w.length).toNat := by rw [hidx, List.length_take, hol]; omega
  have him : ∀ p ∈ idx, ∃ j : Nat, p = j ∧ j < w.length := fun p hp => by
    rw [hidx] at hp
    have := List.mem_of_mem_take hp
    unfold orderG isort at this
    rw [List.mem_reverse, isortR_mem] at this
    exact hmemo p this
  refine LoopX.rule hT (C := []) (ι := Nat × List Int) (fun p => p.1 ≤ idx.length ∧ p.2 = incL (fillL (partG c w) w.length w.length) (idx.take p.1) ∧ p.2.length = w.length ∧ (∀ x ∈ p.2, 0 ≤ x ∧ x ≤ 1000000000 * 5761440 + p.1))
    (fun p => mkSt [(8, .buf 27), (63, .d (ints idx)), (64, .d (.int .i64 idx.length)), (65, .d (.int .i64 p.1))] [(27, seqB 3 1 iF 0 p.2)]) (fun p => idx.length - p.1) (0, fillL (partG c w) w.length w.length) ⟨by simp, by simp [incL], fillL_length _ _ _, ?_⟩ ?_ ?_
  · intro x hx
    simp only [fillL, List.mem_map, List.mem_range] at hx
    obtain ⟨j, hj, rfl⟩ := hx
    have := hg1 j hj
    simp [hj]; omega
  · refine Entails.mk' [(27, 27)] rfl rfl ⟨SV.le_refl _, SV.le_ro ?_ (fun i hi => ?_), SV.le_int ?_, SV.le_refl _, trivial⟩ ⟨Res.le_refl _, trivial⟩
    · rw [hil]; omega
    · change rowF iF 0 (orderG c w) (Int.toNat 0 + i) = _
      rw [rowF_lt (show Int.toNat 0 + i < (orderG c w).length by simp only [Int.toNat_zero]; omega), rowF_lt (show i < idx.length by omega)]
      subst hidx
      simp [orderG]
    · rw [hil]; omega
  rintro ⟨i, P⟩ ⟨p1, p2, p3, p4⟩
  simp only at p1 p2 p3 p4
  conv => whnf
  refine br_intro (fun h => ?_) (fun h => ?_)
  · simp only [decide_eq_true_eq] at h
    have hi : i < idx.length := by omega
    obtain ⟨j, hj, hjw⟩ := him _ (List.getElem_mem hi)
    have e0 : (i : Int).toNat = i := Int.toNat_natCast i
    have e1 : idx.getD (i : Int).toNat 0 = j := by rw [getD_toNat hi, hj]
    have e2 : (j : Int).toNat = j := Int.toNat_natCast j
    conv => whnf
    repeat (refine And.intro (by (try unfold inI64); (try dsimp only); (try simp only [e1, e2, List.length_cons, List.length_append, List.length_singleton, List.length_nil]); omega) ?_; conv => whnf)
    have hjP : j < P.length := by omega
    have bP := p4 _ (getD_mem (x := (0 : Int)) hjP)
    refine And.intro (by simp only [e1, e2]; unfold inI64; omega) ?_
    conv => whnf
    repeat (refine And.intro (by (try unfold inI64); (try dsimp only); (try simp only [e1, e2, List.length_cons, List.length_append, List.length_singleton, List.length_nil]); omega) ?_; conv => whnf)
    refine ⟨(i + 1, P.set j (P.getD j 0 + 1)), ⟨hi, ?_, by simp only [List.length_set]; exact p3, ?_⟩, by simp only; omega, ?_⟩
    · simp only
      rw [take_snoc hi, incL_snoc, ← p2, hj, e2]
    · simp only
      intro x hx
      rcases List.mem_or_eq_of_mem_set hx with q | q
      · have := p4 x q; omega
      · subst q; omega
    · have r1 : Res.le (.buf 3 1 P.length fun k => bif Nat.beq k (idx.getD (i : Int).toNat 0).toNat then setAtD (rowF iF 0 P k) 0 [.int .i64 (P.getD (idx.getD (i : Int).toNat 0).toNat 0 + 1)] else rowF iF 0 P k) (seqB 3 1 iF 0 (P.set j (P.getD j 0 + 1))) := by
        rw [e1, e2]; exact Res.le_putF (fun _ _ => rfl)
      exact Entails.mk' [(27, 27)] rfl rfl ⟨SV.le_refl _, SV.le_refl _, SV.le_refl _, SV.le_refl _, trivial⟩ ⟨r1, trivial⟩
  simp only [decide_eq_false_iff_not] at h
  have e1 : i = idx.length := by omega
  subst e1
  conv => whnf
  rw [List.take_length, hidx] at p2
  refine .freeze _ 27 3 1 _ _ rfl ?_
  refine .ret _ ?_
  conv => whnf
  refine ⟨[], ⟨?_, rfl⟩, trivial⟩
  conv => lhs; whnf
  show SV.d (ints P) = SV.d (ints (splitG c w))
  rw [p2]; rfl
end Go.Proofs.YtnchgjpdggembaaGreat
set_option maxRecDepth 20000
namespace Go.Proofs.YtnchgjpdggembaaGreat
open Go Go.Eng
theorem left_sum (c : Int) (w : List Int) (hc : 0 ≤ c) (hw : ∀ x ∈ w, 0 ≤ x) (hs : 0 < w.sum) : ∀ i, i ≤ w.length → ∃ R, 0 ≤ R ∧ R ≤ w.sum * i ∧ w.sum * ((List.range i).map (partG c w)).sum + R = c * (w.take i).sum := by
  intro i
  induction i with
  | zero => intro _; exact ⟨0, by omega, by simp, by simp⟩
  | succ i ih =>
    intro hi
    obtain ⟨R, h1, h2, h3⟩ := ih (by omega)
    have hx : w.getD i 0 = w[i] := by rw [List.getD_eq_getElem?_getD]; simp [show i < w.length by omega]
    have h4 := Int.tmod_add_mul_tdiv (c * w[i]) w.sum
    have h5 : 0 ≤ c * w[i] := Int.mul_nonneg hc (hw _ (List.getElem_mem _))
    have h6 := Int.tmod_nonneg w.sum h5
    have h7 := Int.tmod_lt_of_pos (c * w[i]) hs
    refine ⟨R + (c * w[i]).tmod w.sum, by omega, ?_, ?_⟩
    · rw [show ((i + 1 : Nat) : Int) = (i : Int) + 1 by push_cast; rfl, Int.mul_add, Int.mul_one]; omega
    · rw [sum_take (show i < w.length by omega), Int.mul_add, ← h3, List.range_succ, List.map_append, List.sum_append, List.map_singleton, List.sum_singleton, Int.mul_add]
      have : partG c w i = (c * w[i]).tdiv w.sum := by unfold partG; rw [hx]
      rw [this]; omega
theorem left_bound (c : Int) (w : List Int) (hc : 0 ≤ c) (hw : ∀ x ∈ w, 0 ≤ x) (hs : 0 < w.sum) : 0 ≤ leftL c (partG c w) w.length ∧ leftL c (partG c w) w.length ≤ w.length := by
  obtain ⟨R, h1, h2, h3⟩ := left_sum c w hc hw hs w.length (Nat.le_refl _)
  rw [List.take_length] at h3
  have e : w.sum * leftL c (partG c w) w.length = R := by
    unfold leftL
    rw [Int.mul_sub, Int.mul_comm w.sum c]; omega
  constructor
  · refine Int.not_lt.1 fun h => ?_
    have := Int.mul_neg_of_pos_of_neg hs h
    omega
  · exact Int.le_of_mul_le_mul_left (by rw [e]; exact h2) hs
-- mark.Split
theorem s35 (c : Int) (w : List Int) (hn : w.length < 20) : FSpec Tryz.prog 32 [.d (.int .i64 c), .d (ints w)] []
    (fun y r => y = .tup [.d (if splitF c w = 0 then ints (splitG c w) else .nilsl), .d (.int .i64 (splitF c w))] ∧ r = []) := by
  refine spec_of hT (C := []) Tryz.func32 rfl Tryz.call32 rfl rfl rfl ?_
  conv => whnf
  refine CallX.pure (s119 _ _ _) ⟨SV.le_refl _, SV.le_refl _, SV.le_refl _, trivial⟩ rfl ?_
  conv => whnf
  refine CallX.pure (s107 _ _) ⟨SV.le_refl _, SV.le_refl _, trivial⟩ rfl ?_
  conv => whnf
  refine CallX.pure (s107 _ _) ⟨SV.le_refl _, SV.le_refl _, trivial⟩ rfl ?_
  conv => whnf
  refine CallX.pure (s105 [_, _] (by simp)) ⟨SV.le_lit (by rfl) (by rfl), trivial⟩ rfl ?_
  have hnl : ¬ (50 < w.length) := by omega
  generalize he : firstE _ = e
  have he2 : e = if 0 ≤ c ∧ c ≤ 1000000000 then 0 else 1 := by
    rw [← he]
    simp only [firstE]
    by_cases h : 0 ≤ c ∧ c ≤ 1000000000 <;> simp [h] <;> omega
  conv => whnf
  refine br_intro (fun h => ?_) (fun h => ?_)
  · simp at h
    conv => whnf
    refine .ret _ ?_
    conv => whnf
    refine ⟨[], ⟨?_, rfl⟩, trivial⟩
    show SV.tup [.d .nilsl, .d (.int .i64 e)] = _
    have hc : ¬ (0 ≤ c ∧ c ≤ 1000000000) := fun q => h (by rw [he2, if_pos q])
    rw [if_neg hc] at he2
    have : splitF c w = 1 := by simp only [splitF]; rw [if_pos hc]
    rw [this, he2]; rfl
  simp at h
  have hc : 0 ≤ c ∧ c ≤ 1000000000 := Classical.byContradiction fun q => by rw [if_neg q] at he2; omega
  conv => whnf
  refine LoopX.rule hT (C := []) (ι := Nat) (fun i => i ≤ w.length ∧ (∀ x ∈ w.take i, 0 ≤ x ∧ x ≤ 5761440)) (fun i => mkSt [(0, .d (.int .i64 c)), (1, .d (ints w)), (7, .d (.int .i64 (w.take i).sum)), (23, .d (ints w)), (24, .d (.int .i64 w.length)), (25, .d (.int .i64 i))] []) (fun i => w.length - i) 0 ⟨by omega, by simp⟩ ?_ ?_
  · refine Entails.mk' [] rfl rfl ⟨SV.le_refl _, SV.le_refl _, SV.le_refl _, SV.le_refl _, SV.le_refl _, SV.le_refl _, trivial⟩ trivial
  rintro i ⟨p1, p2⟩
  conv => whnf
  refine br_intro (fun h => ?_) (fun h => ?_)
  · simp only [decide_eq_true_eq] at h
    have hi : i < w.length := by omega
    have b2 : 0 ≤ (w.take i).sum := sum_nonneg fun x hx => (p2 x hx).1
    have b3 : (w.take i).sum ≤ 5761440 * (w.take i).length := sum_le fun x hx => (p2 x hx).2
    have b4 : (w.take i).length = i := by simp; omega
    conv => whnf
    repeat (refine And.intro (by (try unfold inI64); (try dsimp only); (try simp only [List.length_cons, List.length_append, List.length_singleton, List.length_nil]); omega) ?_; conv => whnf)
    refine CallX.pure (s119 _ _ _) ⟨SV.le_refl _, SV.le_refl _, SV.le_refl _, trivial⟩ rfl ?_
    rw [getD_toNat hi]
    conv => whnf
    refine br_intro (fun h2 => ?_) (fun h2 => ?_)
    · conv => whnf
      refine .ret _ ?_
      conv => whnf
      refine ⟨[], ⟨?_, rfl⟩, trivial⟩
      show SV.tup [.d .nilsl, .d (.int .i64 1)] = _
      have : splitF c w = 1 := by
        simp only [splitF]
        rw [if_neg (by omega), if_neg hnl, if_pos]
        rw [List.any_eq_true]
        exact ⟨w[i], List.getElem_mem hi, h2⟩
      rw [this]; rfl
    · simp at h2
      conv => whnf
      repeat (refine And.intro (by (try unfold inI64); (try dsimp only); (try simp only [List.length_cons, List.length_append, List.length_singleton, List.length_nil]); omega) ?_; conv => whnf)
      refine ⟨i + 1, ⟨hi, fun x hx => ?_⟩, by omega, ?_⟩
      · rw [← List.take_append_getElem hi] at hx
        rcases List.mem_append.1 hx with q | q
        · exact p2 x q
        · simp at q; subst q; omega
      · exact Entails.mk' [] rfl rfl ⟨SV.le_refl _, SV.le_refl _, SV.le_int (sum_take hi).symm, SV.le_refl _, SV.le_refl _, SV.le_refl _, trivial⟩ trivial
  simp only [decide_eq_false_iff_not] at h
  have e1 : i = w.length := by omega
  subst e1
  rw [List.take_length] at p2 ⊢
  have hany : w.any (fun x => !decide (0 ≤ x ∧ x ≤ 5761440)) = false := by
    rw [List.any_eq_false]; intro x hx; have := p2 x hx; simp; omega
  conv => whnf
  refine br_intro (fun h2 => ?_) (fun h2 => ?_)
  · conv => whnf
    refine .ret _ ?_
    conv => whnf
    refine ⟨[], ⟨?_, rfl⟩, trivial⟩
    show SV.tup [.d .nilsl, .d (.int .i64 8)] = _
    simp at h2
    have : splitF c w = 8 := by
      simp only [splitF]
      rw [if_neg (by omega), if_neg hnl, hany, if_neg (by simp), if_pos h2]
    rw [this]; rfl
  · simp at h2
    have hs0 : 0 ≤ w.sum := sum_nonneg fun x hx => (p2 x hx).1
    conv => whnf
    refine CallX.pure (s120 c w hc p2 hn h2 (left_bound c w hc.1 (fun x hx => (p2 x hx).1) (by omega))) ⟨SV.le_refl _, SV.le_refl _, trivial⟩ rfl ?_
    conv => whnf
    refine .ret _ ?_
    conv => whnf
    refine ⟨[], ⟨?_, rfl⟩, trivial⟩
    show SV.tup [.d (ints (splitG c w)), .d (.int .i64 0)] = _
    have : splitF c w = 0 := by
      simp only [splitF]
      rw [if_neg (by omega), if_neg hnl, hany, if_neg (by simp), if_neg h2]
    rw [this]; rfl
end Go.Proofs.YtnchgjpdggembaaGreat
set_option maxRecDepth 20000
namespace Go.Proofs.YtnchgjpdggembaaGreat
open Go Go.Eng
-- rentref2.SplitOf
end Go.Proofs.YtnchgjpdggembaaGreat
namespace Go.Proofs.YtnchgjpdggembaaGreat
open Go Go.Eng
section
variable {α : Type} (cmp : α → α → Int)
theorem insR_perm (x : α) : ∀ l : List α, (insR cmp x l).Perm (x :: l) := by
  intro l
  induction l with
  | nil => exact .refl _
  | cons y r ih =>
    simp only [insR]
    split
    · exact (ih.cons y).trans (.swap x y r)
    · exact .refl _
theorem isortR_perm (l : List α) : (isortR cmp l).Perm l := by
  have : ∀ (l acc : List α), (l.foldl (fun acc x => insR cmp x acc) acc).Perm (l ++ acc) := by
    intro l
    induction l with
    | nil => intro acc; exact .refl _
    | cons x l ih =>
      intro acc
      rw [List.foldl_cons]
      refine (ih _).trans (((insR_perm cmp x acc).append_left l).trans ?_)
      exact List.perm_middle
  have h := this l []
  rw [List.append_nil] at h
  exact h
theorem isort_perm (l : List α) : (isort cmp l).Perm l := (List.reverse_perm _).trans (isortR_perm cmp l)
variable (R : α → α → Prop) (tr : ∀ a b c, R a b → R b c → R a c)
include tr in
theorem insR_pairwise (x : α) : ∀ l : List α, l.Pairwise (fun a b => R b a) → (∀ y ∈ l, (cmp x y < 0 → R x y) ∧ (¬ cmp x y < 0 → R y x)) → (insR cmp x l).Pairwise (fun a b => R b a) := by
  intro l
  induction l with
  | nil => intro _ _; simp [insR]
  | cons y r ih =>
    intro h hc
    have h' := List.pairwise_cons.1 h
    simp only [insR]
    split
    · rename_i hlt
      rw [List.pairwise_cons]
      refine ⟨fun z hz => ?_, ih h'.2 (fun z hz => hc z (by simp [hz]))⟩
      rcases (insR_mem cmp x z).1 hz with q | q
      · subst q; exact (hc y (by simp)).1 hlt
      · exact h'.1 z q
    · rename_i hlt
      have hyx := (hc y (by simp)).2 hlt
      rw [List.pairwise_cons]
      refine ⟨fun z hz => ?_, h⟩
      rcases List.mem_cons.1 hz with q | q
      · subst q; exact hyx
      · exact tr _ _ _ (h'.1 z q) hyx
include tr in
/-- A stable sort sorts: R: goes before. -/
theorem isort_pairwise : ∀ l : List α, l.Pairwise (fun y x => (cmp x y < 0 → R x y) ∧ (¬ cmp x y < 0 → R y x)) → (isort cmp l).Pairwise R := by
  intro l h
  unfold isort
  rw [List.pairwise_reverse]
  have : ∀ n, n ≤ l.length → (isortR cmp (l.take n)).Pairwise (fun a b => R b a) := by
    intro n
    induction n with
    | zero => intro _; simp [isortR]
    | succ n ih =>
      intro hn
      rw [take_snoc hn, isortR_snoc]
      refine insR_pairwise cmp R tr _ _ (ih (by omega)) (fun y hy => ?_)
      have hy := (isortR_mem cmp _).1 hy
      have hp : (l.take (n + 1)).Pairwise (fun y x => (cmp x y < 0 → R x y) ∧ (¬ cmp x y < 0 → R y x)) := h.sublist (List.take_sublist _ _)
      rw [take_snoc hn, List.pairwise_append] at hp
      exact hp.2.2 y hy _ (by simp)
  have := this l.length (Nat.le_refl _)
  rwa [List.take_length] at this
end
end Go.Proofs.YtnchgjpdggembaaGreat
namespace Go.Proofs.YtnchgjpdggembaaGreat
open Go Go.Eng
end Go.Proofs.YtnchgjpdggembaaGreat
set_option maxRecDepth 20000
namespace Go.Proofs.YtnchgjpdggembaaGreat
open Go Go.Eng
theorem all_step {p : Nat → Prop} {i : Nat} (h : ∀ j, j < i → p j) (h1 : p i) : ∀ j, j < i + 1 → p j := fun j hj => by
  rcases Nat.lt_or_ge j i with q | q
  · exact h j q
  · have : j = i := by omega
    subst this; exact h1
-- slices.Equal of shares
theorem splitF_31 : splitF 3 [1, 1] = 0 := by decide +kernel
theorem splitG_31 : splitG 3 [1, 1] = [2, 1] := by decide +kernel
-- Shares
end Go.Proofs.YtnchgjpdggembaaGreat
set_option maxRecDepth 20000
namespace Go.Proofs.YtnchgjpdggembaaGreat
open Go Go.Eng
structure Gate where
  key : List UInt8
  area : List UInt8
  clock : Int
def g0 : Gate := ⟨[], [], 0⟩
structure Pas where
  tm : Int
  gate : List UInt8
  plate : List UInt8
  cents : Int
def paF : Pas → List DV := fun p => [.int .i64 p.tm, .str p.gate, .str p.plate, .int .i64 p.cents]
def pa0 : Pas := ⟨0, [], [], 0⟩
abbrev pass (l : List Pas) : DV := seqD 4 paF pa0 l
-- toll.CheckGates
def plCh (c : UInt8) : Bool := (decide (65 ≤ c.toNat) && decide (c.toNat ≤ 90)) || (decide (48 ≤ c.toNat) && decide (c.toNat ≤ 57))
def isPlateB (s : List UInt8) : Bool := s.all plCh && decide (2 ≤ s.length) && decide (s.length ≤ 10)
-- word.IsPlate
theorem s185 (s : List UInt8) (hl : s.length ≤ 2^40) : FSpec Tryz.prog 108 [.d (.str s)] [] (fun x r => x = .d (.bool (isPlateB s)) ∧ r = []) := by
  refine spec_of hT (C := []) Tryz.func108 rfl Tryz.call108 rfl rfl rfl ?_
  conv => whnf
  refine LoopX.rule hT (C := []) (ι := Nat) (fun i => i ≤ s.length ∧ ∀ j, j < i → plCh (s.getD j 0) = true) (fun i => mkSt [(0, .d (.str s)), (6, .d (.int .i64 s.length)), (7, .d (.int .i64 i))] []) (fun i => s.length - i) 0 ⟨by omega, by omega⟩ (by (refine Entails.mk' [] rfl rfl ?_ ?_ <;> repeat' (first | exact True.intro | exact SV.le_refl _ | exact Res.le_refl _ | exact SV.le_int (by omega) | exact SV.le_any _ | refine And.intro ?_ ?_)); done) ?_
  rintro i ⟨p1, p2⟩
  have e1 : (i : Int).toNat = i := Int.toNat_natCast i
  have hbad : i < s.length → plCh (s.getD i 0) = false → isPlateB s = false := fun hi h => by
    have : s.all plCh = false := by
      rw [List.all_eq_false]; exact ⟨s.getD i 0, getD_mem hi, by rw [h]; simp⟩
    simp only [isPlateB, this, Bool.false_and]
  have hall : i = s.length → s.all plCh = true := fun hi => by
    rw [List.all_eq_true]; intro c hc
    obtain ⟨j, hj, rfl⟩ := mem_getD (d := 0) hc
    exact p2 j (by omega)
  conv => whnf
  repeat' (first
    | (refine br_intro (fun hb => ?_) (fun hb => ?_) <;> (try simp only [decide_eq_true_eq, decide_eq_false_iff_not, Bool.not_eq_true', Bool.not_eq_false', Bool.and_eq_true, Bool.or_eq_true, beq_iff_eq, not_and, Int.not_le, Int.not_lt, Int.toNat_natCast, beq_eq_false_iff_ne, ne_eq, eq_self, not_true_eq_false, not_false_eq_true] at hb) <;> (conv => whnf))
    | omega
    | (refine And.intro ?_ ?_; ((try dsimp only); first | omega | (refine ⟨by omega, by omega, Int.le_trans (Int.mul_le_mul_of_nonneg_right (Int.ofNat_le.2 (Nat.le_of_ble_eq_true (rfl : Nat.ble _ 1024 = true))) (by omega)) (by omega), by omega⟩) | (refine Nat.le_trans (Nat.mul_le_mul_left _ (Nat.le_of_ble_eq_true (rfl : Nat.ble _ 1024 = true))) ?_; omega) | (unfold inI64; omega) | (constructor <;> omega) | (simp only [inI64, List.length_cons, List.length_append, List.length_nil, List.length_set] at *; omega) | decide | (unfold inI64; decide)); conv => whnf)
    | omega | decide | assumption)
  all_goals first
    | (refine ⟨i + 1, ⟨by omega, all_step p2 (by clear p2 hbad hall; simp only [e1] at *; simp only [plCh]; grind)⟩, by omega, (by (refine Entails.mk' [] rfl rfl ?_ ?_ <;> repeat' (first | exact True.intro | exact SV.le_refl _ | exact Res.le_refl _ | exact SV.le_int (by omega) | exact SV.le_any _ | refine And.intro ?_ ?_)); done)⟩)
    | (refine .ret _ ?_
       conv => whnf
       refine ⟨[], ⟨?_, rfl⟩, trivial⟩
       conv => lhs; whnf
       congr 2
       first
         | (rw [hbad (by omega) (by clear p2 hbad hall; simp only [e1] at *; simp only [plCh]; grind)])
         | (unfold isPlateB; rw [hall (by omega)]; clear p2 hbad hall; grind))
def cmpI (a b : Int) : Int := if a < b then -1 else if b < a then 1 else 0
def cmpS (a b : List UInt8) : Int := if Op.bytesLess a b = true then -1 else if Op.bytesLess b a = true then 1 else 0
-- cmp.Compare
theorem s210 (a : Int) : FSpec Tryz.prog 129 [.d (.int .i64 a)] [] (fun x r => x = .d (.bool false) ∧ r = []) := by
  refine spec_of hT (C := []) Tryz.func129 rfl Tryz.call129 rfl rfl rfl ?_
  conv => whnf
  refine .ret _ ?_
  conv => whnf
  refine ⟨[], ⟨?_, rfl⟩, trivial⟩
  conv => lhs; whnf
  simp
theorem s211 (a : List UInt8) : FSpec Tryz.prog 119 [.d (.str a)] [] (fun x r => x = .d (.bool false) ∧ r = []) := by
  refine spec_of hT (C := []) Tryz.func119 rfl Tryz.call119 rfl rfl rfl ?_
  conv => whnf
  refine .ret _ ?_
  conv => whnf
  refine ⟨[], ⟨?_, rfl⟩, trivial⟩
  conv => lhs; whnf
  simp
theorem s183 (a b : Int) : FSpec Tryz.prog 96 [.d (.int .i64 a), .d (.int .i64 b)] [] (fun x r => x = .d (.int .i64 (cmpI a b)) ∧ r = []) := by
  refine spec_of hT (C := []) Tryz.func96 rfl Tryz.call96 rfl rfl rfl ?_
  conv => whnf
  repeat' (first
    | (refine CallX.exact (s210 _) rfl rfl ?_; rotate_right; conv => whnf)
    | (refine br_intro (fun hb => ?_) (fun hb => ?_) <;> (try simp only [decide_eq_true_eq, decide_eq_false_iff_not, Bool.not_eq_true', Bool.not_eq_false', Bool.and_eq_true, Bool.or_eq_true, beq_iff_eq, not_and, Int.not_le, Int.not_lt, Int.toNat_natCast, beq_eq_false_iff_ne, ne_eq, eq_self, not_true_eq_false, not_false_eq_true] at hb) <;> (conv => whnf))
    | omega
    | (refine And.intro ?_ ?_; ((try dsimp only); first | omega | (refine ⟨by omega, by omega, Int.le_trans (Int.mul_le_mul_of_nonneg_right (Int.ofNat_le.2 (Nat.le_of_ble_eq_true (rfl : Nat.ble _ 1024 = true))) (by omega)) (by omega), by omega⟩) | (refine Nat.le_trans (Nat.mul_le_mul_left _ (Nat.le_of_ble_eq_true (rfl : Nat.ble _ 1024 = true))) ?_; omega) | (unfold inI64; omega) | (constructor <;> omega) | (simp only [inI64, List.length_cons, List.length_append, List.length_nil, List.length_set] at *; omega) | decide | (unfold inI64; decide)); conv => whnf)
    | omega | decide | assumption)
  all_goals
    refine .ret _ ?_
    conv => whnf
    refine ⟨[], ⟨?_, rfl⟩, trivial⟩
    conv => lhs; whnf
    congr 2; unfold cmpI; grind
theorem less_tri : ∀ (a b : List UInt8), Op.bytesLess a b = false → a ≠ b → Op.bytesLess b a = true := by
  intro a
  induction a with
  | nil => intro b h hn; cases b with
    | nil => exact absurd rfl hn
    | cons y ys => simp [Op.bytesLess] at h
  | cons x xs ih =>
    intro b h hn
    cases b with
    | nil => simp [Op.bytesLess]
    | cons y ys =>
      simp only [Op.bytesLess] at h ⊢
      grind
theorem s184 (a b : List UInt8) : FSpec Tryz.prog 75 [.d (.str a), .d (.str b)] [] (fun x r => x = .d (.int .i64 (cmpS a b)) ∧ r = []) := by
  refine spec_of hT (C := []) Tryz.func75 rfl Tryz.call75 rfl rfl rfl ?_
  conv => whnf
  repeat' (first
    | (refine CallX.exact (s211 _) rfl rfl ?_; rotate_right; conv => whnf)
    | (refine br_intro (fun hb => ?_) (fun hb => ?_) <;> (try simp only [decide_eq_true_eq, decide_eq_false_iff_not, Bool.not_eq_true', Bool.not_eq_false', Bool.and_eq_true, Bool.or_eq_true, beq_iff_eq, not_and, Int.not_le, Int.not_lt, Int.toNat_natCast, beq_eq_false_iff_ne, ne_eq, eq_self, not_true_eq_false, not_false_eq_true] at hb) <;> (conv => whnf))
    | omega
    | (refine And.intro ?_ ?_; ((try dsimp only); first | omega | (refine ⟨by omega, by omega, Int.le_trans (Int.mul_le_mul_of_nonneg_right (Int.ofNat_le.2 (Nat.le_of_ble_eq_true (rfl : Nat.ble _ 1024 = true))) (by omega)) (by omega), by omega⟩) | (refine Nat.le_trans (Nat.mul_le_mul_left _ (Nat.le_of_ble_eq_true (rfl : Nat.ble _ 1024 = true))) ?_; omega) | (unfold inI64; omega) | (constructor <;> omega) | (simp only [inI64, List.length_cons, List.length_append, List.length_nil, List.length_set] at *; omega) | decide | (unfold inI64; decide)); conv => whnf)
    | omega | decide | assumption)
  all_goals
    refine .ret _ ?_
    conv => whnf
    refine ⟨[], ⟨?_, rfl⟩, trivial⟩
    conv => lhs; whnf
    congr 2; unfold cmpS; grind [less_tri]
-- cmp.Or of numbers
theorem s182 (l : List Int) (hl : l.length ≤ 2^40) : FSpec Tryz.prog 73 [.d (ints l)] [] (fun x r => x = .d (.int .i64 (firstE l)) ∧ r = []) := by
  refine spec_of hT (C := []) Tryz.func73 rfl Tryz.call73 rfl rfl rfl ?_
  conv => whnf
  refine LoopX.rule hT (C := []) (ι := Nat) (fun i => i ≤ l.length ∧ firstE l = firstE (l.drop i)) (fun i => mkSt [(3, .d (.int .i64 0)), (6, .d (ints l)), (7, .d (.int .i64 l.length)), (8, .d (.int .i64 i))] []) (fun i => l.length - i) 0 ⟨by omega, by simp⟩ (by (refine Entails.mk' [] rfl rfl ?_ ?_ <;> repeat' (first | exact True.intro | exact SV.le_refl _ | exact Res.le_refl _ | exact SV.le_int (by omega) | exact SV.le_any _ | refine And.intro ?_ ?_)); done) ?_
  rintro i ⟨p1, p2⟩
  have hd : i < l.length → l.drop i = l.getD i 0 :: l.drop (i + 1) := fun hi => by rw [List.drop_eq_getElem_cons hi, List.getD_eq_getElem?_getD, List.getElem?_eq_getElem hi]; rfl
  conv => whnf
  repeat' (first
    | (refine br_intro (fun hb => ?_) (fun hb => ?_) <;> (try simp only [decide_eq_true_eq, decide_eq_false_iff_not, Bool.not_eq_true', Bool.not_eq_false', Bool.and_eq_true, Bool.or_eq_true, beq_iff_eq, not_and, Int.not_le, Int.not_lt, Int.toNat_natCast, beq_eq_false_iff_ne, ne_eq, eq_self, not_true_eq_false, not_false_eq_true] at hb) <;> (conv => whnf))
    | omega
    | (refine And.intro ?_ ?_; ((try dsimp only); first | omega | (refine ⟨by omega, by omega, Int.le_trans (Int.mul_le_mul_of_nonneg_right (Int.ofNat_le.2 (Nat.le_of_ble_eq_true (rfl : Nat.ble _ 1024 = true))) (by omega)) (by omega), by omega⟩) | (refine Nat.le_trans (Nat.mul_le_mul_left _ (Nat.le_of_ble_eq_true (rfl : Nat.ble _ 1024 = true))) ?_; omega) | (unfold inI64; omega) | (constructor <;> omega) | (simp only [inI64, List.length_cons, List.length_append, List.length_nil, List.length_set] at *; omega) | decide | (unfold inI64; decide)); conv => whnf)
    | omega | decide | assumption)
  · refine .ret _ ?_
    conv => whnf
    refine ⟨[], ⟨?_, rfl⟩, trivial⟩
    conv => lhs; whnf
    congr 2; rw [p2, hd (by omega), firstE, if_neg hb, Int.toNat_natCast]
  · exact ⟨i + 1, ⟨by omega, by rw [p2, hd (by omega), firstE, if_pos hb]⟩, by omega, (by (refine Entails.mk' [] rfl rfl ?_ ?_ <;> repeat' (first | exact True.intro | exact SV.le_refl _ | exact Res.le_refl _ | exact SV.le_int (by omega) | exact SV.le_any _ | refine And.intro ?_ ?_)); done)⟩
  · refine .ret _ ?_
    conv => whnf
    refine ⟨[], ⟨?_, rfl⟩, trivial⟩
    conv => lhs; whnf
    congr 2; rw [p2, List.drop_eq_nil_iff.2 (by omega)]; rfl
-- toll.order
end Go.Proofs.YtnchgjpdggembaaGreat
set_option maxRecDepth 20000
namespace Go.Proofs.YtnchgjpdggembaaGreat
open Go Go.Eng
/-- The first place at which something holds, or -1. -/
def ixF (p : Nat → Bool) : Nat → Int
  | 0 => -1
  | n + 1 => if ixF p n = -1 then (if p n = true then n else -1) else ixF p n
theorem ixF_none {p : Nat → Bool} : ∀ {n : Nat}, (∀ j, j < n → p j = false) → ixF p n = -1 := by
  intro n
  induction n with
  | zero => intro _; rfl
  | succ n ih => intro h; rw [ixF, if_pos (ih fun j hj => h j (by omega)), h n (by omega)]; rfl
theorem ixF_hit {p : Nat → Bool} {n i : Nat} (hi : i < n) (h : ∀ j, j < i → p j = false) (h1 : p i = true) : ixF p n = i := by
  induction n with
  | zero => omega
  | succ n ih =>
    rw [ixF]
    by_cases q : i < n
    · rw [ih q, if_neg (by omega)]
    · have : i = n := by omega
      subst this
      rw [if_pos (ixF_none h), if_pos h1]
theorem ixF_bd {p : Nat → Bool} : ∀ {n : Nat}, -1 ≤ ixF p n ∧ ixF p n < n ∧ (0 ≤ ixF p n → p (ixF p n).toNat = true) := by
  intro n
  induction n with
  | zero => simp [ixF]
  | succ n ih =>
    rw [ixF]
    split
    · split
      · rename_i h; exact ⟨by omega, by omega, fun _ => by simpa using h⟩
      · exact ⟨by omega, by omega, fun h => by omega⟩
    · exact ⟨ih.1, by omega, ih.2.2⟩
-- toll.gateAt
-- word.IsMoment
theorem s154 (n : Int) : FSpec Tryz.prog 109 [.d (.int .i64 n)] [] (fun x r => x = .d (.bool (decide (0 ≤ n ∧ n ≤ 5761439))) ∧ r = []) := by
  refine spec_of hT (C := []) Tryz.func109 rfl Tryz.call109 rfl rfl rfl ?_
  conv => whnf
  repeat' (first
    | (refine CallX.exact (s119 _ _ _) rfl rfl ?_; rotate_right; conv => whnf)
    | (refine br_intro (fun hb => ?_) (fun hb => ?_) <;> (try simp only [decide_eq_true_eq, decide_eq_false_iff_not, Bool.not_eq_true', Bool.not_eq_false', Bool.and_eq_true, Bool.or_eq_true, beq_iff_eq, not_and, Int.not_le, Int.not_lt, Int.toNat_natCast, beq_eq_false_iff_ne, ne_eq, eq_self, not_true_eq_false, not_false_eq_true] at hb) <;> (conv => whnf))
    | omega
    | (refine And.intro ?_ ?_; ((try dsimp only); first | omega | (refine ⟨by omega, by omega, Int.le_trans (Int.mul_le_mul_of_nonneg_right (Int.ofNat_le.2 (Nat.le_of_ble_eq_true (rfl : Nat.ble _ 1024 = true))) (by omega)) (by omega), by omega⟩) | (refine Nat.le_trans (Nat.mul_le_mul_left _ (Nat.le_of_ble_eq_true (rfl : Nat.ble _ 1024 = true))) ?_; omega) | (unfold inI64; omega) | (constructor <;> omega) | (simp only [inI64, List.length_cons, List.length_append, List.length_nil, List.length_set] at *; omega) | decide | (unfold inI64; decide)); conv => whnf)
    | omega | decide | assumption)
  refine .ret _ ?_
  conv => whnf
  refine ⟨[], ⟨?_, rfl⟩, trivial⟩
  conv => lhs; whnf
-- toll.formed
end Go.Proofs.YtnchgjpdggembaaGreat
set_option maxRecDepth 20000
namespace Go.Proofs.YtnchgjpdggembaaGreat
open Go Go.Eng
-- toll.Check
/- Doubles. -/
abbrev Seen := List UInt8 × List UInt8
def bF : Bool → List DV := fun b => [.bool b]
-- toll.doubles
end Go.Proofs.YtnchgjpdggembaaGreat
set_option maxRecDepth 20000
namespace Go.Proofs.YtnchgjpdggembaaGreat
open Go Go.Eng
-- tolled
end Go.Proofs.YtnchgjpdggembaaGreat
set_option maxRecDepth 20000
namespace Go.Proofs.YtnchgjpdggembaaGreat
open Go Go.Eng
structure Chg where
  hire : List UInt8
  vehicle : List UInt8
  pas : Int
  cents : Int
structure Lin where
  kind : Int
  key : List UInt8
  cents : Int
deriving DecidableEq
-- toll.Lines
-- Q.TollLines
end Go.Proofs.YtnchgjpdggembaaGreat
set_option maxRecDepth 20000
namespace Go.Proofs.YtnchgjpdggembaaGreat
open Go Go.Eng
theorem mem_len {l : List (List UInt8)} {u : List UInt8} (h : u ∈ l) (q : l.all (fun x => decide (x.length ≤ 8)) = true) : u.length ≤ 8 := by
  have := List.all_eq_true.1 q u h
  exact of_decide_eq_true this
-- Charges
end Go.Proofs.YtnchgjpdggembaaGreat
set_option maxRecDepth 20000
namespace Go.Proofs.YtnchgjpdggembaaGreat
open Go Go.Eng
-- TrueOf
-- PassagesFault
end Go.Proofs.YtnchgjpdggembaaGreat
set_option maxRecDepth 20000
namespace Go.Proofs.YtnchgjpdggembaaGreat
open Go Go.Eng
theorem Res.le_put2 {α : Type} {f : α → List DV} {d : α} {l : List α} {x y : α} {e k j1 j2 : Nat} {ds1 ds2 : List DV} (h1 : ∀ z, setAtD (f z) 0 ds1 = f x) (h2 : ∀ z, setAtD (f z) 0 ds2 = f y) :
    Res.le (.buf e k l.length fun i => bif Nat.beq i j2 then setAtD (bif Nat.beq i j1 then setAtD (rowF f d l i) 0 ds1 else rowF f d l i) 0 ds2 else bif Nat.beq i j1 then setAtD (rowF f d l i) 0 ds1 else rowF f d l i) (seqB e k f d ((l.set j1 x).set j2 y)) := by
  refine Res.le_buf (by simp) (fun k hk => ?_)
  have e1 := rows_putG (f := f) (d := d) (l := l) (x := x) (j := j1) (off := 0) (ds := ds1) (get := rowF f d l) (fun _ _ => rfl) (fun z _ => h1 z)
  have e2 := rows_putG (f := f) (d := d) (l := l.set j1 x) (x := y) (j := j2) (off := 0) (ds := ds2) (get := fun i => bif Nat.beq i j1 then setAtD (rowF f d l i) 0 ds1 else rowF f d l i) (fun k hk => e1 k (by simpa using hk)) (fun z _ => h2 z)
  exact e2 k (by simpa using hk)
-- slices.CompactFunc of passages
end Go.Proofs.YtnchgjpdggembaaGreat
set_option maxRecDepth 20000
namespace Go.Proofs.YtnchgjpdggembaaGreat
open Go Go.Eng
theorem SV.le_upd {α : Type} {f : α → List DV} {d : α} {l : List α} {k j off : Nat} {ds : List DV} (g : α → α) (hg : ∀ y, setAtD (f y) off ds = f (g y)) :
    SV.le (.d (.ro k l.length fun i => bif Nat.beq i j then setAtD (rowF f d l i) off ds else rowF f d l i)) (.d (seqD k f d (l.set j (g (l.getD j d))))) :=
  SV.le_putF fun y hy => by rw [hg, List.getD_eq_getElem?_getD, hy]; rfl
-- Passages
end Go.Proofs.YtnchgjpdggembaaGreat
namespace Go.Proofs
open Go.Shelf
end Go.Proofs
set_option maxRecDepth 20000
namespace Go.Proofs.YtnchgjpdggembaaGreat
open Go Go.Eng Go.RowKit
-- slices.Grow of passages, from nil
end Go.Proofs.YtnchgjpdggembaaGreat
set_option maxRecDepth 20000
namespace Go.Proofs.YtnchgjpdggembaaGreat
open Go Go.Eng
theorem Res.le_appF {α : Type} {f : α → List DV} {d : α} {l m : List α} {e k : Nat} : Res.le (.buf e k (l.length + m.length) (appGet l.length (rowF f d l) (rowF f d m))) (seqB e k f d (l ++ m)) := by
  refine Res.le_buf (by simp) (fun i hi => ?_)
  by_cases h : i < l.length
  · rw [appGet_lt h]; simp only [rowF]; rw [List.getD_eq_getElem?_getD, List.getD_eq_getElem?_getD, List.getElem?_append_left h]
  · rw [appGet_ge (by omega)]; simp only [rowF]; rw [List.getD_eq_getElem?_getD, List.getD_eq_getElem?_getD, List.getElem?_append_right (by omega)]
-- slices.Concat of passages
end Go.Proofs.YtnchgjpdggembaaGreat
set_option maxRecDepth 20000
namespace Go.Proofs.YtnchgjpdggembaaGreat
open Go Go.Eng
-- insertion sort of passages, in full
-- stable sort of at most twenty passages
end Go.Proofs.YtnchgjpdggembaaGreat
set_option maxRecDepth 20000
namespace Go.Proofs.YtnchgjpdggembaaGreat
open Go Go.Eng
theorem pas_eq {a b : Pas} : a = b ↔ a.tm = b.tm ∧ a.gate = b.gate ∧ a.plate = b.plate ∧ a.cents = b.cents := by cases a; cases b; simp
instance : DecidableEq Pas := fun _ _ => decidable_of_iff _ pas_eq.symm
-- slices.Equal of passages
-- toll.True
end Go.Proofs.YtnchgjpdggembaaGreat
set_option maxRecDepth 20000
namespace Go.Proofs.YtnchgjpdggembaaGreat
open Go Go.Eng
-- slices.Compact of passages
end Go.Proofs.YtnchgjpdggembaaGreat
set_option maxRecDepth 20000
namespace Go.Proofs.YtnchgjpdggembaaGreat
open Go Go.Eng
-- Q.PassagesOf
end Go.Proofs.YtnchgjpdggembaaGreat
set_option maxRecDepth 20000
namespace Go.Proofs.YtnchgjpdggembaaGreat
open Go Go.Eng
-- toll.Merge
end Go.Proofs.YtnchgjpdggembaaGreat
set_option maxRecDepth 20000
namespace Go.Proofs.YtnchgjpdggembaaGreat
open Go Go.Eng
structure Pnl where
  key : List UInt8
  w : Int
  h : Int
  pr : Int
def pnF : Pnl → List DV := fun p => [.str p.key, .int .i64 p.w, .int .i64 p.h, .int .i64 p.pr]
def pn0 : Pnl := ⟨[], 0, 0, 0⟩
abbrev pnls (l : List Pnl) : DV := seqD 4 pnF pn0 l
structure Mrk where
  pan : List UInt8
  kind : Int
  x : Int
  y : Int
  size : Int
def mkF : Mrk → List DV := fun m => [.str m.pan, .int .i64 m.kind, .int .i64 m.x, .int .i64 m.y, .int .i64 m.size]
def mk0 : Mrk := ⟨[], 0, 0, 0, 0⟩
abbrev mrks (l : List Mrk) : DV := seqD 5 mkF mk0 l
structure Rul where
  near : Int
  slack : Int
  join : Int
  part : Int
def ruF : Rul → List DV := fun r => [.int .i64 r.near, .int .i64 r.slack, .int .i64 r.join, .int .i64 r.part]
def panE (l : List Pnl) (i : Nat) : Int :=
  let x := l.getD i pn0
  if isKeyB x.key = false then 5 else if 0 < i ∧ strLe x.key (l.getD (i - 1) pn0).key = true then 7 else if ¬ ((1 ≤ x.w ∧ x.w ≤ 5000) ∧ (1 ≤ x.h ∧ x.h ≤ 5000) ∧ (0 ≤ x.pr ∧ x.pr ≤ 1000000)) then 1 else 0
def pansE (l : List Pnl) : Int := if 40 < l.length then 2 else firstAt (panE l) l.length
def mrkCmp (a b : Mrk) : Int := firstE [cmpS a.pan b.pan, cmpI a.kind b.kind, cmpI a.x b.x, cmpI a.y b.y, cmpI a.size b.size]
def mrkE (l : List Mrk) (i : Nat) : Int :=
  let x := l.getD i mk0
  if isKeyB x.pan = false then 5 else if ¬ (1 ≤ x.kind ∧ x.kind ≤ 4) then 4 else if ¬ ((0 ≤ x.x ∧ x.x ≤ 5000) ∧ (0 ≤ x.y ∧ x.y ≤ 5000) ∧ (1 ≤ x.size ∧ x.size ≤ 2000)) then 1 else if 0 < i ∧ 0 ≤ mrkCmp (l.getD (i - 1) mk0) x then 7 else 0
def mrksE (l : List Mrk) : Int := if 60 < l.length then 2 else firstAt (mrkE l) l.length
def panIx (p : List Pnl) (key : List UInt8) : Int := ixF (fun i => (p.getD i pn0).key == key) p.length
def onE (p : List Pnl) (l : List Mrk) (i : Nat) : Int :=
  let m := l.getD i mk0
  let k := panIx p m.pan
  if k < 0 then 8 else if (p.getD k.toNat pn0).w ≤ m.x ∨ (p.getD k.toNat pn0).h ≤ m.y then 1 else 0
def sameM (a b : Mrk) : Bool := a.pan == b.pan && decide (a.kind = b.kind)
/-- The marks of one panel and kind that end at a place. -/
def runM (l : List Mrk) : Nat → Nat
  | 0 => 1
  | n + 1 => if sameM (l.getD (n + 1) mk0) (l.getD n mk0) then runM l n + 1 else 1
def fullE (l : List Mrk) (i : Nat) : Int := if 6 < runM l i then 12 else 0
def onPE (p : List Pnl) (l : List Mrk) : Int := if mrksE l ≠ 0 then mrksE l else if firstAt (onE p l) l.length ≠ 0 then firstAt (onE p l) l.length else firstAt (fullE l) l.length
theorem less_trans : ∀ {a b c : List UInt8}, Op.bytesLess a b = true → Op.bytesLess b c = true → Op.bytesLess a c = true := by
  intro a
  induction a with
  | nil => intro b c h1 h2; cases b <;> cases c <;> simp_all [Op.bytesLess]
  | cons x a ih =>
    intro b c h1 h2
    cases b with
    | nil => simp [Op.bytesLess] at h1
    | cons y b =>
      cases c with
      | nil => simp [Op.bytesLess] at h2
      | cons z c =>
        simp only [Op.bytesLess] at h1 h2 ⊢
        grind [UInt8.lt_trans]
theorem less_irr : ∀ (a : List UInt8), Op.bytesLess a a = false := by
  intro a
  induction a with
  | nil => rfl
  | cons x a ih => simp [Op.bytesLess, ih]
/-- By panel, then by kind. -/
def kle (a b : Mrk) : Prop := Op.bytesLess a.pan b.pan = true ∨ (a.pan = b.pan ∧ a.kind ≤ b.kind)
theorem kle_trans {a b c : Mrk} (h : kle a b) (k : kle b c) : kle a c := by
  unfold kle at *
  rcases h with h | ⟨h1, h2⟩ <;> rcases k with k | ⟨k1, k2⟩
  · exact .inl (less_trans h k)
  · exact .inl (k1 ▸ h)
  · exact .inl (h1 ▸ k)
  · exact .inr ⟨h1.trans k1, by omega⟩
theorem kle_anti {a b : Mrk} (h : kle a b) (k : kle b a) : sameM a b = true := by
  unfold kle at *
  rcases h with h | ⟨h1, h2⟩ <;> rcases k with k | ⟨k1, k2⟩
  · have := less_trans h k; rw [less_irr] at this; cases this
  · rw [k1, less_irr] at h; cases h
  · rw [h1, less_irr] at k; cases k
  · simp [sameM, h1]; omega
theorem cmp_kle {a b : Mrk} (h : mrkCmp a b < 0) : kle a b := by
  unfold mrkCmp at h
  simp only [firstE, cmpS, cmpI] at h
  unfold kle
  by_cases q : Op.bytesLess a.pan b.pan = true
  · exact .inl q
  · have q' : Op.bytesLess a.pan b.pan = false := by simpa using q
    by_cases e : a.pan = b.pan
    · refine .inr ⟨e, ?_⟩
      have q2 : Op.bytesLess b.pan a.pan = false := by rw [e]; exact less_irr _
      simp only [q', q2] at h
      grind
    · have := less_tri _ _ q' e
      simp [q', this] at h
def incM (l : List Mrk) : Prop := ∀ i, i + 1 < l.length → kle (l.getD i mk0) (l.getD (i + 1) mk0)
theorem inc_le {l : List Mrk} (h : incM l) : ∀ {j i : Nat}, i ≤ j → j < l.length → kle (l.getD i mk0) (l.getD j mk0) := by
  intro j
  induction j with
  | zero => intro i hi _; obtain rfl : i = 0 := by omega
            exact .inr ⟨rfl, Int.le_refl _⟩
  | succ j ih =>
    intro i hi hj
    by_cases q : i = j + 1
    · subst q; exact .inr ⟨rfl, Int.le_refl _⟩
    · exact kle_trans (ih (by omega) (by omega)) (h j hj)
theorem sameM_symm {a b : Mrk} (h : sameM a b = true) : sameM b a = true := by
  simp [sameM] at *; exact ⟨h.1.symm, h.2.symm⟩
theorem sameM_trans {a b c : Mrk} (h : sameM a b = true) (k : sameM b c = true) : sameM a c = true := by
  simp [sameM] at *; exact ⟨h.1.trans k.1, h.2.trans k.2⟩
theorem sameM_refl (a : Mrk) : sameM a a = true := by simp [sameM]
theorem mrks_inc {l : List Mrk} (h : mrksE l = 0) : incM l := by
  unfold mrksE at h
  split at h
  · cases h
  intro i hi
  have := firstAt_all h (i + 1) hi
  unfold mrkE at this
  simp only at this
  refine cmp_kle ?_
  grind
end Go.Proofs.YtnchgjpdggembaaGreat
set_option maxRecDepth 20000
namespace Go.Proofs.YtnchgjpdggembaaGreat
open Go Go.Eng
theorem Res.le_upd {α : Type} {f : α → List DV} {d : α} {l : List α} {e k j off : Nat} {ds : List DV} (g : α → α) (hg : ∀ y, setAtD (f y) off ds = f (g y)) :
    Res.le (.buf e k l.length fun i => bif Nat.beq i j then setAtD (rowF f d l i) off ds else rowF f d l i) (seqB e k f d (l.set j (g (l.getD j d)))) :=
  Res.le_putF fun y hy => by rw [hg, List.getD_eq_getElem?_getD, hy]; rfl
-- slices.Clone of passages
end Go.Proofs.YtnchgjpdggembaaGreat
set_option maxRecDepth 20000
namespace Go.Proofs.YtnchgjpdggembaaGreat
open Go Go.Eng
def allK {α : Type} (K : α → Prop) (k : Nat) (l : List α) : Prop := l.length ≤ k ∧ ∀ x ∈ l, K x
theorem allK_snoc {α : Type} {K : α → Prop} {l : List α} {k m : Nat} {x : α} (h : allK K k l) (hm : k + 1 ≤ m) (hx : K x) : allK K m (l ++ [x]) := by
  refine ⟨by rw [List.length_append]; have := h.1; simp; omega, fun p hp => ?_⟩
  rcases List.mem_append.1 hp with q | q
  · exact h.2 p q
  · simp at q; subst q; exact hx
theorem allK_le {α : Type} {K : α → Prop} {l : List α} {k m : Nat} (h : allK K k l) (hm : k ≤ m) : allK K m l := ⟨by have := h.1; omega, h.2⟩
theorem allK_upd {α : Type} {K : α → Prop} {l : List α} {k j : Nat} {d : α} {g : α → α} (h : allK K k l) (hg : ∀ y, K y → K (g y)) : allK K k (l.set j (g (l.getD j d))) := by
  refine ⟨by rw [List.length_set]; exact h.1, fun p hp => ?_⟩
  by_cases hj : j < l.length
  · rcases List.mem_or_eq_of_mem_set hp with q | q
    · exact h.2 p q
    · subst q; exact hg _ (h.2 _ (getD_mem hj))
  · rw [List.set_eq_of_length_le (by omega)] at hp; exact h.2 p hp
theorem rows_updG {α : Type} {f : α → List DV} {d : α} {l : List α} {j off : Nat} {ds : List DV} {get : Nat → List DV} (hg : ∀ i, i < l.length → get i = rowF f d l i) (g : α → α) (h : ∀ y, setAtD (f y) off ds = f (g y)) :
    ∀ i, i < (l.set j (g (l.getD j d))).length → (bif Nat.beq i j then setAtD (get i) off ds else get i) = rowF f d (l.set j (g (l.getD j d))) i := by
  rw [List.length_set]
  exact rows_putG hg (fun y hy => by rw [h, List.getD_eq_getElem?_getD, hy]; rfl)
abbrev updL {α : Type} (l : List α) (j : Nat) (d : α) (g : α → α) : List α := l.set j (g (l.getD j d))
theorem SV.le_upd2 {α : Type} {f : α → List DV} {d : α} {l : List α} {k j1 j2 o1 o2 : Nat} {ds1 ds2 : List DV} (g1 g2 : α → α) (h1 : ∀ y, setAtD (f y) o1 ds1 = f (g1 y)) (h2 : ∀ y, setAtD (f y) o2 ds2 = f (g2 y)) :
    SV.le (.d (.ro k l.length fun i => bif Nat.beq i j2 then setAtD (bif Nat.beq i j1 then setAtD (rowF f d l i) o1 ds1 else rowF f d l i) o2 ds2 else (bif Nat.beq i j1 then setAtD (rowF f d l i) o1 ds1 else rowF f d l i)))
      (.d (seqD k f d (updL (updL l j1 d g1) j2 d g2))) :=
  SV.le_ro (by simp) (fun i hi => rows_updG (rows_updG (fun _ _ => rfl) g1 h1) g2 h2 i (by simpa using hi))
def sameL {α : Type} (l c : List α) : Prop := c.length = l.length ∧ ∀ x ∈ c, x ∈ l
theorem sameL_set {α : Type} {l c : List α} {j : Nat} {x : α} (h : sameL l c) (hx : x ∈ l) : sameL l (c.set j x) :=
  ⟨by rw [List.length_set]; exact h.1, fun y hy => by rcases List.mem_or_eq_of_mem_set hy with q | q; exact h.2 y q; subst q; exact hx⟩
def subL {α : Type} (l c : List α) : Prop := c.length ≤ l.length ∧ ∀ x ∈ c, x ∈ l
end Go.Proofs.YtnchgjpdggembaaGreat
set_option maxRecDepth 20000
namespace Go.Proofs.YtnchgjpdggembaaGreat
open Go Go.Eng
theorem foldl_range_succ {β : Type} (f : β → Nat → β) (st : β) (k : Nat) : (List.range (k + 1)).foldl f st = f ((List.range k).foldl f st) k := by
  rw [List.range_succ, List.foldl_append]; rfl
theorem foldl_inv {α β : Type} {q : β → Prop} {f : β → α → β} : ∀ {l : List α} {st : β}, (∀ st x, x ∈ l → q st → q (f st x)) → q st → q (l.foldl f st) := by
  intro l
  induction l with
  | nil => intro st _ h; exact h
  | cons x l ih => intro st hf h; exact ih (fun st y hy => hf st y (List.mem_cons_of_mem _ hy)) (hf st x (List.mem_cons_self ..) h)
def toI (l : List Nat) : List Int := l.map Int.ofNat
theorem toI_len (l : List Nat) : (toI l).length = l.length := by simp [toI]
def cellsLe : List SV → List SV → Prop
  | [], [] => True
  | x :: l, y :: m => SV.le x y ∧ cellsLe l m
  | _, _ => False
theorem cellsLe_get : ∀ {l m : List SV}, cellsLe l m → l.length = m.length ∧ ∀ (i : Nat) x y, l[i]? = some x → m[i]? = some y → SV.le x y := by
  intro l
  induction l with
  | nil =>
    intro m h
    cases m with
    | nil => exact ⟨rfl, by simp⟩
    | cons y m => exact h.elim
  | cons x l ih =>
    intro m h
    cases m with
    | nil => exact h.elim
    | cons y m =>
      obtain ⟨h1, h2⟩ := h
      obtain ⟨i1, i2⟩ := ih h2
      refine ⟨by simp [i1], fun i a b ha hb => ?_⟩
      cases i with
      | zero => simp at ha hb; subst ha; subst hb; exact h1
      | succ i => exact i2 i a b (by simpa using ha) (by simpa using hb)
theorem Res.le_cellsL {e : TypeId} {l m : List SV} (h : cellsLe l m) : Res.le (.cells e l) (.cells e m) :=
  Res.le_cells (cellsLe_get h).1 (cellsLe_get h).2
theorem Res.le_cutF {α : Type} {f : α → List DV} {d : α} {l m : List α} {e k n : Nat} (hn : n = l.length) (h : ∀ i, i < l.length → m.getD i d = l.getD i d) : Res.le (.buf e k n (rowF f d m)) (seqB e k f d l) :=
  Res.le_buf hn (fun i hi => by simp only [rowF]; rw [h i (by omega)])
theorem getD_app_lt {α : Type} {l m : List α} {i : Nat} {z : α} (h : i < l.length) : (l ++ m).getD i z = l.getD i z := by
  rw [List.getD_eq_getElem?_getD, List.getD_eq_getElem?_getD, List.getElem?_append_left h]
end Go.Proofs.YtnchgjpdggembaaGreat
set_option maxRecDepth 20000
namespace Go.Proofs.YtnchgjpdggembaaGreat
open Go Go.Eng
structure Prg where
  a : Int
  b : Int
def prF : Prg → List DV := fun p => [.int .i64 p.a, .int .i64 p.b]
def pr0 : Prg := ⟨0, 0⟩
abbrev prgs (l : List Prg) : DV := seqD 2 prF pr0 l
theorem prg_eq {a b : Prg} : a = b ↔ a.a = b.a ∧ a.b = b.b := by cases a; cases b; simp
instance : DecidableEq Prg := fun _ _ => decidable_of_iff _ prg_eq.symm
def distM (a b : Mrk) : Int := (a.x - b.x) * (a.x - b.x) + (a.y - b.y) * (a.y - b.y)
def canB (r : Rul) (a b : Mrk) : Bool := a.pan == b.pan && decide (a.kind = b.kind) && decide (distM a b ≤ r.near * r.near) && decide (a.size - r.slack ≤ b.size)
def cmpPr (p q : Prg) : Int := if cmpI p.a q.a ≠ 0 then cmpI p.a q.a else cmpI p.b q.b
def cmpPL : List Prg → List Prg → Int
  | [], [] => 0
  | [], _ :: _ => -1
  | _ :: _, [] => 1
  | x :: xs, y :: ys => if cmpPr x y ≠ 0 then cmpPr x y else cmpPL xs ys
abbrev MSt := List Prg × Int
def beatsM (m o : MSt) : Bool := if m.1.length ≠ o.1.length then decide (o.1.length < m.1.length) else if m.2 ≠ o.2 then decide (m.2 < o.2) else decide (cmpPL m.1 o.1 < 0)
def usedM (l : List Prg) (k : Nat) : Bool := l.any fun p => p.b == (k : Int)
def okM (r : Rul) (a b : List Mrk) (i : Nat) (l : List Prg) (k : Nat) : Bool := !usedM l k && canB r (a.getD i mk0) (b.getD k mk0)
/-- The search: with d marks of a to pair, from i on. -/
def mtch (r : Rul) (a b : List Mrk) : Nat → Nat → MSt → MSt → MSt
  | 0, _, now, best => if beatsM now best then now else best
  | d + 1, i, now, best =>
    mtch r a b d (i + 1) now ((List.range b.length).foldl (fun st k => if okM r a b i now.1 k then mtch r a b d (i + 1) (now.1 ++ [⟨i, k⟩], now.2 + distM (a.getD i mk0) (b.getD k mk0)) st else st) best)
theorem mtch_prune {r : Rul} {a b : List Mrk} : ∀ (d i : Nat) (now st : MSt), now.1.length + d < st.1.length → mtch r a b d i now st = st := by
  intro d
  induction d with
  | zero =>
    intro i now st h
    have : beatsM now st = false := by unfold beatsM; rw [if_pos (by omega)]; simp; omega
    rw [mtch, this]; rfl
  | succ d ih =>
    intro i now st h
    have hf : (List.range b.length).foldl (fun st k => if okM r a b i now.1 k then mtch r a b d (i + 1) (now.1 ++ [⟨i, k⟩], now.2 + distM (a.getD i mk0) (b.getD k mk0)) st else st) st = st := by
      refine foldl_inv (q := fun s => s = st) (fun s k _ hs => ?_) rfl
      subst hs
      split
      · exact ih _ _ _ (by simp; omega)
      · rfl
    rw [mtch, hf]
    exact ih _ _ _ (by omega)
/-- Pairings of some marks: from i on, to a's end. -/
structure mOk (a b : List Mrk) (m : MSt) : Prop where
  ins : ∀ p ∈ m.1, ∃ i k : Nat, p = ⟨i, k⟩ ∧ i < a.length ∧ k < b.length
  sum : 0 ≤ m.2 ∧ m.2 ≤ 100000000 * m.1.length
theorem mtch_inv {r : Rul} {a b : List Mrk} {Q : MSt → Prop} (hQ : ∀ i k (m : MSt), i < a.length → k < b.length → Q m → Q (m.1 ++ [⟨i, k⟩], m.2 + distM (a.getD i mk0) (b.getD k mk0))) :
    ∀ (d i : Nat) (now st : MSt), i + d ≤ a.length → Q now → Q st → Q (mtch r a b d i now st) := by
  intro d
  induction d with
  | zero => intro i now st _ h1 h2; rw [mtch]; split <;> assumption
  | succ d ih =>
    intro i now st hd h1 h2
    rw [mtch]
    refine ih _ _ _ (by omega) h1 (foldl_inv (fun s k hk hs => ?_) h2)
    split
    · exact ih _ _ _ (by omega) (hQ i k now (by omega) (List.mem_range.1 hk) h1) hs
    · exact hs
theorem mtch_len {r : Rul} {a b : List Mrk} : ∀ (d i : Nat) (now st : MSt) (n : Nat), now.1.length + d ≤ n → st.1.length ≤ n → (mtch r a b d i now st).1.length ≤ n := by
  intro d
  induction d with
  | zero => intro i now st n h1 h2; rw [mtch]; split <;> omega
  | succ d ih =>
    intro i now st n h1 h2
    rw [mtch]
    refine ih _ _ _ n (by omega) (foldl_inv (q := fun s : MSt => s.1.length ≤ n) (fun s k _ hs => ?_) h2)
    split
    · exact ih _ _ _ n (by simp; omega) hs
    · exact hs
/-- Where the run ends that begins at i. -/
def runN (a : List Mrk) (m : Mrk) : Nat → Nat → Nat
  | 0, i => i
  | d + 1, i => if sameM (a.getD i mk0) m then runN a m d (i + 1) else i
def runE (a : List Mrk) (i : Nat) : Nat := runN a (a.getD i mk0) (a.length - i) i
theorem runN_eq {a : List Mrk} {m : Mrk} : ∀ (d i t : Nat), i ≤ t → t ≤ i + d → (∀ j, i ≤ j → j < t → sameM (a.getD j mk0) m = true) → (t = i + d ∨ sameM (a.getD t mk0) m = false) → runN a m d i = t := by
  intro d
  induction d with
  | zero => intro i t h1 h2 _ _; rw [runN]; omega
  | succ d ih =>
    intro i t h1 h2 h3 h4
    rw [runN]
    by_cases q : i = t
    · subst q
      rcases h4 with h4 | h4
      · omega
      · rw [h4]; rfl
    · rw [h3 i (Nat.le_refl _) (by omega), if_pos rfl]
      exact ih (i + 1) t (by omega) (by omega) (fun j j1 j2 => h3 j (by omega) j2) (by rcases h4 with h4 | h4; exact .inl (by omega); exact .inr h4)
theorem runE_eq {a : List Mrk} {i t : Nat} (h1 : i ≤ t) (h2 : t ≤ a.length) (h3 : ∀ j, i ≤ j → j < t → sameM (a.getD j mk0) (a.getD i mk0) = true) (h4 : t = a.length ∨ sameM (a.getD t mk0) (a.getD i mk0) = false) : runE a i = t :=
  runN_eq _ _ _ h1 (by omega) h3 (by rcases h4 with h4 | h4; exact .inl (by omega); exact .inr h4)
theorem runN_spec {a : List Mrk} {m : Mrk} : ∀ (d i : Nat), i ≤ runN a m d i ∧ runN a m d i ≤ i + d ∧ (∀ j, i ≤ j → j < runN a m d i → sameM (a.getD j mk0) m = true) ∧ (runN a m d i = i + d ∨ sameM (a.getD (runN a m d i) mk0) m = false) := by
  intro d
  induction d with
  | zero => intro i; exact ⟨Nat.le_refl _, Nat.le_refl _, fun j h1 h2 => by rw [runN] at h2; omega, .inl rfl⟩
  | succ d ih =>
    intro i
    rw [runN]
    split
    · rename_i h
      obtain ⟨h1, h2, h3, h4⟩ := ih (i + 1)
      refine ⟨by omega, by omega, fun j j1 j2 => ?_, by rcases h4 with h4 | h4; exact .inl (by omega); exact .inr h4⟩
      by_cases q : j = i
      · subst q; exact h
      · exact h3 j (by omega) j2
    · rename_i h
      exact ⟨Nat.le_refl _, by omega, fun j j1 j2 => by omega, .inr (by simpa using h)⟩
theorem runE_spec {a : List Mrk} {i : Nat} (hi : i < a.length) : i < runE a i ∧ runE a i ≤ a.length ∧ (∀ j, i ≤ j → j < runE a i → sameM (a.getD j mk0) (a.getD i mk0) = true) ∧ (runE a i = a.length ∨ sameM (a.getD (runE a i) mk0) (a.getD i mk0) = false) := by
  obtain ⟨h1, h2, h3, h4⟩ := runN_spec (a := a) (m := a.getD i mk0) (a.length - i) i
  have e : runN a (a.getD i mk0) (a.length - i) i = runE a i := rfl
  rw [e] at h1 h2 h3 h4
  refine ⟨?_, by omega, h3, by rcases h4 with h4 | h4; exact .inl (by omega); exact .inr h4⟩
  rcases Nat.lt_or_ge i (runE a i) with q | q
  · exact q
  · have q : runE a i = i := by omega
    rw [q, sameM_refl] at h4
    rcases h4 with h4 | h4
    · omega
    · cases h4
/-- The matching, run by run, from i on. -/
def mtAll (r : Rul) (a b : List Mrk) : Nat → Nat → List Prg
  | 0, _ => []
  | f + 1, i => if i < a.length then (mtch r a b (runE a i - i) i ([], 0) ([], 0)).1 ++ mtAll r a b f (runE a i) else []
def mtL (r : Rul) (a b : List Mrk) : List Prg := mtAll r a b a.length 0
theorem mtAll_end {r : Rul} {a b : List Mrk} (f : Nat) {i : Nat} (h : a.length ≤ i) : mtAll r a b f i = [] := by
  cases f with
  | zero => rfl
  | succ f => rw [mtAll, if_neg (by omega)]
/-- Out is what was found before i. -/
def mtPre (r : Rul) (a b : List Mrk) (i : Nat) (out : List Prg) : Prop := i ≤ a.length ∧ ∃ f, a.length ≤ i + f ∧ out ++ mtAll r a b f i = mtL r a b
theorem mtPre_zero {r : Rul} {a b : List Mrk} : mtPre r a b 0 [] := ⟨by omega, a.length, by omega, rfl⟩
theorem mtPre_step {r : Rul} {a b : List Mrk} {i : Nat} {out : List Prg} (h : mtPre r a b i out) (hi : i < a.length) : mtPre r a b (runE a i) (out ++ (mtch r a b (runE a i - i) i ([], 0) ([], 0)).1) := by
  obtain ⟨h0, f, h1, h2⟩ := h
  obtain ⟨r1, r2, _⟩ := runE_spec hi
  cases f with
  | zero => omega
  | succ f =>
    rw [mtAll, if_pos hi, ← List.append_assoc] at h2
    exact ⟨r2, f, by omega, h2⟩
theorem mtPre_end {r : Rul} {a b : List Mrk} {i : Nat} {out : List Prg} (h : mtPre r a b i out) (hi : ¬ i < a.length) : out = mtL r a b := by
  obtain ⟨h0, f, h1, h2⟩ := h
  rw [mtAll_end f (by omega), List.append_nil] at h2
  exact h2
theorem mtch_ins {r : Rul} {a b : List Mrk} {d i : Nat} (h : i + d ≤ a.length) : ∀ p ∈ (mtch r a b d i ([], 0) ([], 0)).1, ∃ i k : Nat, p = ⟨i, k⟩ ∧ i < a.length ∧ k < b.length := by
  refine mtch_inv (Q := fun m => ∀ p ∈ m.1, ∃ i k : Nat, p = ⟨i, k⟩ ∧ i < a.length ∧ k < b.length) (fun i k m hi hk hm p hp => ?_) d i _ _ h (by simp) (by simp)
  rcases List.mem_append.1 hp with q | q
  · exact hm p q
  · simp at q; exact ⟨i, k, q, hi, hk⟩
theorem mtAll_ok {r : Rul} {a b : List Mrk} : ∀ (f i : Nat), i ≤ a.length → (mtAll r a b f i).length ≤ a.length - i ∧ ∀ p ∈ mtAll r a b f i, ∃ i k : Nat, p = ⟨i, k⟩ ∧ i < a.length ∧ k < b.length := by
  intro f
  induction f with
  | zero => intro i h; simp [mtAll]
  | succ f ih =>
    intro i h
    rw [mtAll]
    split
    · rename_i hi
      obtain ⟨r1, r2, _⟩ := runE_spec hi
      obtain ⟨h1, h2⟩ := ih (runE a i) r2
      have h3 := mtch_len (r := r) (a := a) (b := b) (runE a i - i) i ([], 0) ([], 0) (runE a i - i) (by simp) (by simp)
      refine ⟨by rw [List.length_append]; omega, fun p hp => ?_⟩
      rcases List.mem_append.1 hp with q | q
      · exact mtch_ins (by omega) p q
      · exact h2 p q
    · simp
theorem mtL_ok (r : Rul) (a b : List Mrk) : (mtL r a b).length ≤ a.length ∧ ∀ p ∈ mtL r a b, ∃ i k : Nat, p = ⟨i, k⟩ ∧ i < a.length ∧ k < b.length :=
  mtAll_ok a.length 0 (by omega)
/-- Of marks in order, those of a run are all of their kind. -/
theorem run_like {a : List Mrk} (h : incM a) {i : Nat} (hi : i < a.length) (hs : ∀ j, j < i → sameM (a.getD j mk0) (a.getD i mk0) = false) (j : Nat) (hj : j < a.length) : sameM (a.getD j mk0) (a.getD i mk0) = true ↔ i ≤ j ∧ j < runE a i := by
  obtain ⟨r1, r2, r3, r4⟩ := runE_spec hi
  constructor
  · intro q
    have h1 : i ≤ j := by
      rcases Nat.lt_or_ge j i with q1 | q1
      · rw [hs j q1] at q; cases q
      · exact q1
    refine ⟨h1, ?_⟩
    rcases Nat.lt_or_ge j (runE a i) with q1 | q1
    · exact q1
    · exfalso
      rcases r4 with r4 | r4
      · omega
      · have k1 := inc_le h (i := i) (j := runE a i) (by omega) (by omega)
        have k2 := inc_le h (i := runE a i) (j := j) q1 hj
        have k3 : kle (a.getD j mk0) (a.getD i mk0) := by
          simp [sameM] at q
          exact .inr ⟨by simpa using q.1, by simpa using Int.le_of_eq q.2⟩
        have := kle_anti (kle_trans k2 k3) k1
        rw [r4] at this; cases this
  · intro q; exact r3 j q.1 q.2
theorem run_next {a : List Mrk} (h : incM a) {i : Nat} (hi : i < a.length) (ht : runE a i < a.length) : ∀ j, j < runE a i → sameM (a.getD j mk0) (a.getD (runE a i) mk0) = false := by
  obtain ⟨r1, r2, r3, r4⟩ := runE_spec hi
  intro j hj
  rcases r4 with r4 | r4
  · omega
  rw [← Bool.not_eq_true]
  intro q
  have k1 := inc_le h (i := i) (j := runE a i) (by omega) (by omega)
  have hij : i ≤ j ∨ j < i := by omega
  have k3 : kle (a.getD (runE a i) mk0) (a.getD i mk0) := by
    rcases hij with hij | hij
    · have := sameM_trans (sameM_symm q) (r3 j hij hj)
      rw [r4] at this; cases this
    · have q' := sameM_symm q
      simp [sameM] at q'
      have k4 : kle (a.getD (runE a i) mk0) (a.getD j mk0) := .inr ⟨by simpa using q'.1, by simpa using Int.le_of_eq q'.2⟩
      exact kle_trans k4 (inc_le h (by omega) (by omega))
  have := kle_anti k3 k1
  rw [r4] at this; cases this
theorem distM_bd {a b : Mrk} (ha : 0 ≤ a.x ∧ a.x ≤ 5000 ∧ 0 ≤ a.y ∧ a.y ≤ 5000) (hb : 0 ≤ b.x ∧ b.x ≤ 5000 ∧ 0 ≤ b.y ∧ b.y ≤ 5000) : 0 ≤ distM a b ∧ distM a b ≤ 50000000 := by
  have sq : ∀ x y : Int, 0 ≤ x → x ≤ 5000 → 0 ≤ y → y ≤ 5000 → 0 ≤ (x - y) * (x - y) ∧ (x - y) * (x - y) ≤ 25000000 := by
    intro x y h1 h2 h3 h4
    rcases Int.le_total 0 (x - y) with q | q
    · exact ⟨Int.mul_nonneg q q, Int.le_trans (Int.mul_le_mul (by omega : x - y ≤ 5000) (by omega : x - y ≤ 5000) q (by omega)) (by omega)⟩
    · have e : (x - y) * (x - y) = (y - x) * (y - x) := by rw [← Int.neg_mul_neg]; congr 1 <;> omega
      rw [e]
      exact ⟨Int.mul_nonneg (by omega) (by omega), Int.le_trans (Int.mul_le_mul (by omega : y - x ≤ 5000) (by omega : y - x ≤ 5000) (by omega) (by omega)) (by omega)⟩
  have h1 := sq a.x b.x ha.1 ha.2.1 hb.1 hb.2.1
  have h2 := sq a.y b.y ha.2.2.1 ha.2.2.2 hb.2.2.1 hb.2.2.2
  unfold distM
  omega
theorem mrks_bd {l : List Mrk} (h : mrksE l = 0) : l.length ≤ 60 ∧ ∀ i, i < l.length → (0 ≤ (l.getD i mk0).x ∧ (l.getD i mk0).x ≤ 5000 ∧ 0 ≤ (l.getD i mk0).y ∧ (l.getD i mk0).y ≤ 5000) ∧ 1 ≤ (l.getD i mk0).size ∧ (l.getD i mk0).size ≤ 2000 := by
  unfold mrksE at h
  split at h
  · cases h
  refine ⟨by omega, fun i hi => ?_⟩
  have := firstAt_all h i hi
  unfold mrkE at this
  simp only at this
  grind
theorem onPE_bd {p : List Pnl} {l : List Mrk} (h : onPE p l = 0) : mrksE l = 0 ∧ firstAt (fullE l) l.length = 0 := by
  unfold onPE at h
  split at h
  · rename_i h1; exact absurd h h1
  rename_i h1
  split at h
  · rename_i h2; exact absurd h h2
  exact ⟨by omega, h⟩
end Go.Proofs.YtnchgjpdggembaaGreat
set_option maxRecDepth 20000
namespace Go.Proofs.YtnchgjpdggembaaGreat
open Go Go.Eng
/-- At least as many pairings, or as many and no greater sum. -/
def geL (m o : MSt) : Prop := o.1.length < m.1.length ∨ (o.1.length = m.1.length ∧ m.2 ≤ o.2)
theorem geL_refl (m : MSt) : geL m m := .inr ⟨rfl, Int.le_refl _⟩
theorem geL_trans {x y z : MSt} (h1 : geL x y) (h2 : geL y z) : geL x z := by unfold geL at *; omega
theorem beats_geL {m o : MSt} (h : beatsM m o = true) : geL m o := by
  unfold beatsM at h; unfold geL
  split at h
  · simp at h; omega
  · split at h
    · simp at h; omega
    · omega
theorem nbeats_geL {m o : MSt} (h : beatsM m o = false) : geL o m := by
  unfold beatsM at h; unfold geL
  split at h
  · simp at h; omega
  · split at h
    · simp at h; omega
    · omega
def sumP (a b : List Mrk) : List Prg → Int
  | [] => 0
  | p :: t => distM (a.getD p.a.toNat mk0) (b.getD p.b.toNat mk0) + sumP a b t
theorem sumP_append {a b : List Mrk} (l m : List Prg) : sumP a b (l ++ m) = sumP a b l + sumP a b m := by
  induction l with
  | nil => simp [sumP]
  | cons p l ih => simp only [List.cons_append, sumP, ih]; omega
/-- The ways to go on: with d marks of a to pair, from i on. -/
def feasC (r : Rul) (a b : List Mrk) : Nat → Nat → List Prg → List Prg → Prop
  | 0, _, _, t => t = []
  | d + 1, i, u, t => feasC r a b d (i + 1) u t ∨ ∃ (k : Nat) (t' : List Prg), k < b.length ∧ okM r a b i u k = true ∧ t = ⟨i, k⟩ :: t' ∧ feasC r a b d (i + 1) (u ++ [⟨i, k⟩]) t'
theorem fold_keep {α β : Type} {R : β → β → Prop} (hr : ∀ s, R s s) (ht : ∀ x y z, R x y → R y z → R x z) {f : β → α → β} (hm : ∀ s x, R (f s x) s) : ∀ (l : List α) (s : β), R (l.foldl f s) s := by
  intro l
  induction l with
  | nil => intro s; exact hr s
  | cons x l ih => intro s; exact ht _ _ _ (ih (f s x)) (hm s x)
theorem fold_reach {α β : Type} {R : β → β → Prop} (hr : ∀ s, R s s) (ht : ∀ x y z, R x y → R y z → R x z) {f : β → α → β} (hm : ∀ s x, R (f s x) s) {k : α} {T : β} (hk : ∀ s, R (f s k) T) : ∀ (l : List α) (s : β), k ∈ l → R (l.foldl f s) T := by
  intro l
  induction l with
  | nil => intro s h; cases h
  | cons x l ih =>
    intro s h
    rcases List.mem_cons.1 h with q | q
    · subst q; exact ht _ _ _ (fold_keep hr ht hm l (f s k)) (hk s)
    · exact ih _ q
section
variable {R : MSt → MSt → Prop} (hr : ∀ s, R s s) (ht : ∀ x y z, R x y → R y z → R x z) (hb : ∀ m o, beatsM m o = true → R m o) (hn : ∀ m o, beatsM m o = false → R o m)
include hr ht hb hn
omit hn in
theorem mtch_keep {r : Rul} {a b : List Mrk} : ∀ (d i : Nat) (now st : MSt), R (mtch r a b d i now st) st := by
  intro d
  induction d with
  | zero =>
    intro i now st
    rw [mtch]
    split
    · rename_i h; exact hb _ _ h
    · exact hr _
  | succ d ih =>
    intro i now st
    rw [mtch]
    refine ht _ _ _ (ih _ _ _) (fold_keep hr ht (fun s k => ?_) _ _)
    split
    · exact ih _ _ _
    · exact hr _
theorem mtch_opt {r : Rul} {a b : List Mrk} : ∀ (d i : Nat) (now st : MSt) (t : List Prg), feasC r a b d i now.1 t → R (mtch r a b d i now st) (now.1 ++ t, now.2 + sumP a b t) := by
  intro d
  induction d with
  | zero =>
    intro i now st t h
    obtain rfl : t = [] := h
    rw [mtch]
    simp only [List.append_nil, sumP, Int.add_zero]
    split
    · exact hr _
    · rename_i h; exact hn _ _ (by simpa using h)
  | succ d ih =>
    intro i now st t h
    rw [mtch]
    rcases h with h | ⟨k, t', hk, hok, rfl, h⟩
    · exact ih _ _ _ _ h
    · refine ht _ _ _ (mtch_keep hr ht hb d (i + 1) now _) (fold_reach hr ht (fun s k => ?_) (k := k) (fun s => ?_) _ _ (List.mem_range.2 hk))
      · split
        · exact mtch_keep hr ht hb _ _ _ _
        · exact hr _
      · rw [hok]
        have := ih (i + 1) (now.1 ++ [⟨i, k⟩], now.2 + distM (a.getD i mk0) (b.getD k mk0)) s t' h
        simp only [if_true]
        have e : ((now.1 ++ [⟨i, k⟩] ++ t', now.2 + distM (a.getD i mk0) (b.getD k mk0) + sumP a b t') : MSt) = (now.1 ++ ⟨i, k⟩ :: t', now.2 + sumP a b (⟨i, k⟩ :: t')) := by
          simp only [sumP, Int.toNat_natCast, List.append_assoc, List.singleton_append, Int.add_assoc]
        rw [← e]; exact this
end
theorem mtch_optL {r : Rul} {a b : List Mrk} (d i : Nat) (now st : MSt) (t : List Prg) (h : feasC r a b d i now.1 t) : geL (mtch r a b d i now st) (now.1 ++ t, now.2 + sumP a b t) :=
  mtch_opt geL_refl (fun _ _ _ => geL_trans) (fun _ _ => beats_geL) (fun _ _ => nbeats_geL) d i now st t h
theorem mtch_sum {r : Rul} {a b : List Mrk} {d i : Nat} (h : i + d ≤ a.length) : (mtch r a b d i ([], 0) ([], 0)).2 = sumP a b (mtch r a b d i ([], 0) ([], 0)).1 := by
  refine mtch_inv (Q := fun m => m.2 = sumP a b m.1) (fun i k m hi hk hm => ?_) d i _ _ h rfl rfl
  simp only [sumP_append, sumP, Int.toNat_natCast]
  rw [hm]; omega
theorem geL_app {x y t u : List Prg} {p q v w : Int} (h1 : geL (x, p) (t, v)) (h2 : geL (y, q) (u, w)) : geL (x ++ y, p + q) (t ++ u, v + w) := by
  unfold geL at *
  simp only [List.length_append] at *
  omega
/-- A matching: in order, no mark of b twice, each pairing can be; all marks of a from i on. -/
structure mtcG (r : Rul) (a b : List Mrk) (i : Nat) (o : List Prg) : Prop where
  ins : ∀ p ∈ o, ∃ j k : Nat, p = ⟨j, k⟩ ∧ i ≤ j ∧ j < a.length ∧ k < b.length ∧ canB r (a.getD j mk0) (b.getD k mk0) = true
  inc : o.Pairwise (fun p q => p.a < q.a)
  one : o.Pairwise (fun p q => p.b ≠ q.b)
theorem mtcG_tail {r : Rul} {a b : List Mrk} {i : Nat} {p : Prg} {o : List Prg} (h : mtcG r a b i (p :: o)) : mtcG r a b i o :=
  ⟨fun q hq => h.ins q (List.mem_cons_of_mem _ hq), (List.pairwise_cons.1 h.inc).2, (List.pairwise_cons.1 h.one).2⟩
theorem mtcG_feas {r : Rul} {a b : List Mrk} : ∀ (d i : Nat) (u o : List Prg), i + d ≤ a.length → mtcG r a b i o → (∀ p ∈ o, p.a < ((i + d : Nat) : Int)) → (∀ p ∈ o, ∀ q ∈ u, q.b ≠ p.b) → feasC r a b d i u o := by
  intro d
  induction d with
  | zero =>
    intro i u o _ h h1 _
    cases o with
    | nil => rfl
    | cons p o =>
      obtain ⟨j, k, rfl, h2, _⟩ := h.ins p List.mem_cons_self
      have := h1 _ List.mem_cons_self
      simp at this; omega
  | succ d ih =>
    intro i u o hd h h1 h2
    rw [feasC]
    have skip : (∀ p ∈ o, ((i + 1 : Nat) : Int) ≤ p.a) → feasC r a b d (i + 1) u o := fun hs => by
      refine ih (i + 1) u o (by omega) ⟨fun p hp => ?_, h.inc, h.one⟩ (fun p hp => ?_) h2
      · obtain ⟨j, k, rfl, q⟩ := h.ins p hp
        have := hs _ hp
        exact ⟨j, k, rfl, by simp at this; omega, q.2⟩
      · have := h1 p hp; omega
    cases o with
    | nil => left; exact skip (fun p hp => by cases hp)
    | cons p o =>
      obtain ⟨j, k, rfl, h3, h4, h5, h6⟩ := h.ins p List.mem_cons_self
      have hinc := List.pairwise_cons.1 h.inc
      have hone := List.pairwise_cons.1 h.one
      by_cases hj : j = i
      · subst hj
        right
        refine ⟨k, o, h5, ?_, rfl, ?_⟩
        · unfold okM
          rw [h6, Bool.and_true, Bool.not_eq_true']
          unfold usedM
          rw [List.any_eq_false]
          intro q hq
          have := h2 _ List.mem_cons_self q hq
          simpa using this
        · refine ih (j + 1) _ o (by omega) ⟨fun q hq => ?_, hinc.2, hone.2⟩ (fun q hq => ?_) (fun q hq s hs => ?_)
          · obtain ⟨j', k', rfl, q1⟩ := h.ins q (List.mem_cons_of_mem _ hq)
            have := hinc.1 _ hq
            exact ⟨j', k', rfl, by simp at this; omega, q1.2⟩
          · have := h1 q (List.mem_cons_of_mem _ hq); omega
          · rcases List.mem_append.1 hs with q1 | q1
            · exact h2 q (List.mem_cons_of_mem _ hq) s q1
            · rw [List.mem_singleton] at q1; subst q1
              exact hone.1 q hq
      · left
        refine skip (fun q hq => ?_)
        rcases List.mem_cons.1 hq with q1 | q1
        · subst q1; show ((i + 1 : Nat) : Int) ≤ (j : Int); omega
        · have := hinc.1 _ q1
          have e : ((⟨(j : Int), (k : Int)⟩ : Prg)).a = (j : Int) := rfl
          rw [e] at this; omega
theorem mtcG_split {r : Rul} {a b : List Mrk} {i : Nat} (e : Nat) : ∀ {o : List Prg}, mtcG r a b i o → ∃ t u, o = t ++ u ∧ mtcG r a b i t ∧ (∀ p ∈ t, p.a < (e : Int)) ∧ mtcG r a b e u := by
  intro o
  induction o with
  | nil => intro h; exact ⟨[], [], rfl, h, fun p hp => (by cases hp), ⟨fun p hp => (by cases hp), List.Pairwise.nil, List.Pairwise.nil⟩⟩
  | cons p o ih =>
    intro h
    obtain ⟨t, u, h1, h2, h3, h4⟩ := ih (mtcG_tail h)
    by_cases hp : p.a < (e : Int)
    · refine ⟨p :: t, u, by rw [h1]; rfl, ⟨fun q hq => ?_, ?_, ?_⟩, fun q hq => ?_, h4⟩
      · refine h.ins q ?_
        rcases List.mem_cons.1 hq with q1 | q1
        · subst q1; exact List.mem_cons_self
        · rw [h1]; exact List.mem_cons_of_mem _ (List.mem_append_left _ q1)
      · refine List.pairwise_cons.2 ⟨fun q hq => (List.pairwise_cons.1 h.inc).1 q (by rw [h1]; exact List.mem_append_left _ hq), h2.inc⟩
      · refine List.pairwise_cons.2 ⟨fun q hq => (List.pairwise_cons.1 h.one).1 q (by rw [h1]; exact List.mem_append_left _ hq), h2.one⟩
      · rcases List.mem_cons.1 hq with q1 | q1
        · subst q1; exact hp
        · exact h3 q q1
    · refine ⟨[], p :: o, rfl, ⟨fun p hp => (by cases hp), List.Pairwise.nil, List.Pairwise.nil⟩, fun p hp => (by cases hp), ⟨fun q hq => ?_, h.inc, h.one⟩⟩
      obtain ⟨j, k, rfl, q1⟩ := h.ins q hq
      refine ⟨j, k, rfl, ?_, q1.2⟩
      rcases List.mem_cons.1 hq with q2 | q2
      · subst q2; simp at hp; omega
      · have := (List.pairwise_cons.1 h.inc).1 _ q2
        simp at this; omega
theorem mtAll_opt {r : Rul} {a b : List Mrk} : ∀ (f i : Nat) (o : List Prg), a.length ≤ i + f → i ≤ a.length → mtcG r a b i o → geL (mtAll r a b f i, sumP a b (mtAll r a b f i)) (o, sumP a b o) := by
  intro f
  induction f with
  | zero =>
    intro i o h1 h2 h
    cases o with
    | nil => exact geL_refl _
    | cons p o =>
      obtain ⟨j, k, _, q1, q2, _⟩ := h.ins p List.mem_cons_self
      omega
  | succ f ih =>
    intro i o h1 h2 h
    rw [mtAll]
    split
    · rename_i hi
      obtain ⟨r1, r2, _⟩ := runE_spec hi
      obtain ⟨t, u, rfl, h3, h4, h5⟩ := mtcG_split (runE a i) h
      rw [sumP_append, sumP_append]
      refine geL_app ?_ (ih _ _ (by omega) r2 h5)
      have hf := mtcG_feas (runE a i - i) i [] t (by omega) h3 (fun p hp => by have := h4 p hp; omega) (fun p _ q hq => by cases hq)
      have := mtch_optL (runE a i - i) i ([], 0) ([], 0) t hf
      rw [← mtch_sum (by omega)]
      simpa using this
    · cases o with
      | nil => exact geL_refl _
      | cons p o =>
        obtain ⟨j, k, _, q1, q2, _⟩ := h.ins p List.mem_cons_self
        omega
/-- No matching has more pairings, or as many and a lesser sum. -/
theorem mtL_opt {r : Rul} {a b : List Mrk} {o : List Prg} (h : mtcG r a b 0 o) : geL (mtL r a b, sumP a b (mtL r a b)) (o, sumP a b o) :=
  mtAll_opt a.length 0 o (by omega) (by omega) h
end Go.Proofs.YtnchgjpdggembaaGreat
namespace Go.Proofs
open Go.Shelf
def Tryz.lays106_ren : Go.Shelf.Ren := ⟨fun | 106 => 53 | 213 => 95 | 265 => 128 | n => n, fun | 9 => 9 | 3 => 3 | n => n, fun | n => n⟩
theorem Tryz.lays106 : Go.Proofs.Lays.n106 Tryz.prog Tryz.lays106_ren := {
  mixed := by kernel_rfl
  f106 := Tryz.func53.trans (congrArg some (by kernel_rfl))
  f213 := Tryz.func95.trans (congrArg some (by kernel_rfl))
  f265 := Tryz.func128.trans (congrArg some (by kernel_rfl))
  t3 := Tryz.underlying3
  a3 := Tryz.isAgg3
  z3 := Tryz.sizeOf3
  v3 := Tryz.zeroValue3
  t9 := Tryz.underlying9
  a9 := Tryz.isAgg9
  z9 := Tryz.sizeOf9
  v9 := Tryz.zeroValue9 }
end Go.Proofs
set_option maxRecDepth 20000
namespace Go.Proofs.YtnchgjpdggembaaGreat
open Go Go.Eng Go.RowKit
def pnK (p : Pnl) : Prop := p.key.length ≤ 2^40
def pnOk (l : List Pnl) : Prop := l.length ≤ 2^40 ∧ ∀ p ∈ l, pnK p
def mkK (m : Mrk) : Prop := m.pan.length ≤ 2^40
def mkOk (l : List Mrk) : Prop := l.length ≤ 2^40 ∧ ∀ m ∈ l, mkK m
-- mark.CheckPanels
theorem s98 (l : List Pnl) (hk : pnOk l) : FSpec Tryz.prog 98 [.d (pnls l)] [] (fun x r => x = .d (.int .i64 (pansE l)) ∧ r = []) := by
  refine spec_of hT (C := []) Tryz.func98 rfl Tryz.call98 rfl rfl rfl ?_
  conv => whnf
  refine br_intro (fun h0 => ?_) (fun h0 => ?_)
  · simp at h0
    conv => whnf
    refine .ret _ ?_
    conv => whnf
    refine ⟨[], ⟨?_, rfl⟩, trivial⟩
    conv => lhs; whnf
    unfold pansE; rw [if_pos (by omega)]
  simp at h0
  conv => whnf
  refine LoopX.rule hT (C := []) (ι := Nat) (fun i => i ≤ l.length ∧ ∀ j, j < i → panE l j = 0) (fun i => mkSt [(0, .d (pnls l)), (8, .d (pnls l)), (9, .d (.int .i64 l.length)), (10, .d (.int .i64 i))] []) (fun i => l.length - i) 0 ⟨by omega, by omega⟩ (by (refine Entails.mk' [] rfl rfl ?_ ?_ <;> repeat' (first | exact True.intro | exact SV.le_refl _ | exact Res.le_refl _ | exact SV.le_int (by omega) | exact SV.le_any _ | refine And.intro ?_ ?_)); done) ?_
  rintro i ⟨p1, p2⟩
  have hx : (i : Int) < l.length → pnK (l.getD (i : Int).toNat pn0) := fun hi => hk.2 _ (getD_mem (by omega))
  have e1 : (i : Int).toNat = i := Int.toNat_natCast i
  have hbad : ∀ e : Int, i < l.length → e ≠ 0 → panE l i = e → pansE l = e := fun e h h1 h2 => by
    unfold pansE; rw [if_neg (by omega)]
    exact firstAt_eq h p2 h1 h2
  conv => whnf
  repeat' (first
    | (refine CallX.exact (s108 _ (hx (by omega))) rfl rfl ?_; rotate_right; conv => whnf)
    | (refine CallX.exact (s119 _ _ _) rfl rfl ?_; rotate_right; conv => whnf)
    | (refine br_intro (fun hb => ?_) (fun hb => ?_) <;> (try simp only [decide_eq_true_eq, decide_eq_false_iff_not, Bool.not_eq_true', Bool.not_eq_false', Bool.and_eq_true, Bool.or_eq_true, beq_iff_eq, not_and, Int.not_le, Int.not_lt, Int.toNat_natCast, beq_eq_false_iff_ne, ne_eq, eq_self, not_true_eq_false, not_false_eq_true] at hb) <;> (conv => whnf))
    | (refine RegX.rule (id := 8) hT rfl [] [(0, []), (1, []), (2, []), (3, []), (4, []), (5, [3, 4]), (6, [3, 4, 5]), (7, [3, 4, 5]), (8, [3, 4]), (9, [3, 4]), (10, [3, 4]), (11, []), (12, []), (13, [])] (by decide +kernel) ?_; conv => whnf)
    | omega
    | (refine And.intro ?_ ?_; ((try dsimp only); first | omega | (refine ⟨by omega, by omega, Int.le_trans (Int.mul_le_mul_of_nonneg_right (Int.ofNat_le.2 (Nat.le_of_ble_eq_true (rfl : Nat.ble _ 1024 = true))) (by omega)) (by omega), by omega⟩) | (refine Nat.le_trans (Nat.mul_le_mul_left _ (Nat.le_of_ble_eq_true (rfl : Nat.ble _ 1024 = true))) ?_; omega) | (unfold inI64; omega) | (constructor <;> omega) | (simp only [inI64, List.length_cons, List.length_append, List.length_nil, List.length_set] at *; omega) | decide | (unfold inI64; decide)); conv => whnf)
    | omega | decide | assumption)
  all_goals first
    | (refine ⟨i + 1, ⟨by omega, first_step p2 (by clear p2 hbad hk hx; simp only [e1, toNat_pred] at *; unfold panE strLe; grind)⟩, by omega, (by (refine Entails.mk' [] rfl rfl ?_ ?_ <;> repeat' (first | exact True.intro | exact SV.le_refl _ | exact Res.le_refl _ | exact SV.le_int (by omega) | exact SV.le_any _ | refine And.intro ?_ ?_)); done)⟩)
    | (refine .ret _ ?_
       conv => whnf
       refine ⟨[], ⟨?_, rfl⟩, trivial⟩
       conv => lhs; whnf
       congr 2
       first
         | exact (hbad _ (by omega) (by decide) (by clear p2 hbad hk hx; simp only [e1, toNat_pred] at *; unfold panE strLe; grind)).symm
         | (have : i = l.length := by omega
            subst this
            unfold pansE; rw [if_neg (by omega), firstAt_zero p2]))
-- PanelsFault
def rulE (r : Rul) : Int := if (0 ≤ r.near ∧ r.near ≤ 5000) ∧ (0 ≤ r.join ∧ r.join ≤ 5000) ∧ (0 ≤ r.slack ∧ r.slack ≤ 2000) ∧ (0 ≤ r.part ∧ r.part ≤ 1000) then 0 else 1
-- mark.CheckRules
theorem s102 (r : Rul) : FSpec Tryz.prog 56 [.agg ((ruF r).map .d)] [] (fun x o => x = .d (.int .i64 (rulE r)) ∧ o = []) := by
  refine spec_of hT (C := []) Tryz.func56 rfl Tryz.call56 rfl rfl rfl ?_
  conv => whnf
  repeat' (first
    | (refine CallX.exact (s119 _ _ _) rfl rfl ?_; rotate_right; conv => whnf)
    | (refine CallX.exact (s107 _ _) rfl rfl ?_; rotate_right; conv => whnf)
    | (refine br_intro (fun hb => ?_) (fun hb => ?_) <;> (try simp only [decide_eq_true_eq, decide_eq_false_iff_not, Bool.not_eq_true', Bool.not_eq_false', Bool.and_eq_true, Bool.or_eq_true, beq_iff_eq, not_and, Int.not_le, Int.not_lt, Int.toNat_natCast, beq_eq_false_iff_ne, ne_eq, eq_self, not_true_eq_false, not_false_eq_true] at hb) <;> (conv => whnf))
    | omega
    | (refine And.intro ?_ ?_; ((try dsimp only); first | omega | (refine ⟨by omega, by omega, Int.le_trans (Int.mul_le_mul_of_nonneg_right (Int.ofNat_le.2 (Nat.le_of_ble_eq_true (rfl : Nat.ble _ 1024 = true))) (by omega)) (by omega), by omega⟩) | (refine Nat.le_trans (Nat.mul_le_mul_left _ (Nat.le_of_ble_eq_true (rfl : Nat.ble _ 1024 = true))) ?_; omega) | (unfold inI64; omega) | (constructor <;> omega) | (simp only [inI64, List.length_cons, List.length_append, List.length_nil, List.length_set] at *; omega) | decide | (unfold inI64; decide)); conv => whnf)
    | omega | decide | assumption)
  all_goals
    refine .ret _ ?_
    conv => whnf
    refine ⟨[], ⟨?_, rfl⟩, trivial⟩
    conv => lhs; whnf
    congr 2
    unfold rulE; grind
-- RulesFault
-- mark.order
theorem s223 (a b : Mrk) : FSpec Tryz.prog 130 [.agg ((mkF a).map .d), .agg ((mkF b).map .d)] [] (fun x r => x = .d (.int .i64 (mrkCmp a b)) ∧ r = []) := by
  refine spec_of hT (C := []) Tryz.func130 rfl Tryz.call130 rfl rfl rfl ?_
  conv => whnf
  repeat' (first
    | (refine CallX.exact (s184 _ _) rfl rfl ?_; rotate_right; conv => whnf)
    | (refine CallX.exact (s183 _ _) rfl rfl ?_; rotate_right; conv => whnf)
    | (refine CallX.pure (s182 [_, _, _, _, _] (by simp)) ⟨SV.le_lit (by rfl) (by rfl), trivial⟩ rfl ?_; conv => whnf)
    | (refine br_intro (fun hb => ?_) (fun hb => ?_) <;> (try simp only [decide_eq_true_eq, decide_eq_false_iff_not, Bool.not_eq_true', Bool.not_eq_false', Bool.and_eq_true, Bool.or_eq_true, beq_iff_eq, not_and, Int.not_le, Int.not_lt, Int.toNat_natCast, beq_eq_false_iff_ne, ne_eq, eq_self, not_true_eq_false, not_false_eq_true] at hb) <;> (conv => whnf))
    | (refine RegX.rule (id := 1) hT rfl [] [(0, []), (1, []), (2, [0, 1]), (3, [0, 1]), (5, [0, 1, 2, 3]), (6, [0, 1, 2, 3]), (7, [0, 1, 2, 3, 5, 6]), (8, [0, 1, 2, 3, 5, 6]), (10, [0, 1, 2, 3, 5, 6, 7, 8]), (11, [0, 1, 2, 3, 5, 6, 7, 8]), (12, [0, 1, 2, 3, 5, 6, 7, 8, 10, 11]), (13, [0, 1, 2, 3, 5, 6, 7, 8, 10, 11]), (15, [0, 1, 2, 3, 5, 6, 7, 8, 10, 11, 12, 13]), (16, [0, 1, 2, 3, 5, 6, 7, 8, 10, 11, 12, 13]), (17, [0, 1, 2, 3, 5, 6, 7, 8, 10, 11, 12, 13, 15, 16]), (18, [0, 1, 2, 3, 5, 6, 7, 8, 10, 11, 12, 13, 15, 16]), (20, [0, 1, 2, 3, 5, 6, 7, 8, 10, 11, 12, 13, 15, 16, 17, 18]), (21, [0, 1, 2, 3, 5, 6, 7, 8, 10, 11, 12, 13, 15, 16, 17, 18]), (22, [0, 1, 2, 3, 5, 6, 7, 8, 10, 11, 12, 13, 15, 16, 17, 18, 20, 21]), (23, [0, 1, 2, 3, 5, 6, 7, 8, 10, 11, 12, 13, 15, 16, 17, 18, 20, 21]), (4, [5, 6, 7, 8, 10, 11, 12, 13, 15, 16, 17, 18, 20, 21, 22, 23]), (9, [10, 11, 12, 13, 15, 16, 17, 18, 20, 21, 22, 23]), (14, [15, 16, 17, 18, 20, 21, 22, 23]), (19, [20, 21, 22, 23]), (24, []), (25, []), (26, []), (27, [])] (by decide +kernel) ?_; conv => whnf)
    | omega
    | (refine And.intro ?_ ?_; ((try dsimp only); first | omega | (refine ⟨by omega, by omega, Int.le_trans (Int.mul_le_mul_of_nonneg_right (Int.ofNat_le.2 (Nat.le_of_ble_eq_true (rfl : Nat.ble _ 1024 = true))) (by omega)) (by omega), by omega⟩) | (refine Nat.le_trans (Nat.mul_le_mul_left _ (Nat.le_of_ble_eq_true (rfl : Nat.ble _ 1024 = true))) ?_; omega) | (unfold inI64; omega) | (constructor <;> omega) | (simp only [inI64, List.length_cons, List.length_append, List.length_nil, List.length_set] at *; omega) | decide | (unfold inI64; decide)); conv => whnf)
    | omega | decide | assumption)
  refine .ret _ ?_
  conv => whnf
  refine ⟨[], ⟨?_, rfl⟩, trivial⟩
  conv => lhs; whnf
  rfl
theorem cmpB_S : ∀ (a b : List UInt8), Lib.compareBytes a b = cmpS a b := by
  intro a
  induction a with
  | nil => intro b; cases b <;> simp [Lib.compareBytes, cmpS, Op.bytesLess]
  | cons x a ih =>
    intro b
    cases b with
    | nil => simp [Lib.compareBytes, cmpS, Op.bytesLess]
    | cons y b =>
      have := ih b
      unfold cmpS at this ⊢
      simp only [Lib.compareBytes, Op.bytesLess]
      grind
-- strings.Compare
theorem s190 (a b : List UInt8) : FSpec Tryz.prog 53 [.d (.str a), .d (.str b)] [] (fun x r => x = .d (.int .i64 (cmpS a b)) ∧ r = []) := by
  refine FSpec.ofBelow Tryz.call53 (fun G β w vs _ hl hd => ?_)
  match vs, hl with
  | [u, v], _ =>
    have hu := hd 0 _ _ rfl rfl
    have hv := hd 1 _ _ rfl rfl
    cases hu with | d _ _ hu => cases hu with | str _ =>
    cases hv with | d _ _ hv => cases hv with | str _ =>
    refine ⟨.int .i64 (Lib.compareBytes a b), fun G β => ?_, (Go.Proofs.Any.strings_Compare Go.Proofs.Tryz.lays106 ⟨a.toArray⟩ ⟨b.toArray⟩ w).mono ?_⟩
    · rw [← cmpB_S]; exact .d _ _ (.int _ _)
    · rintro e w' ⟨he, rfl⟩
      exact ⟨he, Below.refl _ _⟩
end Go.Proofs.YtnchgjpdggembaaGreat
set_option maxRecDepth 20000
namespace Go.Proofs.YtnchgjpdggembaaGreat
open Go Go.Eng
-- mark.formed
theorem s192 (l : List Mrk) (hk : mkOk l) : FSpec Tryz.prog 99 [.d (mrks l)] [] (fun x r => x = .d (.int .i64 (mrksE l)) ∧ r = []) := by
  refine spec_of hT (C := []) Tryz.func99 rfl Tryz.call99 rfl rfl rfl ?_
  conv => whnf
  refine br_intro (fun h0 => ?_) (fun h0 => ?_)
  · simp at h0
    conv => whnf
    refine .ret _ ?_
    conv => whnf
    refine ⟨[], ⟨?_, rfl⟩, trivial⟩
    conv => lhs; whnf
    unfold mrksE; rw [if_pos (by omega)]
  simp at h0
  conv => whnf
  refine LoopX.rule hT (C := []) (ι := Nat) (fun i => i ≤ l.length ∧ ∀ j, j < i → mrkE l j = 0) (fun i => mkSt [(0, .d (mrks l)), (8, .d (mrks l)), (9, .d (.int .i64 l.length)), (10, .d (.int .i64 i))] []) (fun i => l.length - i) 0 ⟨by omega, by omega⟩ (by (refine Entails.mk' [] rfl rfl ?_ ?_ <;> repeat' (first | exact True.intro | exact SV.le_refl _ | exact Res.le_refl _ | exact SV.le_int (by omega) | exact SV.le_any _ | refine And.intro ?_ ?_)); done) ?_
  rintro i ⟨p1, p2⟩
  have hx : (i : Int) < l.length → mkK (l.getD (i : Int).toNat mk0) := fun hi => hk.2 _ (getD_mem (by omega))
  have e1 : (i : Int).toNat = i := Int.toNat_natCast i
  have hbad : ∀ e : Int, i < l.length → e ≠ 0 → mrkE l i = e → mrksE l = e := fun e h h1 h2 => by
    unfold mrksE; rw [if_neg (by omega)]
    exact firstAt_eq h p2 h1 h2
  conv => whnf
  repeat' (first
    | (refine CallX.exact (s108 _ (hx (by omega))) rfl rfl ?_; rotate_right; conv => whnf)
    | (refine CallX.exact (s119 _ _ _) rfl rfl ?_; rotate_right; conv => whnf)
    | (refine CallX.exact (s223 (l.getD ((i : Int) - 1).toNat mk0) (l.getD (i : Int).toNat mk0)) rfl rfl ?_; rotate_right; conv => whnf)
    | (refine br_intro (fun hb => ?_) (fun hb => ?_) <;> (try simp only [decide_eq_true_eq, decide_eq_false_iff_not, Bool.not_eq_true', Bool.not_eq_false', Bool.and_eq_true, Bool.or_eq_true, beq_iff_eq, not_and, Int.not_le, Int.not_lt, Int.toNat_natCast, beq_eq_false_iff_ne, ne_eq, eq_self, not_true_eq_false, not_false_eq_true] at hb) <;> (conv => whnf))
    | (refine RegX.rule (id := 12) hT rfl [] [(0, []), (1, []), (2, []), (3, []), (4, [3]), (5, [3]), (6, []), (7, []), (8, [3, 4, 5, 6, 7]), (9, []), (10, []), (11, []), (12, [])] (by decide +kernel) ?_; conv => whnf)
    | omega
    | (refine And.intro ?_ ?_; ((try dsimp only); first | omega | (refine ⟨by omega, by omega, Int.le_trans (Int.mul_le_mul_of_nonneg_right (Int.ofNat_le.2 (Nat.le_of_ble_eq_true (rfl : Nat.ble _ 1024 = true))) (by omega)) (by omega), by omega⟩) | (refine Nat.le_trans (Nat.mul_le_mul_left _ (Nat.le_of_ble_eq_true (rfl : Nat.ble _ 1024 = true))) ?_; omega) | (unfold inI64; omega) | (constructor <;> omega) | (simp only [inI64, List.length_cons, List.length_append, List.length_nil, List.length_set] at *; omega) | decide | (unfold inI64; decide)); conv => whnf)
    | omega | decide | assumption)
  all_goals first
    | (refine ⟨i + 1, ⟨by omega, first_step p2 (by clear p2 hbad hk hx; simp only [e1, toNat_pred] at *; unfold mrkE ; grind)⟩, by omega, (by (refine Entails.mk' [] rfl rfl ?_ ?_ <;> repeat' (first | exact True.intro | exact SV.le_refl _ | exact Res.le_refl _ | exact SV.le_int (by omega) | exact SV.le_any _ | refine And.intro ?_ ?_)); done)⟩)
    | (refine .ret _ ?_
       conv => whnf
       refine ⟨[], ⟨?_, rfl⟩, trivial⟩
       conv => lhs; whnf
       congr 2
       first
         | exact (hbad _ (by omega) (by decide) (by clear p2 hbad hk hx; simp only [e1, toNat_pred] at *; unfold mrkE ; grind)).symm
         | (have : i = l.length := by omega
            subst this
            unfold mrksE; rw [if_neg (by omega), firstAt_zero p2]))
def mcell (m : Mrk) : Res := .cells 43 ((mkF m).map .d)
theorem s194 (p : Pnl) (m : Mrk) : FSpec Tryz.prog 101 [.agg ((pnF p).map .d), .ptr 1000001 0] [(1000001, mcell m)] (fun x r => x = .d (.bool (p.key == m.pan)) ∧ r = [(1000001, mcell m)]) := by
  refine spec_of hT (C := []) Tryz.func101 rfl Tryz.call101 rfl rfl rfl ?_
  conv => whnf
  refine .ret _ ?_
  conv => whnf
  exact ⟨[(1000001, mcell m)], ⟨rfl, rfl⟩, Res.le_refl _, trivial⟩
-- slices.IndexFunc of panels
theorem s193 (g : FuncId) (l : List Pnl) (hl : l.length ≤ 2^40) (m : Mrk)
    (hg : ∀ p, FSpec Tryz.prog g [.agg ((pnF p).map .d), .ptr 1000001 0] [(1000001, mcell m)] (fun x r => x = .d (.bool (p.key == m.pan)) ∧ r = [(1000001, mcell m)])) :
    FSpec Tryz.prog 100 [.d (pnls l), .fn g [.ptr 1000001 0]] [(1000001, mcell m)] (fun x r => x = .d (.int .i64 (panIx l m.pan)) ∧ r = [(1000001, mcell m)]) := by
  refine spec_of hT (C := []) Tryz.func100 rfl Tryz.call100 rfl rfl rfl ?_
  conv => whnf
  refine LoopX.rule hT (C := []) (ι := Nat) (fun i => i ≤ l.length ∧ ∀ j, j < i → ((l.getD j pn0).key == m.pan) = false) (fun i => mkSt [(0, .d (pnls l)), (1, .fn g [.ptr 1000001 0]), (7, .d (.int .i64 l.length)), (8, .d (.int .i64 i))] [(1000001, mcell m)]) (fun i => l.length - i) 0 ⟨by omega, by omega⟩ (by (refine Entails.mk' [(1000001, 1000001)] rfl rfl ?_ ?_ <;> repeat' (first | exact True.intro | exact SV.le_refl _ | exact Res.le_refl _ | exact SV.le_int (by omega) | exact SV.le_any _ | refine And.intro ?_ ?_)); done) ?_
  rintro i ⟨p1, p2⟩
  have e1 : (i : Int).toNat = i := Int.toNat_natCast i
  conv => whnf
  repeat' (first
    | (refine CallX.of (hg (l.getD (i : Int).toNat pn0)) [(1000001, 1000001)] rfl ⟨SV.le_refl _, SV.le_refl _, trivial⟩ ⟨Res.le_refl _, trivial⟩ rfl rfl ?_; rintro x rout ⟨rfl, rfl⟩; refine ⟨rfl, ?_⟩; conv => whnf)
    | (refine br_intro (fun hb => ?_) (fun hb => ?_) <;> (try simp only [decide_eq_true_eq, decide_eq_false_iff_not, Bool.not_eq_true', Bool.not_eq_false', Bool.and_eq_true, Bool.or_eq_true, beq_iff_eq, not_and, Int.not_le, Int.not_lt, Int.toNat_natCast, beq_eq_false_iff_ne, ne_eq, eq_self, not_true_eq_false, not_false_eq_true] at hb) <;> (conv => whnf))
    | omega
    | (refine And.intro ?_ ?_; ((try dsimp only); first | omega | (refine ⟨by omega, by omega, Int.le_trans (Int.mul_le_mul_of_nonneg_right (Int.ofNat_le.2 (Nat.le_of_ble_eq_true (rfl : Nat.ble _ 1024 = true))) (by omega)) (by omega), by omega⟩) | (refine Nat.le_trans (Nat.mul_le_mul_left _ (Nat.le_of_ble_eq_true (rfl : Nat.ble _ 1024 = true))) ?_; omega) | (unfold inI64; omega) | (constructor <;> omega) | (simp only [inI64, List.length_cons, List.length_append, List.length_nil, List.length_set] at *; omega) | decide | (unfold inI64; decide)); conv => whnf)
    | omega | decide | assumption)
  · refine .ret _ ?_
    conv => whnf
    refine ⟨[(1000001, mcell m)], ⟨?_, rfl⟩, Res.le_refl _, trivial⟩
    conv => lhs; whnf
    congr 2
    exact (ixF_hit (by omega) p2 (by simpa using hb)).symm
  · exact ⟨i + 1, ⟨by omega, all_step p2 (by simpa using hb)⟩, by omega, (by (refine Entails.mk' [(1000001, 1000001)] rfl rfl ?_ ?_ <;> repeat' (first | exact True.intro | exact SV.le_refl _ | exact Res.le_refl _ | exact SV.le_int (by omega) | exact SV.le_any _ | refine And.intro ?_ ?_)); done)⟩
  · refine .ret _ ?_
    conv => whnf
    refine ⟨[(1000001, mcell m)], ⟨?_, rfl⟩, Res.le_refl _, trivial⟩
    conv => lhs; whnf
    congr 2
    have : i = l.length := by omega
    subst this
    exact (ixF_none p2).symm
theorem panIx_lt (p : List Pnl) (key : List UInt8) : panIx p key < p.length := (ixF_bd (p := fun i => (p.getD i pn0).key == key) (n := p.length)).2.1
theorem runM_le (l : List Mrk) : ∀ i, runM l i ≤ i + 1 := by
  intro i
  induction i with
  | zero => simp [runM]
  | succ i ih => rw [runM]; split <;> omega
def prevR (l : List Mrk) (i : Nat) : Int := if i = 0 then 0 else runM l (i - 1)
-- mark.onPanels
theorem s159 (p : List Pnl) (l : List Mrk) (hp : p.length ≤ 2^40) (hk : mkOk l) : FSpec Tryz.prog 58 [.d (pnls p), .d (mrks l)] [] (fun x r => x = .d (.int .i64 (onPE p l)) ∧ r = []) := by
  refine spec_of hT (C := []) Tryz.func58 rfl Tryz.call58 rfl rfl rfl ?_
  conv => whnf
  repeat' (first
    | (refine CallX.exact (s192 l hk) rfl rfl ?_; rotate_right; conv => whnf)
    | (refine br_intro (fun hb => ?_) (fun hb => ?_) <;> (try simp only [decide_eq_true_eq, decide_eq_false_iff_not, Bool.not_eq_true', Bool.not_eq_false', Bool.and_eq_true, Bool.or_eq_true, beq_iff_eq, not_and, Int.not_le, Int.not_lt, Int.toNat_natCast, beq_eq_false_iff_ne, ne_eq, eq_self, not_true_eq_false, not_false_eq_true] at hb) <;> (conv => whnf))
    | (refine RegX.rule (id := 10) hT rfl [] [(0, []), (1, []), (2, [0, 1]), (3, [0, 1, 2]), (4, [0, 1]), (5, [0, 1]), (6, [0, 1]), (7, []), (8, []), (9, []), (10, []), (11, [9, 10]), (12, [9, 10, 11]), (13, [9, 10]), (14, [9, 10]), (15, [9, 10]), (16, []), (17, []), (18, [])] (by decide +kernel) ?_; conv => whnf)
    | (refine RegX.rule (id := 17) hT rfl [] [(0, []), (1, []), (2, []), (3, []), (4, []), (5, [3, 4]), (6, [3, 4, 5]), (7, [3, 4, 5]), (8, [3, 4]), (9, [3, 4]), (10, [3, 4]), (11, []), (12, []), (13, []), (14, []), (15, [13, 14]), (16, [13, 14, 15]), (17, [13, 14, 15]), (18, [13, 14]), (19, [13, 14]), (20, [13, 14]), (21, []), (22, []), (23, [])] (by decide +kernel) ?_; conv => whnf)
    | omega
    | (refine And.intro ?_ ?_; ((try dsimp only); first | omega | (refine ⟨by omega, by omega, Int.le_trans (Int.mul_le_mul_of_nonneg_right (Int.ofNat_le.2 (Nat.le_of_ble_eq_true (rfl : Nat.ble _ 1024 = true))) (by omega)) (by omega), by omega⟩) | (refine Nat.le_trans (Nat.mul_le_mul_left _ (Nat.le_of_ble_eq_true (rfl : Nat.ble _ 1024 = true))) ?_; omega) | (unfold inI64; omega) | (constructor <;> omega) | (simp only [inI64, List.length_cons, List.length_append, List.length_nil, List.length_set] at *; omega) | decide | (unfold inI64; decide)); conv => whnf)
    | omega | decide | assumption)
  · refine .ret _ ?_
    conv => whnf
    refine ⟨[], ⟨?_, rfl⟩, trivial⟩
    conv => lhs; whnf
    congr 2; unfold onPE; rw [if_pos hb]
  have hm : mrksE l = 0 := by omega
  have hE : onPE p l = if firstAt (onE p l) l.length ≠ 0 then firstAt (onE p l) l.length else firstAt (fullE l) l.length := by unfold onPE; rw [if_neg (by omega)]
  rw [hE]
  have hl60 : l.length ≤ 60 := by unfold mrksE at hm; split at hm; cases hm; omega
  refine LoopX.rule hT (C := []) (ι := Nat) (fun i => i ≤ l.length ∧ ∀ j, j < i → onE p l j = 0) (fun i => mkSt [(0, .d (pnls p)), (1, .d (mrks l)), (17, .d (mrks l)), (18, .d (.int .i64 l.length)), (19, .d (.int .i64 i))] []) (fun i => l.length - i) 0 ⟨by omega, by omega⟩ (by (refine Entails.mk' [] rfl rfl ?_ ?_ <;> repeat' (first | exact True.intro | exact SV.le_refl _ | exact Res.le_refl _ | exact SV.le_int (by omega) | exact SV.le_any _ | refine And.intro ?_ ?_)); done) ?_
  rintro i ⟨p1, p2⟩
  have e1 : (i : Int).toNat = i := Int.toNat_natCast i
  have hbad : ∀ e : Int, i < l.length → e ≠ 0 → onE p l i = e → firstAt (onE p l) l.length = e := fun e h h1 h2 => firstAt_eq h p2 h1 h2
  have hix := panIx_lt p (l.getD i mk0).pan
  conv => whnf
  repeat' (first
    | (refine CallX.of (s193 101 p hp (l.getD i mk0) (fun q => s194 q _)) [(1000001, 7)] rfl ⟨SV.le_refl _, SV.le_refl _, trivial⟩ ⟨Res.le_refl _, trivial⟩ rfl rfl ?_; rintro x rout ⟨rfl, rfl⟩; refine ⟨rfl, ?_⟩; conv => whnf)
    | (refine br_intro (fun hb => ?_) (fun hb => ?_) <;> (try simp only [decide_eq_true_eq, decide_eq_false_iff_not, Bool.not_eq_true', Bool.not_eq_false', Bool.and_eq_true, Bool.or_eq_true, beq_iff_eq, not_and, Int.not_le, Int.not_lt, Int.toNat_natCast, beq_eq_false_iff_ne, ne_eq, eq_self, not_true_eq_false, not_false_eq_true] at hb) <;> (conv => whnf))
    | (refine RegX.rule (id := 10) hT rfl [] [(0, []), (1, []), (2, [0, 1]), (3, [0, 1, 2]), (4, [0, 1]), (5, [0, 1]), (6, [0, 1]), (7, []), (8, []), (9, []), (10, []), (11, [9, 10]), (12, [9, 10, 11]), (13, [9, 10]), (14, [9, 10]), (15, [9, 10]), (16, []), (17, []), (18, [])] (by decide +kernel) ?_; conv => whnf)
    | (refine RegX.rule (id := 17) hT rfl [] [(0, []), (1, []), (2, []), (3, []), (4, []), (5, [3, 4]), (6, [3, 4, 5]), (7, [3, 4, 5]), (8, [3, 4]), (9, [3, 4]), (10, [3, 4]), (11, []), (12, []), (13, []), (14, []), (15, [13, 14]), (16, [13, 14, 15]), (17, [13, 14, 15]), (18, [13, 14]), (19, [13, 14]), (20, [13, 14]), (21, []), (22, []), (23, [])] (by decide +kernel) ?_; conv => whnf)
    | omega
    | (refine And.intro ?_ ?_; ((try dsimp only); first | omega | (refine ⟨by omega, by omega, Int.le_trans (Int.mul_le_mul_of_nonneg_right (Int.ofNat_le.2 (Nat.le_of_ble_eq_true (rfl : Nat.ble _ 1024 = true))) (by omega)) (by omega), by omega⟩) | (refine Nat.le_trans (Nat.mul_le_mul_left _ (Nat.le_of_ble_eq_true (rfl : Nat.ble _ 1024 = true))) ?_; omega) | (unfold inI64; omega) | (constructor <;> omega) | (simp only [inI64, List.length_cons, List.length_append, List.length_nil, List.length_set] at *; omega) | decide | (unfold inI64; decide)); conv => whnf)
    | omega | decide | assumption)
  · refine .ret _ ?_
    conv => whnf
    refine ⟨[], ⟨?_, rfl⟩, trivial⟩
    conv => lhs; whnf
    congr 2
    have := hbad 8 (by omega) (by decide) (by clear p2 hbad; unfold onE; simp only; rw [if_pos (by omega)])
    rw [this, if_pos (by decide)]
  · refine .ret _ ?_
    conv => whnf
    refine ⟨[], ⟨?_, rfl⟩, trivial⟩
    conv => lhs; whnf
    congr 2
    have := hbad 1 (by omega) (by decide) (by clear p2 hbad; unfold onE; simp only; grind)
    rw [this, if_pos (by decide)]
  · refine .ret _ ?_
    conv => whnf
    refine ⟨[], ⟨?_, rfl⟩, trivial⟩
    conv => lhs; whnf
    congr 2
    have := hbad 1 (by omega) (by decide) (by clear p2 hbad; unfold onE; simp only; grind)
    rw [this, if_pos (by decide)]
  · refine ⟨i + 1, ⟨by omega, first_step p2 (by clear p2 hbad; unfold onE; grind)⟩, by omega, (by (refine Entails.mk' [] rfl rfl ?_ ?_ <;> repeat' (first | exact True.intro | exact SV.le_refl _ | exact Res.le_refl _ | exact SV.le_int (by omega) | exact SV.le_any _ | refine And.intro ?_ ?_)); done)⟩
  have hi : i = l.length := by omega
  rw [hi] at p2
  rw [firstAt_zero p2, if_neg (by decide)]
  refine LoopX.rule hT (C := []) (ι := Nat) (fun i => i ≤ l.length ∧ ∀ j, j < i → fullE l j = 0) (fun i => mkSt [(1, .d (mrks l)), (9, .d (.int .i64 (prevR l i))), (49, .d (mrks l)), (50, .d (.int .i64 l.length)), (51, .d (.int .i64 i))] []) (fun i => l.length - i) 0 ⟨by omega, by omega⟩ (by (refine Entails.mk' [] rfl rfl ?_ ?_ <;> repeat' (first | exact True.intro | exact SV.le_refl _ | exact Res.le_refl _ | exact SV.le_int (by omega) | exact SV.le_any _ | refine And.intro ?_ ?_)); done) ?_
  rintro i ⟨p1, p2⟩
  have e1 : (i : Int).toNat = i := Int.toNat_natCast i
  have hpr : 0 ≤ prevR l i ∧ prevR l i ≤ i := by
    unfold prevR
    split
    · omega
    · have := runM_le l (i - 1); omega
  have hst : ∀ b : Int, b = runM l i → b ≤ 6 → fullE l i = 0 := fun b h1 h2 => by unfold fullE; rw [if_neg (by omega)]
  have hbad : ∀ b : Int, i < l.length → b = runM l i → 6 < b → firstAt (fullE l) l.length = 12 := fun b h0 h1 h2 => firstAt_eq h0 p2 (by decide) (by unfold fullE; rw [if_pos (by omega)])
  have hzero : i = 0 → (1 : Int) = runM l i := fun h => by subst h; rfl
  have hsame : 0 < i → sameM (l.getD i mk0) (l.getD (i - 1) mk0) = true → prevR l i + 1 = runM l i := fun h h1 => by
    obtain ⟨k, rfl⟩ : ∃ k, i = k + 1 := ⟨i - 1, by omega⟩
    simp only [Nat.add_sub_cancel] at h1
    rw [runM, if_pos h1]; simp [prevR]
  have hdiff : 0 < i → ¬ sameM (l.getD i mk0) (l.getD (i - 1) mk0) = true → (1 : Int) = runM l i := fun h h1 => by
    obtain ⟨k, rfl⟩ : ∃ k, i = k + 1 := ⟨i - 1, by omega⟩
    simp only [Nat.add_sub_cancel] at h1
    rw [runM, if_neg h1]; rfl
  have hnext : prevR l (i + 1) = runM l i := by simp [prevR]
  have hp0 : i = 0 → prevR l i = 0 := fun h => by subst h; rfl
  unfold sameM at hsame hdiff
  conv => whnf
  repeat' (first
    | (refine br_intro (fun hb => ?_) (fun hb => ?_) <;> (try simp only [decide_eq_true_eq, decide_eq_false_iff_not, Bool.not_eq_true', Bool.not_eq_false', Bool.and_eq_true, Bool.or_eq_true, beq_iff_eq, not_and, Int.not_le, Int.not_lt, Int.toNat_natCast, beq_eq_false_iff_ne, ne_eq, eq_self, not_true_eq_false, not_false_eq_true] at hb) <;> (conv => whnf))
    | (refine RegX.rule (id := 10) hT rfl [] [(0, []), (1, []), (2, [0, 1]), (3, [0, 1, 2]), (4, [0, 1]), (5, [0, 1]), (6, [0, 1]), (7, []), (8, []), (9, []), (10, []), (11, [9, 10]), (12, [9, 10, 11]), (13, [9, 10]), (14, [9, 10]), (15, [9, 10]), (16, []), (17, []), (18, [])] (by decide +kernel) ?_; conv => whnf)
    | (refine RegX.rule (id := 17) hT rfl [] [(0, []), (1, []), (2, []), (3, []), (4, []), (5, [3, 4]), (6, [3, 4, 5]), (7, [3, 4, 5]), (8, [3, 4]), (9, [3, 4]), (10, [3, 4]), (11, []), (12, []), (13, []), (14, []), (15, [13, 14]), (16, [13, 14, 15]), (17, [13, 14, 15]), (18, [13, 14]), (19, [13, 14]), (20, [13, 14]), (21, []), (22, []), (23, [])] (by decide +kernel) ?_; conv => whnf)
    | omega
    | (refine And.intro ?_ ?_; ((try dsimp only); first | omega | (refine ⟨by omega, by omega, Int.le_trans (Int.mul_le_mul_of_nonneg_right (Int.ofNat_le.2 (Nat.le_of_ble_eq_true (rfl : Nat.ble _ 1024 = true))) (by omega)) (by omega), by omega⟩) | (refine Nat.le_trans (Nat.mul_le_mul_left _ (Nat.le_of_ble_eq_true (rfl : Nat.ble _ 1024 = true))) ?_; omega) | (unfold inI64; omega) | (constructor <;> omega) | (simp only [inI64, List.length_cons, List.length_append, List.length_nil, List.length_set] at *; omega) | decide | (unfold inI64; decide)); conv => whnf)
    | omega | decide | assumption)
  all_goals try simp only [toNat_pred] at *
  all_goals first
    | (have hv : prevR l i + 1 = runM l i := by clear hst hbad p2 hnext; grind
       first
         | exact ⟨i + 1, ⟨by omega, first_step p2 (hst _ hv (by omega))⟩, by omega, Entails.mk' [] rfl rfl ⟨SV.le_refl _, SV.le_int (by rw [hnext]; exact hv), SV.le_refl _, SV.le_refl _, SV.le_refl _, trivial⟩ trivial⟩
         | (refine .ret _ ?_
            conv => whnf
            refine ⟨[], ⟨?_, rfl⟩, trivial⟩
            conv => lhs; whnf
            congr 2
            rw [hbad _ (by omega) hv (by omega)]))
    | (have hv : (0 : Int) + 1 = runM l i := by clear hst hbad p2 hnext; grind
       exact ⟨i + 1, ⟨by omega, first_step p2 (hst _ hv (by omega))⟩, by omega, Entails.mk' [] rfl rfl ⟨SV.le_refl _, SV.le_int (by rw [hnext]; exact hv), SV.le_refl _, SV.le_refl _, SV.le_refl _, trivial⟩ trivial⟩)
    | (refine .ret _ ?_
       conv => whnf
       refine ⟨[], ⟨?_, rfl⟩, trivial⟩
       conv => lhs; whnf
       congr 2
       have : i = l.length := by omega
       subst this
       rw [firstAt_zero p2])
end Go.Proofs.YtnchgjpdggembaaGreat
set_option maxRecDepth 20000
namespace Go.Proofs.YtnchgjpdggembaaGreat
open Go Go.Eng
def cmpIL : List Int → List Int → Int
  | [], [] => 0
  | [], _ :: _ => -1
  | _ :: _, [] => 1
  | x :: xs, y :: ys => if cmpI x y ≠ 0 then cmpI x y else cmpIL xs ys
-- slices.Compare of numbers
theorem s191 (l m : List Int) (hl : l.length ≤ 2^40) (hm : m.length ≤ 2^40) : FSpec Tryz.prog 54 [.d (ints l), .d (ints m)] [] (fun x r => x = .d (.int .i64 (cmpIL l m)) ∧ r = []) := by
  refine spec_of hT (C := []) Tryz.func54 rfl Tryz.call54 rfl rfl rfl ?_
  conv => whnf
  refine LoopX.rule hT (C := []) (ι := Nat) (fun i => i ≤ l.length ∧ i ≤ m.length ∧ cmpIL l m = cmpIL (l.drop i) (m.drop i)) (fun i => mkSt [(0, .d (ints l)), (1, .d (ints m)), (9, .d (ints l)), (10, .d (.int .i64 l.length)), (11, .d (.int .i64 i))] []) (fun i => l.length - i) 0 ⟨by omega, by omega, by simp⟩ (by (refine Entails.mk' [] rfl rfl ?_ ?_ <;> repeat' (first | exact True.intro | exact SV.le_refl _ | exact Res.le_refl _ | exact SV.le_int (by omega) | exact SV.le_any _ | refine And.intro ?_ ?_)); done) ?_
  rintro i ⟨p1, p2, p3⟩
  have hd : i < l.length → l.drop i = l.getD i 0 :: l.drop (i + 1) := fun hi => by rw [List.drop_eq_getElem_cons hi, List.getD_eq_getElem?_getD, List.getElem?_eq_getElem hi]; rfl
  have hd2 : i < m.length → m.drop i = m.getD i 0 :: m.drop (i + 1) := fun hi => by rw [List.drop_eq_getElem_cons hi, List.getD_eq_getElem?_getD, List.getElem?_eq_getElem hi]; rfl
  have e1 : (i : Int).toNat = i := Int.toNat_natCast i
  conv => whnf
  repeat' (first
    | (refine CallX.exact (s183 _ _) rfl rfl ?_; rotate_right; conv => whnf)
    | (refine br_intro (fun hb => ?_) (fun hb => ?_) <;> (try simp only [decide_eq_true_eq, decide_eq_false_iff_not, Bool.not_eq_true', Bool.not_eq_false', Bool.and_eq_true, Bool.or_eq_true, beq_iff_eq, not_and, Int.not_le, Int.not_lt, Int.toNat_natCast, beq_eq_false_iff_ne, ne_eq, eq_self, not_true_eq_false, not_false_eq_true] at hb) <;> (conv => whnf))
    | omega
    | (refine And.intro ?_ ?_; ((try dsimp only); first | omega | (refine ⟨by omega, by omega, Int.le_trans (Int.mul_le_mul_of_nonneg_right (Int.ofNat_le.2 (Nat.le_of_ble_eq_true (rfl : Nat.ble _ 1024 = true))) (by omega)) (by omega), by omega⟩) | (refine Nat.le_trans (Nat.mul_le_mul_left _ (Nat.le_of_ble_eq_true (rfl : Nat.ble _ 1024 = true))) ?_; omega) | (unfold inI64; omega) | (constructor <;> omega) | (simp only [inI64, List.length_cons, List.length_append, List.length_nil, List.length_set] at *; omega) | decide | (unfold inI64; decide)); conv => whnf)
    | omega | decide | assumption)
  · refine .ret _ ?_
    conv => whnf
    refine ⟨[], ⟨?_, rfl⟩, trivial⟩
    conv => lhs; whnf
    congr 2
    rw [p3, hd (by omega), List.drop_eq_nil_iff.2 (by omega : m.length ≤ i)]; rfl
  · refine .ret _ ?_
    conv => whnf
    refine ⟨[], ⟨?_, rfl⟩, trivial⟩
    conv => lhs; whnf
    congr 2
    rw [p3, hd (by omega), hd2 (by omega), cmpIL, if_pos (by simpa using hb)]; simp only [e1]
  · refine ⟨i + 1, ⟨by omega, by omega, ?_⟩, by omega, (by (refine Entails.mk' [] rfl rfl ?_ ?_ <;> repeat' (first | exact True.intro | exact SV.le_refl _ | exact Res.le_refl _ | exact SV.le_int (by omega) | exact SV.le_any _ | refine And.intro ?_ ?_)); done)⟩
    rw [p3, hd (by omega), hd2 (by omega), cmpIL, if_neg (by simpa using hb)]
  · refine .ret _ ?_
    conv => whnf
    refine ⟨[], ⟨?_, rfl⟩, trivial⟩
    conv => lhs; whnf
    congr 2
    have hm : i < m.length := by omega
    rw [p3, hd2 hm, List.drop_eq_nil_iff.2 (by omega : l.length ≤ i)]; rfl
  · refine .ret _ ?_
    conv => whnf
    refine ⟨[], ⟨?_, rfl⟩, trivial⟩
    conv => lhs; whnf
    congr 2
    rw [p3, List.drop_eq_nil_iff.2 (by omega : m.length ≤ i), List.drop_eq_nil_iff.2 (by omega : l.length ≤ i)]; rfl
theorem mrkOrder_eq (a b : Mrk) : mrkCmp a b = if a.pan ≠ b.pan then cmpS a.pan b.pan else cmpIL [a.kind, a.x, a.y, a.size] [b.kind, b.x, b.y, b.size] := by
  unfold mrkCmp
  simp only [firstE, cmpIL]
  by_cases h : a.pan = b.pan
  · have : cmpS a.pan b.pan = 0 := by unfold cmpS; rw [h, less_irr]; rfl
    simp [this, h]
    grind
  · have : cmpS a.pan b.pan ≠ 0 := by
      unfold cmpS
      intro q
      split at q
      · cases q
      · rename_i q1
        rw [less_tri _ _ (by simpa using q1) h] at q
        cases q
    simp [this, h]
-- MarkOrder
theorem s157 (a b : Mrk) : FSpec Tryz.prog 28 [.agg ((mkF a).map .d), .agg ((mkF b).map .d)] [] (fun x r => x = .d (.int .i64 (mrkCmp a b)) ∧ r = []) := by
  refine spec_of hT (C := []) Tryz.func28 rfl Tryz.call28 rfl rfl rfl ?_
  conv => whnf
  repeat' (first
    | (refine CallX.exact (s190 _ _) rfl rfl ?_; rotate_right; conv => whnf)
    | (refine CallX.pure (s191 [_, _, _, _] [_, _, _, _] (by simp) (by simp)) ⟨SV.le_lit (by rfl) (by rfl), SV.le_lit (by rfl) (by rfl), trivial⟩ rfl ?_; conv => whnf)
    | (refine br_intro (fun hb => ?_) (fun hb => ?_) <;> (try simp only [decide_eq_true_eq, decide_eq_false_iff_not, Bool.not_eq_true', Bool.not_eq_false', Bool.and_eq_true, Bool.or_eq_true, beq_iff_eq, not_and, Int.not_le, Int.not_lt, Int.toNat_natCast, beq_eq_false_iff_ne, ne_eq, eq_self, not_true_eq_false, not_false_eq_true] at hb) <;> (conv => whnf))
    | omega
    | (refine And.intro ?_ ?_; ((try dsimp only); first | omega | (refine ⟨by omega, by omega, Int.le_trans (Int.mul_le_mul_of_nonneg_right (Int.ofNat_le.2 (Nat.le_of_ble_eq_true (rfl : Nat.ble _ 1024 = true))) (by omega)) (by omega), by omega⟩) | (refine Nat.le_trans (Nat.mul_le_mul_left _ (Nat.le_of_ble_eq_true (rfl : Nat.ble _ 1024 = true))) ?_; omega) | (unfold inI64; omega) | (constructor <;> omega) | (simp only [inI64, List.length_cons, List.length_append, List.length_nil, List.length_set] at *; omega) | decide | (unfold inI64; decide)); conv => whnf)
    | omega | decide | assumption)
  · refine .ret _ ?_
    conv => whnf
    refine ⟨[], ⟨?_, rfl⟩, trivial⟩
    conv => lhs; whnf
    congr 2
    rw [mrkOrder_eq, if_pos hb]
  · refine .ret _ ?_
    conv => whnf
    refine ⟨[], ⟨?_, rfl⟩, trivial⟩
    conv => lhs; whnf
    congr 2
    rw [mrkOrder_eq, if_neg (by simpa using hb)]
-- MarkForm
-- marksFault
-- mark.CheckMarks
def mrksPE (p : List Pnl) (l : List Mrk) : Int := firstE [pansE p, onPE p l]
theorem s100 (p : List Pnl) (l : List Mrk) (hp : pnOk p) (hk : mkOk l) : FSpec Tryz.prog 57 [.d (pnls p), .d (mrks l)] [] (fun x r => x = .d (.int .i64 (mrksPE p l)) ∧ r = []) := by
  refine spec_of hT (C := []) Tryz.func57 rfl Tryz.call57 rfl rfl rfl ?_
  conv => whnf
  repeat' (first
    | (refine CallX.exact (s98 p hp) rfl rfl ?_; rotate_right; conv => whnf)
    | (refine CallX.exact (s159 p l hp.1 hk) rfl rfl ?_; rotate_right; conv => whnf)
    | (refine CallX.pure (s105 [_, _] (by simp)) ⟨SV.le_lit (by rfl) (by rfl), trivial⟩ rfl ?_; conv => whnf)
    | (refine br_intro (fun hb => ?_) (fun hb => ?_) <;> (try simp only [decide_eq_true_eq, decide_eq_false_iff_not, Bool.not_eq_true', Bool.not_eq_false', Bool.and_eq_true, Bool.or_eq_true, beq_iff_eq, not_and, Int.not_le, Int.not_lt, Int.toNat_natCast, beq_eq_false_iff_ne, ne_eq, eq_self, not_true_eq_false, not_false_eq_true] at hb) <;> (conv => whnf))
    | omega
    | (refine And.intro ?_ ?_; ((try dsimp only); first | omega | (refine ⟨by omega, by omega, Int.le_trans (Int.mul_le_mul_of_nonneg_right (Int.ofNat_le.2 (Nat.le_of_ble_eq_true (rfl : Nat.ble _ 1024 = true))) (by omega)) (by omega), by omega⟩) | (refine Nat.le_trans (Nat.mul_le_mul_left _ (Nat.le_of_ble_eq_true (rfl : Nat.ble _ 1024 = true))) ?_; omega) | (unfold inI64; omega) | (constructor <;> omega) | (simp only [inI64, List.length_cons, List.length_append, List.length_nil, List.length_set] at *; omega) | decide | (unfold inI64; decide)); conv => whnf)
    | omega | decide | assumption)
  refine .ret _ ?_
  conv => whnf
  refine ⟨[], ⟨?_, rfl⟩, trivial⟩
  conv => lhs; whnf
  rfl
-- MarksFault
end Go.Proofs.YtnchgjpdggembaaGreat
set_option maxRecDepth 20000
namespace Go.Proofs.YtnchgjpdggembaaGreat
open Go Go.Eng
def mBd (m : Mrk) : Prop := 0 ≤ m.x ∧ m.x ≤ 5000 ∧ 0 ≤ m.y ∧ m.y ≤ 5000 ∧ 1 ≤ m.size ∧ m.size ≤ 2000
def rBd (r : Rul) : Prop := 0 ≤ r.near ∧ r.near ≤ 5000 ∧ 0 ≤ r.slack ∧ r.slack ≤ 2000 ∧ 0 ≤ r.join ∧ r.join ≤ 5000 ∧ 0 ≤ r.part ∧ r.part ≤ 1000
theorem sq_bd {x : Int} (h1 : -5000 ≤ x) (h2 : x ≤ 5000) : 0 ≤ x * x ∧ x * x ≤ 25000000 := by
  rcases Int.le_total 0 x with q | q
  · exact ⟨Int.mul_nonneg q q, Int.le_trans (Int.mul_le_mul h2 h2 q (by omega)) (by omega)⟩
  · have e : x * x = (-x) * (-x) := by rw [Int.neg_mul_neg]
    rw [e]
    exact ⟨Int.mul_nonneg (by omega) (by omega), Int.le_trans (Int.mul_le_mul (by omega : -x ≤ 5000) (by omega : -x ≤ 5000) (by omega) (by omega)) (by omega)⟩
-- mark.distance
theorem z149 (a b : Mrk) (ha : mBd a) (hb1 : mBd b) : FSpec Tryz.prog 43 [.agg ((mkF a).map .d), .agg ((mkF b).map .d)] [] (fun x r => x = .d (.int .i64 (distM a b)) ∧ r = []) := by
  unfold mBd at ha hb1
  have h1 := sq_bd (x := a.x - b.x) (by omega) (by omega)
  have h2 := sq_bd (x := a.y - b.y) (by omega) (by omega)
  refine spec_of hT (C := []) Tryz.func43 rfl Tryz.call43 rfl rfl rfl ?_
  conv => whnf
  repeat' (first
    | (refine br_intro (fun hb => ?_) (fun hb => ?_) <;> (try simp only [decide_eq_true_eq, decide_eq_false_iff_not, Bool.not_eq_true', Bool.not_eq_false', Bool.and_eq_true, Bool.or_eq_true, beq_iff_eq, not_and, Int.not_le, Int.not_lt, Int.toNat_natCast, beq_eq_false_iff_ne, ne_eq, eq_self, not_true_eq_false, not_false_eq_true] at hb) <;> (conv => whnf))
    | omega
    | (refine And.intro ?_ ?_; ((try dsimp only); first | omega | (refine ⟨by omega, by omega, Int.le_trans (Int.mul_le_mul_of_nonneg_right (Int.ofNat_le.2 (Nat.le_of_ble_eq_true (rfl : Nat.ble _ 1024 = true))) (by omega)) (by omega), by omega⟩) | (refine Nat.le_trans (Nat.mul_le_mul_left _ (Nat.le_of_ble_eq_true (rfl : Nat.ble _ 1024 = true))) ?_; omega) | (unfold inI64; omega) | (constructor <;> omega) | (simp only [inI64, List.length_cons, List.length_append, List.length_nil, List.length_set] at *; omega) | decide | (unfold inI64; decide)); conv => whnf)
    | omega | decide | assumption)
  refine .ret _ ?_
  conv => whnf
  refine ⟨[], ⟨?_, rfl⟩, trivial⟩
  conv => lhs; whnf
  rfl
-- Distance
theorem z152 (a b : Mrk) (ha : mBd a) (hb1 : mBd b) : FSpec Tryz.prog 36 [.agg ((mkF a).map .d), .agg ((mkF b).map .d)] [] (fun x r => x = .d (.int .i64 (distM a b)) ∧ r = []) := by
  unfold mBd at ha hb1
  have h1 := sq_bd (x := a.x - b.x) (by omega) (by omega)
  have h2 := sq_bd (x := a.y - b.y) (by omega) (by omega)
  refine spec_of hT (C := []) Tryz.func36 rfl Tryz.call36 rfl rfl rfl ?_
  conv => whnf
  repeat' (first
    | (refine br_intro (fun hb => ?_) (fun hb => ?_) <;> (try simp only [decide_eq_true_eq, decide_eq_false_iff_not, Bool.not_eq_true', Bool.not_eq_false', Bool.and_eq_true, Bool.or_eq_true, beq_iff_eq, not_and, Int.not_le, Int.not_lt, Int.toNat_natCast, beq_eq_false_iff_ne, ne_eq, eq_self, not_true_eq_false, not_false_eq_true] at hb) <;> (conv => whnf))
    | omega
    | (refine And.intro ?_ ?_; ((try dsimp only); first | omega | (refine ⟨by omega, by omega, Int.le_trans (Int.mul_le_mul_of_nonneg_right (Int.ofNat_le.2 (Nat.le_of_ble_eq_true (rfl : Nat.ble _ 1024 = true))) (by omega)) (by omega), by omega⟩) | (refine Nat.le_trans (Nat.mul_le_mul_left _ (Nat.le_of_ble_eq_true (rfl : Nat.ble _ 1024 = true))) ?_; omega) | (unfold inI64; omega) | (constructor <;> omega) | (simp only [inI64, List.length_cons, List.length_append, List.length_nil, List.length_set] at *; omega) | decide | (unfold inI64; decide)); conv => whnf)
    | omega | decide | assumption)
  refine .ret _ ?_
  conv => whnf
  refine ⟨[], ⟨?_, rfl⟩, trivial⟩
  conv => lhs; whnf
  rfl
-- mark.canBe
theorem z148 (r : Rul) (a b : Mrk) (hr : rBd r) (ha : mBd a) (hb1 : mBd b) : FSpec Tryz.prog 42 [.agg ((ruF r).map .d), .agg ((mkF a).map .d), .agg ((mkF b).map .d)] [] (fun x r' => x = .d (.bool (canB r a b)) ∧ r' = []) := by
  have hd := z149 a b ha hb1
  have h1 := sq_bd (x := r.near) (by unfold rBd at hr; omega) (by unfold rBd at hr; omega)
  unfold mBd at ha hb1
  unfold rBd at hr
  refine spec_of hT (C := []) Tryz.func42 rfl Tryz.call42 rfl rfl rfl ?_
  conv => whnf
  repeat' (first
    | (refine CallX.exact (hd) rfl rfl ?_; rotate_right; conv => whnf)
    | (refine br_intro (fun hb => ?_) (fun hb => ?_) <;> (try simp only [decide_eq_true_eq, decide_eq_false_iff_not, Bool.not_eq_true', Bool.not_eq_false', Bool.and_eq_true, Bool.or_eq_true, beq_iff_eq, not_and, Int.not_le, Int.not_lt, Int.toNat_natCast, beq_eq_false_iff_ne, ne_eq, eq_self, not_true_eq_false, not_false_eq_true] at hb) <;> (conv => whnf))
    | (refine RegX.rule (id := 1) hT rfl [] [(0, []), (1, []), (2, [0, 1]), (3, [0, 1]), (4, []), (5, []), (6, []), (7, []), (8, [6, 7]), (9, [6, 7]), (10, []), (11, []), (12, []), (13, []), (14, [13]), (16, [13, 14]), (17, [13, 14]), (18, [13, 14, 16, 17]), (19, [13, 14, 16, 17]), (20, [13, 14]), (15, [16, 17, 18, 19, 20]), (21, []), (22, []), (23, []), (24, []), (25, []), (26, [24, 25]), (27, [24, 25]), (28, [24, 25, 26, 27]), (29, [24, 25, 26, 27]), (30, [24, 25]), (31, []), (32, []), (33, [])] (by decide +kernel) ?_; conv => whnf)
    | omega
    | (refine And.intro ?_ ?_; ((try dsimp only); first | omega | (refine ⟨by omega, by omega, Int.le_trans (Int.mul_le_mul_of_nonneg_right (Int.ofNat_le.2 (Nat.le_of_ble_eq_true (rfl : Nat.ble _ 1024 = true))) (by omega)) (by omega), by omega⟩) | (refine Nat.le_trans (Nat.mul_le_mul_left _ (Nat.le_of_ble_eq_true (rfl : Nat.ble _ 1024 = true))) ?_; omega) | (unfold inI64; omega) | (constructor <;> omega) | (simp only [inI64, List.length_cons, List.length_append, List.length_nil, List.length_set] at *; omega) | decide | (unfold inI64; decide)); conv => whnf)
    | omega | decide | assumption)
  all_goals
    refine .ret _ ?_
    conv => whnf
    refine ⟨[], ⟨?_, rfl⟩, trivial⟩
    conv => lhs; whnf
    congr 2
    unfold canB
    clear hd ha hb1 hr h1
    grind
-- CanBe
theorem z151 (r : Rul) (a b : Mrk) (hr : rBd r) (ha : mBd a) (hb1 : mBd b) : FSpec Tryz.prog 13 [.agg ((ruF r).map .d), .agg ((mkF a).map .d), .agg ((mkF b).map .d)] [] (fun x r' => x = .d (.bool (canB r a b)) ∧ r' = []) := by
  have hd := z152 a b ha hb1
  have h1 := sq_bd (x := r.near) (by unfold rBd at hr; omega) (by unfold rBd at hr; omega)
  unfold mBd at ha hb1
  unfold rBd at hr
  refine spec_of hT (C := []) Tryz.func13 rfl Tryz.call13 rfl rfl rfl ?_
  conv => whnf
  repeat' (first
    | (refine CallX.exact (hd) rfl rfl ?_; rotate_right; conv => whnf)
    | (refine br_intro (fun hb => ?_) (fun hb => ?_) <;> (try simp only [decide_eq_true_eq, decide_eq_false_iff_not, Bool.not_eq_true', Bool.not_eq_false', Bool.and_eq_true, Bool.or_eq_true, beq_iff_eq, not_and, Int.not_le, Int.not_lt, Int.toNat_natCast, beq_eq_false_iff_ne, ne_eq, eq_self, not_true_eq_false, not_false_eq_true] at hb) <;> (conv => whnf))
    | (refine RegX.rule (id := 1) hT rfl [] [(0, []), (1, []), (2, [0, 1]), (3, [0, 1]), (4, []), (5, []), (6, []), (7, []), (8, [6, 7]), (9, [6, 7]), (10, []), (11, []), (12, []), (13, []), (14, [13]), (16, [13, 14]), (17, [13, 14]), (18, [13, 14, 16, 17]), (19, [13, 14, 16, 17]), (20, [13, 14]), (15, [16, 17, 18, 19, 20]), (21, []), (22, []), (23, []), (24, []), (25, []), (26, [24, 25]), (27, [24, 25]), (28, [24, 25, 26, 27]), (29, [24, 25, 26, 27]), (30, [24, 25]), (31, []), (32, []), (33, [])] (by decide +kernel) ?_; conv => whnf)
    | omega
    | (refine And.intro ?_ ?_; ((try dsimp only); first | omega | (refine ⟨by omega, by omega, Int.le_trans (Int.mul_le_mul_of_nonneg_right (Int.ofNat_le.2 (Nat.le_of_ble_eq_true (rfl : Nat.ble _ 1024 = true))) (by omega)) (by omega), by omega⟩) | (refine Nat.le_trans (Nat.mul_le_mul_left _ (Nat.le_of_ble_eq_true (rfl : Nat.ble _ 1024 = true))) ?_; omega) | (unfold inI64; omega) | (constructor <;> omega) | (simp only [inI64, List.length_cons, List.length_append, List.length_nil, List.length_set] at *; omega) | decide | (unfold inI64; decide)); conv => whnf)
    | omega | decide | assumption)
  all_goals
    refine .ret _ ?_
    conv => whnf
    refine ⟨[], ⟨?_, rfl⟩, trivial⟩
    conv => lhs; whnf
    congr 2
    unfold canB
    clear hd ha hb1 hr h1
    grind
theorem cmpPr_eq (p q : Prg) : cmpPr p q = firstE [cmpI p.a q.a, cmpI p.b q.b] := by
  unfold cmpPr
  simp only [firstE]
  grind
-- mark.byPair
theorem z283 (p q : Prg) : FSpec Tryz.prog 103 [.agg ((prF p).map .d), .agg ((prF q).map .d)] [] (fun x r => x = .d (.int .i64 (cmpPr p q)) ∧ r = []) := by
  refine spec_of hT (C := []) Tryz.func103 rfl Tryz.call103 rfl rfl rfl ?_
  conv => whnf
  repeat' (first
    | (refine CallX.exact (s183 _ _) rfl rfl ?_; rotate_right; conv => whnf)
    | (refine CallX.pure (s182 [_, _] (by simp)) ⟨SV.le_lit (by rfl) (by rfl), trivial⟩ rfl ?_; conv => whnf)
    | (refine br_intro (fun hb => ?_) (fun hb => ?_) <;> (try simp only [decide_eq_true_eq, decide_eq_false_iff_not, Bool.not_eq_true', Bool.not_eq_false', Bool.and_eq_true, Bool.or_eq_true, beq_iff_eq, not_and, Int.not_le, Int.not_lt, Int.toNat_natCast, beq_eq_false_iff_ne, ne_eq, eq_self, not_true_eq_false, not_false_eq_true] at hb) <;> (conv => whnf))
    | (refine RegX.rule (id := 1) hT rfl [] [(0, []), (1, []), (2, [0, 1]), (3, [0, 1]), (5, [0, 1, 2, 3]), (6, [0, 1, 2, 3]), (7, [0, 1, 2, 3, 5, 6]), (8, [0, 1, 2, 3, 5, 6]), (4, [5, 6, 7, 8]), (9, []), (10, []), (11, []), (12, [])] (by decide +kernel) ?_; conv => whnf)
    | omega
    | (refine And.intro ?_ ?_; ((try dsimp only); first | omega | (refine ⟨by omega, by omega, Int.le_trans (Int.mul_le_mul_of_nonneg_right (Int.ofNat_le.2 (Nat.le_of_ble_eq_true (rfl : Nat.ble _ 1024 = true))) (by omega)) (by omega), by omega⟩) | (refine Nat.le_trans (Nat.mul_le_mul_left _ (Nat.le_of_ble_eq_true (rfl : Nat.ble _ 1024 = true))) ?_; omega) | (unfold inI64; omega) | (constructor <;> omega) | (simp only [inI64, List.length_cons, List.length_append, List.length_nil, List.length_set] at *; omega) | decide | (unfold inI64; decide)); conv => whnf)
    | omega | decide | assumption)
  refine .ret _ ?_
  conv => whnf
  refine ⟨[], ⟨?_, rfl⟩, trivial⟩
  conv => lhs; whnf
  rw [cmpPr_eq]
-- beats
abbrev prB (l : List Prg) : Res := seqB 46 2 prF pr0 l
-- slices.Clone of pairings, of an own row: what it gives back is changed no more
theorem z231 (l : List Prg) (hl : l.length ≤ 2^20) : FSpec Tryz.prog 104 [.buf 1000001] [(1000001, prB l)] (fun y r => y = .d (prgs l) ∧ r = [(1000001, prB l)]) := by
  refine spec_of hT (C := [5]) Tryz.func104 rfl Tryz.call104 rfl rfl rfl ?_
  conv => whnf
  rintro b hbn
  conv => whnf
  repeat' (first
    | (refine br_intro (fun hb => ?_) (fun hb => ?_) <;> (try simp only [decide_eq_true_eq, decide_eq_false_iff_not, Bool.not_eq_true', Bool.not_eq_false', Bool.and_eq_true, Bool.or_eq_true, beq_iff_eq, not_and, Int.not_le, Int.not_lt, Int.toNat_natCast, beq_eq_false_iff_ne, ne_eq, eq_self, not_true_eq_false, not_false_eq_true] at hb) <;> (conv => whnf))
    | omega
    | (refine And.intro ?_ ?_; ((try dsimp only); first | omega | (refine ⟨by omega, by omega, Int.le_trans (Int.mul_le_mul_of_nonneg_right (Int.ofNat_le.2 (Nat.le_of_ble_eq_true (rfl : Nat.ble _ 1024 = true))) (by omega)) (by omega), by omega⟩) | (refine Nat.le_trans (Nat.mul_le_mul_left _ (Nat.le_of_ble_eq_true (rfl : Nat.ble _ 1024 = true))) ?_; omega) | (unfold inI64; omega) | (constructor <;> omega) | (simp only [inI64, List.length_cons, List.length_append, List.length_nil, List.length_set] at *; omega) | decide | (unfold inI64; decide)); conv => whnf)
    | omega | decide | assumption)
  · have : l = [] := List.eq_nil_of_length_eq_zero (hbn (by assumption))
    subst this
    refine .weak _ ?_
    (conv => whnf)
    exact ⟨_, _, SV.le_nilS, ⟨rfl, rfl⟩, Res.le_refl _, trivial⟩
  · refine .freeze _ 7 46 2 _ _ rfl (.weak _ ?_)
    (conv => whnf)
    exact ⟨_, _, SV.le_ro (by simp) (fun i hi => by rw [appGet_ge (by omega)]; rfl), ⟨rfl, rfl⟩, Res.le_refl _, trivial⟩
-- slices.Equal of pairings
/-- Whether some pairing has a number of the newer report, and where. -/
def pIx (p : Prg → Bool) (l : List Prg) : Int := ixF (fun i => p (l.getD i pr0)) l.length
theorem pIx_any (p : Prg → Bool) (l : List Prg) : decide (0 ≤ pIx p l) = l.any p := by
  have hb : -1 ≤ pIx p l ∧ pIx p l < l.length ∧ (0 ≤ pIx p l → p (l.getD (pIx p l).toNat pr0) = true) := ixF_bd
  rw [Bool.eq_iff_iff, decide_eq_true_eq, List.any_eq_true]
  constructor
  · intro h
    exact ⟨_, getD_mem (by omega), hb.2.2 h⟩
  · rintro ⟨x, hx, hp⟩
    obtain ⟨i, hi, rfl⟩ := List.mem_iff_getElem.1 hx
    rcases Int.lt_or_le (pIx p l) 0 with q | q
    · exfalso
      have h0 : pIx p l = -1 := by omega
      have : ∀ n, ixF (fun i => p (l.getD i pr0)) n = -1 → ∀ j, j < n → p (l.getD j pr0) = false := by
        intro n
        induction n with
        | zero => intro _ j hj; omega
        | succ n ih =>
          intro hn j hj
          rw [ixF] at hn
          split at hn
          · rename_i h1
            split at hn
            · omega
            · rename_i h2
              by_cases e : j = n
              · subst e; simpa using h2
              · exact ih h1 j (by omega)
          · rename_i h1; exact absurd hn h1
      have h1 := this l.length h0 i hi
      rw [List.getD_eq_getElem?_getD, List.getElem?_eq_getElem hi, Option.getD_some, hp] at h1
      cases h1
    · exact q
abbrev icelm (k : Int) : Res := .cells 3 [.d (.int .i64 k)]
abbrev pcell (p : Prg) : Res := .cells 46 ((prF p).map .d)
-- slices.IndexFunc of pairings
theorem z159i (k : Int) (g : FuncId) (l : List Prg) (hl : l.length ≤ 2^40) (p : Prg → Bool)
    (hg : ∀ x, x ∈ l → FSpec Tryz.prog g [.agg ((prF x).map .d), .ptr 1000001 0] [(1000001, icelm k)] (fun y r => y = .d (.bool (p x)) ∧ r = [(1000001, icelm k)])) :
    FSpec Tryz.prog 37 [.d (prgs l), .fn g [.ptr 1000001 0]] [(1000001, icelm k)] (fun y r => y = .d (.int .i64 (pIx p l)) ∧ r = [(1000001, icelm k)]) := by
  refine spec_of hT (C := []) Tryz.func37 rfl Tryz.call37 rfl rfl rfl ?_
  conv => whnf
  refine LoopX.rule hT (C := []) (ι := Nat) (fun i => i ≤ l.length ∧ ∀ j, j < i → p (l.getD j pr0) = false) (fun i => mkSt [(0, .d (prgs l)), (1, .fn g [.ptr 1000001 0]), (7, .d (.int .i64 l.length)), (8, .d (.int .i64 i))] [(1000001, icelm k)]) (fun i => l.length - i) 0 ⟨by omega, by omega⟩ (by (refine Entails.mk' [(1000001, 1000001)] rfl rfl ?_ ?_ <;> repeat' (first | exact True.intro | exact SV.le_refl _ | exact Res.le_refl _ | exact SV.le_int (by omega) | exact SV.le_any _ | refine And.intro ?_ ?_)); done) ?_
  rintro i ⟨p1, p2⟩
  have e1 : (i : Int).toNat = i := Int.toNat_natCast i
  conv => whnf
  repeat' (first
    | (refine CallX.of (hg (l.getD i pr0) (getD_mem (by omega))) [(1000001, 1000001)] rfl ⟨SV.le_refl _, SV.le_refl _, trivial⟩ ⟨Res.le_refl _, trivial⟩ rfl rfl ?_; rintro x rout ⟨rfl, rfl⟩; refine ⟨rfl, ?_⟩; conv => whnf)
    | (refine br_intro (fun hb => ?_) (fun hb => ?_) <;> (try simp only [decide_eq_true_eq, decide_eq_false_iff_not, Bool.not_eq_true', Bool.not_eq_false', Bool.and_eq_true, Bool.or_eq_true, beq_iff_eq, not_and, Int.not_le, Int.not_lt, Int.toNat_natCast, beq_eq_false_iff_ne, ne_eq, eq_self, not_true_eq_false, not_false_eq_true] at hb) <;> (conv => whnf))
    | omega
    | (refine And.intro ?_ ?_; ((try dsimp only); first | omega | (refine ⟨by omega, by omega, Int.le_trans (Int.mul_le_mul_of_nonneg_right (Int.ofNat_le.2 (Nat.le_of_ble_eq_true (rfl : Nat.ble _ 1024 = true))) (by omega)) (by omega), by omega⟩) | (refine Nat.le_trans (Nat.mul_le_mul_left _ (Nat.le_of_ble_eq_true (rfl : Nat.ble _ 1024 = true))) ?_; omega) | (unfold inI64; omega) | (constructor <;> omega) | (simp only [inI64, List.length_cons, List.length_append, List.length_nil, List.length_set] at *; omega) | decide | (unfold inI64; decide)); conv => whnf)
    | omega | decide | assumption)
  · refine .ret _ ?_
    conv => whnf
    refine ⟨[(1000001, icelm k)], ⟨?_, rfl⟩, Res.le_refl _, trivial⟩
    conv => lhs; whnf
    congr 2
    exact (ixF_hit (by omega) p2 (by simpa using hb)).symm
  · exact ⟨i + 1, ⟨by omega, all_step p2 (by simpa using hb)⟩, by omega, (by (refine Entails.mk' [(1000001, 1000001)] rfl rfl ?_ ?_ <;> repeat' (first | exact True.intro | exact SV.le_refl _ | exact Res.le_refl _ | exact SV.le_int (by omega) | exact SV.le_any _ | refine And.intro ?_ ?_)); done)⟩
  · refine .ret _ ?_
    conv => whnf
    refine ⟨[(1000001, icelm k)], ⟨?_, rfl⟩, Res.le_refl _, trivial⟩
    conv => lhs; whnf
    congr 2
    have : i = l.length := by omega
    subst this
    exact (ixF_none p2).symm
-- slices.ContainsFunc of pairings
theorem z146i (k : Int) (g : FuncId) (l : List Prg) (hl : l.length ≤ 2^40) (p : Prg → Bool)
    (hg : ∀ x, x ∈ l → FSpec Tryz.prog g [.agg ((prF x).map .d), .ptr 1000001 0] [(1000001, icelm k)] (fun y r => y = .d (.bool (p x)) ∧ r = [(1000001, icelm k)])) :
    FSpec Tryz.prog 14 [.d (prgs l), .fn g [.ptr 1000001 0]] [(1000001, icelm k)] (fun y r => y = .d (.bool (l.any p)) ∧ r = [(1000001, icelm k)]) := by
  refine spec_of hT (C := []) Tryz.func14 rfl Tryz.call14 rfl rfl rfl ?_
  conv => whnf
  repeat' (first
    | (refine CallX.of (z159i k g l hl p hg) [(1000001, 1000001)] rfl ⟨SV.le_refl _, SV.le_refl _, trivial⟩ ⟨Res.le_refl _, trivial⟩ rfl rfl ?_; rintro x rout ⟨rfl, rfl⟩; refine ⟨rfl, ?_⟩; conv => whnf)
    | (refine br_intro (fun hb => ?_) (fun hb => ?_) <;> (try simp only [decide_eq_true_eq, decide_eq_false_iff_not, Bool.not_eq_true', Bool.not_eq_false', Bool.and_eq_true, Bool.or_eq_true, beq_iff_eq, not_and, Int.not_le, Int.not_lt, Int.toNat_natCast, beq_eq_false_iff_ne, ne_eq, eq_self, not_true_eq_false, not_false_eq_true] at hb) <;> (conv => whnf))
    | omega
    | (refine And.intro ?_ ?_; ((try dsimp only); first | omega | (refine ⟨by omega, by omega, Int.le_trans (Int.mul_le_mul_of_nonneg_right (Int.ofNat_le.2 (Nat.le_of_ble_eq_true (rfl : Nat.ble _ 1024 = true))) (by omega)) (by omega), by omega⟩) | (refine Nat.le_trans (Nat.mul_le_mul_left _ (Nat.le_of_ble_eq_true (rfl : Nat.ble _ 1024 = true))) ?_; omega) | (unfold inI64; omega) | (constructor <;> omega) | (simp only [inI64, List.length_cons, List.length_append, List.length_nil, List.length_set] at *; omega) | decide | (unfold inI64; decide)); conv => whnf)
    | omega | decide | assumption)
  refine .ret _ ?_
  conv => whnf
  refine ⟨[(1000001, icelm k)], ⟨?_, rfl⟩, Res.le_refl _, trivial⟩
  conv => lhs; whnf
  rw [← pIx_any]
-- slices.IndexFunc of pairings
theorem z159p (q : Prg) (g : FuncId) (l : List Prg) (hl : l.length ≤ 2^40) (p : Prg → Bool)
    (hg : ∀ x, x ∈ l → FSpec Tryz.prog g [.agg ((prF x).map .d), .ptr 1000001 0] [(1000001, pcell q)] (fun y r => y = .d (.bool (p x)) ∧ r = [(1000001, pcell q)])) :
    FSpec Tryz.prog 37 [.d (prgs l), .fn g [.ptr 1000001 0]] [(1000001, pcell q)] (fun y r => y = .d (.int .i64 (pIx p l)) ∧ r = [(1000001, pcell q)]) := by
  refine spec_of hT (C := []) Tryz.func37 rfl Tryz.call37 rfl rfl rfl ?_
  conv => whnf
  refine LoopX.rule hT (C := []) (ι := Nat) (fun i => i ≤ l.length ∧ ∀ j, j < i → p (l.getD j pr0) = false) (fun i => mkSt [(0, .d (prgs l)), (1, .fn g [.ptr 1000001 0]), (7, .d (.int .i64 l.length)), (8, .d (.int .i64 i))] [(1000001, pcell q)]) (fun i => l.length - i) 0 ⟨by omega, by omega⟩ (by (refine Entails.mk' [(1000001, 1000001)] rfl rfl ?_ ?_ <;> repeat' (first | exact True.intro | exact SV.le_refl _ | exact Res.le_refl _ | exact SV.le_int (by omega) | exact SV.le_any _ | refine And.intro ?_ ?_)); done) ?_
  rintro i ⟨p1, p2⟩
  have e1 : (i : Int).toNat = i := Int.toNat_natCast i
  conv => whnf
  repeat' (first
    | (refine CallX.of (hg (l.getD i pr0) (getD_mem (by omega))) [(1000001, 1000001)] rfl ⟨SV.le_refl _, SV.le_refl _, trivial⟩ ⟨Res.le_refl _, trivial⟩ rfl rfl ?_; rintro x rout ⟨rfl, rfl⟩; refine ⟨rfl, ?_⟩; conv => whnf)
    | (refine br_intro (fun hb => ?_) (fun hb => ?_) <;> (try simp only [decide_eq_true_eq, decide_eq_false_iff_not, Bool.not_eq_true', Bool.not_eq_false', Bool.and_eq_true, Bool.or_eq_true, beq_iff_eq, not_and, Int.not_le, Int.not_lt, Int.toNat_natCast, beq_eq_false_iff_ne, ne_eq, eq_self, not_true_eq_false, not_false_eq_true] at hb) <;> (conv => whnf))
    | omega
    | (refine And.intro ?_ ?_; ((try dsimp only); first | omega | (refine ⟨by omega, by omega, Int.le_trans (Int.mul_le_mul_of_nonneg_right (Int.ofNat_le.2 (Nat.le_of_ble_eq_true (rfl : Nat.ble _ 1024 = true))) (by omega)) (by omega), by omega⟩) | (refine Nat.le_trans (Nat.mul_le_mul_left _ (Nat.le_of_ble_eq_true (rfl : Nat.ble _ 1024 = true))) ?_; omega) | (unfold inI64; omega) | (constructor <;> omega) | (simp only [inI64, List.length_cons, List.length_append, List.length_nil, List.length_set] at *; omega) | decide | (unfold inI64; decide)); conv => whnf)
    | omega | decide | assumption)
  · refine .ret _ ?_
    conv => whnf
    refine ⟨[(1000001, pcell q)], ⟨?_, rfl⟩, Res.le_refl _, trivial⟩
    conv => lhs; whnf
    congr 2
    exact (ixF_hit (by omega) p2 (by simpa using hb)).symm
  · exact ⟨i + 1, ⟨by omega, all_step p2 (by simpa using hb)⟩, by omega, (by (refine Entails.mk' [(1000001, 1000001)] rfl rfl ?_ ?_ <;> repeat' (first | exact True.intro | exact SV.le_refl _ | exact Res.le_refl _ | exact SV.le_int (by omega) | exact SV.le_any _ | refine And.intro ?_ ?_)); done)⟩
  · refine .ret _ ?_
    conv => whnf
    refine ⟨[(1000001, pcell q)], ⟨?_, rfl⟩, Res.le_refl _, trivial⟩
    conv => lhs; whnf
    congr 2
    have : i = l.length := by omega
    subst this
    exact (ixF_none p2).symm
-- slices.ContainsFunc of pairings
theorem z146p (q : Prg) (g : FuncId) (l : List Prg) (hl : l.length ≤ 2^40) (p : Prg → Bool)
    (hg : ∀ x, x ∈ l → FSpec Tryz.prog g [.agg ((prF x).map .d), .ptr 1000001 0] [(1000001, pcell q)] (fun y r => y = .d (.bool (p x)) ∧ r = [(1000001, pcell q)])) :
    FSpec Tryz.prog 14 [.d (prgs l), .fn g [.ptr 1000001 0]] [(1000001, pcell q)] (fun y r => y = .d (.bool (l.any p)) ∧ r = [(1000001, pcell q)]) := by
  refine spec_of hT (C := []) Tryz.func14 rfl Tryz.call14 rfl rfl rfl ?_
  conv => whnf
  repeat' (first
    | (refine CallX.of (z159p q g l hl p hg) [(1000001, 1000001)] rfl ⟨SV.le_refl _, SV.le_refl _, trivial⟩ ⟨Res.le_refl _, trivial⟩ rfl rfl ?_; rintro x rout ⟨rfl, rfl⟩; refine ⟨rfl, ?_⟩; conv => whnf)
    | (refine br_intro (fun hb => ?_) (fun hb => ?_) <;> (try simp only [decide_eq_true_eq, decide_eq_false_iff_not, Bool.not_eq_true', Bool.not_eq_false', Bool.and_eq_true, Bool.or_eq_true, beq_iff_eq, not_and, Int.not_le, Int.not_lt, Int.toNat_natCast, beq_eq_false_iff_ne, ne_eq, eq_self, not_true_eq_false, not_false_eq_true] at hb) <;> (conv => whnf))
    | omega
    | (refine And.intro ?_ ?_; ((try dsimp only); first | omega | (refine ⟨by omega, by omega, Int.le_trans (Int.mul_le_mul_of_nonneg_right (Int.ofNat_le.2 (Nat.le_of_ble_eq_true (rfl : Nat.ble _ 1024 = true))) (by omega)) (by omega), by omega⟩) | (refine Nat.le_trans (Nat.mul_le_mul_left _ (Nat.le_of_ble_eq_true (rfl : Nat.ble _ 1024 = true))) ?_; omega) | (unfold inI64; omega) | (constructor <;> omega) | (simp only [inI64, List.length_cons, List.length_append, List.length_nil, List.length_set] at *; omega) | decide | (unfold inI64; decide)); conv => whnf)
    | omega | decide | assumption)
  refine .ret _ ?_
  conv => whnf
  refine ⟨[(1000001, pcell q)], ⟨?_, rfl⟩, Res.le_refl _, trivial⟩
  conv => lhs; whnf
  rw [← pIx_any]
theorem z176 (p : Prg) (k : Int) : FSpec Tryz.prog 46 [.agg ((prF p).map .d), .ptr 1000001 0] [(1000001, icelm k)] (fun y r => y = .d (.bool (p.b == k)) ∧ r = [(1000001, icelm k)]) := by
  refine spec_of hT (C := []) Tryz.func46 rfl Tryz.call46 rfl rfl rfl ?_
  conv => whnf
  refine .ret _ ?_
  conv => whnf
  exact ⟨[(1000001, icelm k)], ⟨rfl, rfl⟩, Res.le_refl _, trivial⟩
theorem z180 (p : Prg) (k : Int) : FSpec Tryz.prog 48 [.agg ((prF p).map .d), .ptr 1000001 0] [(1000001, icelm k)] (fun y r => y = .d (.bool (p.a == k)) ∧ r = [(1000001, icelm k)]) := by
  refine spec_of hT (C := []) Tryz.func48 rfl Tryz.call48 rfl rfl rfl ?_
  conv => whnf
  refine .ret _ ?_
  conv => whnf
  exact ⟨[(1000001, icelm k)], ⟨rfl, rfl⟩, Res.le_refl _, trivial⟩
theorem z147 (p q : Prg) : FSpec Tryz.prog 41 [.agg ((prF p).map .d), .ptr 1000001 0] [(1000001, pcell q)] (fun y r => y = .d (.bool (p.b == q.b)) ∧ r = [(1000001, pcell q)]) := by
  refine spec_of hT (C := []) Tryz.func41 rfl Tryz.call41 rfl rfl rfl ?_
  conv => whnf
  refine .ret _ ?_
  conv => whnf
  exact ⟨[(1000001, pcell q)], ⟨rfl, rfl⟩, Res.le_refl _, trivial⟩
end Go.Proofs.YtnchgjpdggembaaGreat
set_option maxRecDepth 20000
namespace Go.Proofs.YtnchgjpdggembaaGreat
open Go Go.Eng
theorem mtch_feas {r : Rul} {a b : List Mrk} : ∀ (d i : Nat) (now st : MSt), mtch r a b d i now st = st ∨ ∃ t, feasC r a b d i now.1 t ∧ mtch r a b d i now st = (now.1 ++ t, now.2 + sumP a b t) := by
  intro d
  induction d with
  | zero =>
    intro i now st
    rw [mtch]
    split
    · right; exact ⟨[], rfl, by simp [sumP]⟩
    · left; rfl
  | succ d ih =>
    intro i now st
    rw [mtch]
    have hf : ∀ s, s = (List.range b.length).foldl (fun st k => if okM r a b i now.1 k then mtch r a b d (i + 1) (now.1 ++ [⟨i, k⟩], now.2 + distM (a.getD i mk0) (b.getD k mk0)) st else st) st →
        s = st ∨ ∃ t, feasC r a b (d + 1) i now.1 t ∧ s = (now.1 ++ t, now.2 + sumP a b t) := by
      intro s hs
      subst hs
      refine foldl_inv (q := fun s => s = st ∨ ∃ t, feasC r a b (d + 1) i now.1 t ∧ s = (now.1 ++ t, now.2 + sumP a b t)) (fun s k hk hs => ?_) (.inl rfl)
      split
      · rename_i hok
        rcases ih (i + 1) (now.1 ++ [⟨i, k⟩], now.2 + distM (a.getD i mk0) (b.getD k mk0)) s with q | ⟨t, q1, q2⟩
        · rw [q]; exact hs
        · right
          refine ⟨⟨i, k⟩ :: t, .inr ⟨k, t, List.mem_range.1 hk, hok, rfl, q1⟩, ?_⟩
          rw [q2]
          simp only [sumP, Int.toNat_natCast, List.append_assoc, List.singleton_append, Int.add_assoc]
      · exact hs
    generalize hs : (List.range b.length).foldl _ st = s at *
    rcases ih (i + 1) now s with q | ⟨t, q1, q2⟩
    · rw [q]; exact hf s rfl
    · right; exact ⟨t, .inl q1, q2⟩
end Go.Proofs.YtnchgjpdggembaaGreat
set_option maxRecDepth 20000
namespace Go.Proofs.YtnchgjpdggembaaGreat
open Go Go.Eng
def stepM (r : Rul) (a b : List Mrk) (d i : Nat) (now st : MSt) (k : Nat) : MSt := if okM r a b i now.1 k then mtch r a b d (i + 1) (now.1 ++ [⟨i, k⟩], now.2 + distM (a.getD i mk0) (b.getD k mk0)) st else st
theorem mtch_succ (r : Rul) (a b : List Mrk) (d i : Nat) (now st : MSt) : mtch r a b (d + 1) i now st = mtch r a b d (i + 1) now ((List.range b.length).foldl (stepM r a b d i now) st) := rfl
def nowOk (i : Nat) (m : MSt) : Prop := m.1.length ≤ i ∧ 0 ≤ m.2 ∧ m.2 ≤ 50000000 * m.1.length
theorem nowOk_snoc {i k : Nat} {m : MSt} {x : Int} (h : nowOk i m) (h1 : 0 ≤ x) (h2 : x ≤ 50000000) : nowOk (i + 1) (m.1 ++ [⟨i, k⟩], m.2 + x) := by
  unfold nowOk at *
  simp only [List.length_append, List.length_singleton]
  omega
theorem nowOk_up {i : Nat} {m : MSt} (h : nowOk i m) : nowOk (i + 1) m := by unfold nowOk at *; omega
theorem foldM_len {r : Rul} {a b : List Mrk} {d i : Nat} {now st : MSt} {n : Nat} (h1 : now.1.length + d + 1 ≤ n) (h2 : st.1.length ≤ n) (l : List Nat) : (l.foldl (stepM r a b d i now) st).1.length ≤ n := by
  refine foldl_inv (q := fun s : MSt => s.1.length ≤ n) (fun s k _ hs => ?_) h2
  unfold stepM
  split
  · exact mtch_len _ _ _ _ n (by simp; omega) hs
  · exact hs
-- group
end Go.Proofs.YtnchgjpdggembaaGreat
set_option maxRecDepth 20000
namespace Go.Proofs.YtnchgjpdggembaaGreat
open Go Go.Eng
-- slices.CompareFunc of pairings, of an own row
theorem z281o (g : FuncId) (l m : List Prg) (hl : l.length ≤ 2^40) (hm : m.length ≤ 2^40)
    (hg : ∀ p q, FSpec Tryz.prog g [.agg ((prF p).map .d), .agg ((prF q).map .d)] [] (fun x r => x = .d (.int .i64 (cmpPr p q)) ∧ r = [])) :
    FSpec Tryz.prog 102 [.buf 1000001, .d (prgs m), .fn g []] [(1000001, prB l)] (fun x r => x = .d (.int .i64 (cmpPL l m)) ∧ r = [(1000001, prB l)]) := by
  refine spec_of hT (C := []) Tryz.func102 rfl Tryz.call102 rfl rfl rfl ?_
  conv => whnf
  refine LoopX.rule hT (C := []) (ι := Nat) (fun i => i ≤ l.length ∧ i ≤ m.length ∧ cmpPL l m = cmpPL (l.drop i) (m.drop i)) (fun i => mkSt [(0, .buf 1000001), (1, .d (prgs m)), (2, .fn g []), (11, .buf 1000001), (12, .d (.int .i64 l.length)), (13, .d (.int .i64 i))] [(1000001, prB l)]) (fun i => l.length - i) 0 ⟨by omega, by omega, by simp⟩ (by (refine Entails.mk' [(1000001, 1000001)] rfl rfl ?_ ?_ <;> repeat' (first | exact True.intro | exact SV.le_refl _ | exact Res.le_refl _ | exact SV.le_int (by omega) | exact SV.le_any _ | refine And.intro ?_ ?_)); done) ?_
  rintro i ⟨p1, p2, p3⟩
  have hd : i < l.length → l.drop i = l.getD i pr0 :: l.drop (i + 1) := fun hi => by rw [List.drop_eq_getElem_cons hi, List.getD_eq_getElem?_getD, List.getElem?_eq_getElem hi]; rfl
  have hd2 : i < m.length → m.drop i = m.getD i pr0 :: m.drop (i + 1) := fun hi => by rw [List.drop_eq_getElem_cons hi, List.getD_eq_getElem?_getD, List.getElem?_eq_getElem hi]; rfl
  have e1 : (i : Int).toNat = i := Int.toNat_natCast i
  conv => whnf
  repeat' (first
    | (refine CallX.exact (hg (l.getD (i : Int).toNat pr0) (m.getD (i : Int).toNat pr0)) rfl rfl ?_; rotate_right; conv => whnf)
    | (refine br_intro (fun hb => ?_) (fun hb => ?_) <;> (try simp only [decide_eq_true_eq, decide_eq_false_iff_not, Bool.not_eq_true', Bool.not_eq_false', Bool.and_eq_true, Bool.or_eq_true, beq_iff_eq, not_and, Int.not_le, Int.not_lt, Int.toNat_natCast, beq_eq_false_iff_ne, ne_eq, eq_self, not_true_eq_false, not_false_eq_true] at hb) <;> (conv => whnf))
    | omega
    | (refine And.intro ?_ ?_; ((try dsimp only); first | omega | (refine ⟨by omega, by omega, Int.le_trans (Int.mul_le_mul_of_nonneg_right (Int.ofNat_le.2 (Nat.le_of_ble_eq_true (rfl : Nat.ble _ 1024 = true))) (by omega)) (by omega), by omega⟩) | (refine Nat.le_trans (Nat.mul_le_mul_left _ (Nat.le_of_ble_eq_true (rfl : Nat.ble _ 1024 = true))) ?_; omega) | (unfold inI64; omega) | (constructor <;> omega) | (simp only [inI64, List.length_cons, List.length_append, List.length_nil, List.length_set] at *; omega) | decide | (unfold inI64; decide)); conv => whnf)
    | omega | decide | assumption)
  · refine .ret _ ?_
    conv => whnf
    refine ⟨_, ⟨?_, rfl⟩, Res.le_refl _, trivial⟩
    conv => lhs; whnf
    congr 2
    rw [p3, hd (by omega), List.drop_eq_nil_iff.2 (by omega : m.length ≤ i)]; rfl
  · refine .ret _ ?_
    conv => whnf
    refine ⟨_, ⟨?_, rfl⟩, Res.le_refl _, trivial⟩
    conv => lhs; whnf
    congr 2
    rw [p3, hd (by omega), hd2 (by omega), cmpPL, if_pos (by simpa using hb)]; simp only [e1]
  · refine ⟨i + 1, ⟨by omega, by omega, ?_⟩, by omega, (by (refine Entails.mk' [(1000001, 1000001)] rfl rfl ?_ ?_ <;> repeat' (first | exact True.intro | exact SV.le_refl _ | exact Res.le_refl _ | exact SV.le_int (by omega) | exact SV.le_any _ | refine And.intro ?_ ?_)); done)⟩
    rw [p3, hd (by omega), hd2 (by omega), cmpPL, if_neg (by simpa using hb)]
  · refine .ret _ ?_
    conv => whnf
    refine ⟨_, ⟨?_, rfl⟩, Res.le_refl _, trivial⟩
    conv => lhs; whnf
    congr 2
    have hm : i < m.length := by omega
    rw [p3, hd2 hm, List.drop_eq_nil_iff.2 (by omega : l.length ≤ i)]; rfl
  · refine .ret _ ?_
    conv => whnf
    refine ⟨_, ⟨?_, rfl⟩, Res.le_refl _, trivial⟩
    conv => lhs; whnf
    congr 2
    rw [p3, List.drop_eq_nil_iff.2 (by omega : m.length ≤ i), List.drop_eq_nil_iff.2 (by omega : l.length ≤ i)]; rfl
def usedL (n : Nat) (l : List Prg) : List Bool := (List.range n).map (usedM l)
theorem usedL_len (n : Nat) (l : List Prg) : (usedL n l).length = n := by simp [usedL]
theorem usedL_get {n k : Nat} (l : List Prg) (h : k < n) : (usedL n l).getD k false = usedM l k := by
  rw [List.getD_eq_getElem?_getD]; simp [usedL, h]
theorem usedM_snoc (l : List Prg) (i k j : Nat) : usedM (l ++ [⟨i, k⟩]) j = (usedM l j || decide (k = j)) := by
  unfold usedM
  rw [List.any_append]
  congr 1
  rw [Bool.eq_iff_iff]
  simp
  omega
theorem usedL_snoc {n i k : Nat} {l : List Prg} (h : k < n) : (usedL n l).set k true = usedL n (l ++ [⟨i, k⟩]) := by
  apply List.ext_getElem
  · simp [usedL]
  intro j h1 h2
  rw [List.getElem_set]
  have e : (usedL n (l ++ [⟨i, k⟩]))[j] = usedM (l ++ [⟨i, k⟩]) j := by simp [usedL]
  rw [e, usedM_snoc]
  split
  · rename_i q; simp [q]
  · rename_i q; simp [usedL, q]
theorem usedL_back {n i k : Nat} {l : List Prg} (h : k < n) (hu : usedM l k = false) : (usedL n (l ++ [⟨i, k⟩])).set k false = usedL n l := by
  apply List.ext_getElem
  · simp [usedL]
  intro j h1 h2
  rw [List.getElem_set]
  have e : (usedL n l)[j] = usedM l j := by simp [usedL]
  rw [e]
  split
  · rename_i q; rw [← q, hu]
  · rename_i q
    have e2 : (usedL n (l ++ [⟨i, k⟩]))[j]'(by simpa [usedL] using h1) = usedM (l ++ [⟨i, k⟩]) j := by simp [usedL]
    rw [e2, usedM_snoc]; simp [q]
abbrev mtX (r : Rul) (a b : List Mrk) (fr to : Nat) (now : SV) (st : MSt) (sum : Int) (f : Bool) : Res :=
  .cells 103 [.d (.int .i64 r.near), .d (.int .i64 r.slack), .d (.int .i64 r.join), .d (.int .i64 r.part), .d (mrks a), .d (mrks b), .d (.int .i64 fr), .d (.int .i64 to), .buf 1000001, now, .d (prgs st.1), .d (.int .i64 sum), .d (.int .i64 st.2), .d (.bool f)]
abbrev mtR (r : Rul) (a b : List Mrk) (fr to : Nat) (nm : Nat) (now st : MSt) (f : Bool) : List (Nat × Res) :=
  [(1000000, mtX r a b fr to (.buf nm) st now.2 f), (nm, prB now.1), (1000001, seqB 4 1 bF false (usedL b.length now.1))]
theorem cmp_beats (m o : MSt) : firstE [cmpI o.1.length m.1.length, cmpI m.2 o.2, cmpPL m.1 o.1] < 0 ↔ beatsM m o = true := by
  unfold beatsM
  simp only [firstE, cmpI]
  grind
def fOk (f : Bool) (st : MSt) : Prop := f = false → st = ([], 0)
theorem mtch_leaf {r : Rul} {a b : List Mrk} {i : Nat} {now st : MSt} {f : Bool} (hf : fOk f st) (hn : now.1 = [] → now.2 = 0) : mtch r a b 0 i now st = if f = false ∨ beatsM now st = true then now else st := by
  rw [mtch]
  by_cases q : beatsM now st = true
  · rw [if_pos q, if_pos (.inr q)]
  · rw [if_neg q]
    by_cases q2 : f = false
    · rw [if_pos (.inl q2)]
      have h0 := hf q2
      subst h0
      have h1 : now.1 = [] := by
        by_cases e : now.1.length = 0
        · exact List.eq_nil_of_length_eq_zero e
        · exfalso; apply q; unfold beatsM; rw [if_pos (by simpa using e)]; simp; omega
      have h2 := hn h1
      cases now
      simp only at h1 h2
      rw [h1, h2]
    · rw [if_neg (by intro h; rcases h with h | h; exact q2 h; exact q h)]
-- look, at the leaves
set_option maxHeartbeats 4000000 in
theorem z233z (r : Rul) (a b : List Mrk) (fr to : Nat) (now st : MSt) (f : Bool) (hto : to ≤ 60) (hf : fOk f st) (hn : now.1 = [] → now.2 = 0) (hl : now.1.length ≤ to) (hst : st.1.length ≤ 60) :
    FSpec Tryz.prog 59 [.ptr 1000000 0, .d (.int .i64 to)] (mtR r a b fr to 1000002 now st f) (fun y r' => y = .tup [] ∧ ∃ nm, (nm = 1000002 ∨ nm = 60) ∧ r' = mtR r a b fr to nm now (mtch r a b 0 to now st) true) := by
  have hlf := mtch_leaf (r := r) (a := a) (b := b) (i := to) hf hn
  have h281 := z281o 103 now.1 st.1 (by omega) (by omega) (fun p q => z283 p q)
  have h196 := s182 [cmpI st.1.length now.1.length, cmpI now.2 st.2, cmpPL now.1 st.1] (by simp)
  have hcb := cmp_beats now st
  cases f
  all_goals
    refine spec_of hT (C := []) Tryz.func59 rfl Tryz.call59 rfl rfl rfl ?_
    conv => whnf
    repeat' (first
      | (refine CallX.exact (s183 _ _) rfl rfl ?_; rotate_right; conv => whnf)
      | (refine CallX.of h281 [(1000001, 1000002)] rfl ⟨SV.le_refl _, SV.le_refl _, SV.le_refl _, trivial⟩ ⟨Res.le_refl _, trivial⟩ rfl rfl ?_; rintro x rout ⟨rfl, rfl⟩; refine ⟨rfl, ?_⟩; conv => whnf)
      | (refine CallX.pure h196 ⟨SV.le_lit (by rfl) (by rfl), trivial⟩ rfl ?_; conv => whnf)
      | (refine CallX.of (z231 now.1 (by omega)) [(1000001, 1000002)] rfl ⟨SV.le_refl _, trivial⟩ ⟨Res.le_refl _, trivial⟩ rfl rfl ?_; rintro x rout ⟨rfl, rfl⟩; refine ⟨rfl, ?_⟩; conv => whnf)
      | (refine br_intro (fun hb => ?_) (fun hb => ?_) <;> (try simp only [decide_eq_true_eq, decide_eq_false_iff_not, Bool.not_eq_true', Bool.not_eq_false', Bool.and_eq_true, Bool.or_eq_true, beq_iff_eq, not_and, Int.not_le, Int.not_lt, Int.toNat_natCast, beq_eq_false_iff_ne, ne_eq, eq_self, not_true_eq_false, not_false_eq_true] at hb) <;> (conv => whnf))
      | (refine RegX.rule (id := 0) hT rfl [] [(0, []), (1, []), (2, []), (3, []), (4, []), (5, []), (6, []), (7, []), (8, []), (9, []), (10, [5, 6, 7, 8, 9]), (11, [5, 6, 7, 8, 9]), (12, [5, 6, 7, 8, 9]), (13, [5, 6, 7, 8, 9]), (14, []), (15, [5, 6, 7, 8, 9, 10, 11, 12, 13, 14]), (16, []), (17, [5, 6, 7, 8, 9, 10, 11, 12, 13, 14, 15, 16]), (18, [5, 6, 7, 8, 9, 10, 11, 12, 13, 14, 15, 16]), (19, [5, 6, 7, 8, 9, 10, 11, 12, 13, 14, 15, 16]), (20, [5, 6, 7, 8, 9, 10, 11, 12, 13, 14, 15, 16]), (21, [5, 6, 7, 8, 9, 10, 11, 12, 13, 14, 15, 16]), (22, []), (23, [])] (by decide +kernel) ?_; conv => whnf)
      | (refine RegX.rule (id := 2) hT rfl [] [(0, []), (1, []), (2, []), (3, []), (4, []), (5, [0, 1, 2, 3, 4]), (6, [0, 1, 2, 3, 4]), (7, [0, 1, 2, 3, 4]), (8, [0, 1, 2, 3, 4]), (9, [0, 1, 2, 3, 4]), (11, [0, 1, 2, 3, 4, 5, 6, 7, 8, 9]), (12, [0, 1, 2, 3, 4, 5, 6, 7, 8, 9]), (13, [0, 1, 2, 3, 4, 5, 6, 7, 8, 9]), (14, [0, 1, 2, 3, 4, 5, 6, 7, 8, 9]), (15, [0, 1, 2, 3, 4, 5, 6, 7, 8, 9, 11, 12, 13, 14]), (16, [0, 1, 2, 3, 4, 5, 6, 7, 8, 9, 11, 12, 13, 14]), (17, [0, 1, 2, 3, 4, 5, 6, 7, 8, 9, 11, 12, 13, 14]), (18, [0, 1, 2, 3, 4, 5, 6, 7, 8, 9, 11, 12, 13, 14]), (20, [0, 1, 2, 3, 4, 5, 6, 7, 8, 9, 11, 12, 13, 14, 15, 16, 17, 18]), (21, [0, 1, 2, 3, 4, 5, 6, 7, 8, 9, 11, 12, 13, 14, 15, 16, 17, 18]), (22, [0, 1, 2, 3, 4, 5, 6, 7, 8, 9, 11, 12, 13, 14, 15, 16, 17, 18]), (23, [0, 1, 2, 3, 4, 5, 6, 7, 8, 9, 11, 12, 13, 14, 15, 16, 17, 18]), (24, [0, 1, 2, 3, 4, 5, 6, 7, 8, 9, 11, 12, 13, 14, 15, 16, 17, 18, 20, 21, 22, 23]), (25, [0, 1, 2, 3, 4, 5, 6, 7, 8, 9, 11, 12, 13, 14, 15, 16, 17, 18, 20, 21, 22, 23]), (26, [0, 1, 2, 3, 4, 5, 6, 7, 8, 9, 11, 12, 13, 14, 15, 16, 17, 18, 20, 21, 22, 23]), (27, [0, 1, 2, 3, 4, 5, 6, 7, 8, 9, 11, 12, 13, 14, 15, 16, 17, 18, 20, 21, 22, 23]), (10, [11, 12, 13, 14, 15, 16, 17, 18, 20, 21, 22, 23, 24, 25, 26, 27]), (19, [20, 21, 22, 23, 24, 25, 26, 27]), (28, []), (29, []), (30, []), (31, [])] (by decide +kernel) ?_; conv => whnf)
      | (refine RegX.rule (id := 4) hT rfl [] [(0, []), (1, [0]), (2, [0, 1]), (3, [0, 1, 2]), (4, [0, 1, 2]), (5, [0, 1, 2]), (6, [0, 1, 2]), (8, [0, 1, 2, 3, 4, 5, 6]), (9, [0, 1, 2, 3, 4, 5, 6]), (10, [0, 1, 2, 3, 4, 5, 6]), (11, [0, 1, 2, 3, 4, 5, 6]), (7, [0, 1, 2, 8, 9, 10, 11]), (12, [1, 2]), (13, [1, 2]), (14, [1, 2]), (15, [2]), (16, [2]), (17, [2]), (18, []), (19, []), (20, [])] (by decide +kernel) ?_; conv => whnf)
      | (refine RegX.rule (id := 8) hT rfl [] [(0, []), (1, []), (2, []), (3, []), (4, [0, 1, 2, 3]), (5, []), (6, []), (7, []), (8, []), (9, []), (10, []), (11, []), (12, [8, 9, 10, 11]), (13, [8, 9, 10, 11]), (14, [8, 9, 10, 11]), (15, [8, 9, 10, 11]), (16, [8, 9, 10, 11, 12, 13, 14, 15]), (17, [8, 9, 10, 11]), (18, [8, 9, 10, 11]), (19, [8, 9, 10, 11, 12, 13, 14, 15, 16, 17, 18]), (20, []), (21, []), (22, [])] (by decide +kernel) ?_; conv => whnf)
      | (refine RegX.rule (id := 9) hT rfl [] [(0, []), (1, []), (2, []), (3, []), (4, [0, 1, 2, 3]), (5, []), (6, []), (7, [0, 1, 2, 3, 4, 5, 6]), (8, []), (9, [])] (by decide +kernel) ?_; conv => whnf)
      | (refine RegX.rule (id := 10) hT rfl [] [(0, []), (1, []), (2, []), (3, []), (4, [0, 1, 2, 3]), (5, [0, 1, 2, 3, 4]), (6, [0, 1, 2, 3, 4, 5]), (7, [0, 1, 2, 3, 4, 5, 6]), (8, [0, 1, 2, 3, 4, 5, 6]), (9, [0, 1, 2, 3, 4, 5, 6]), (10, [0, 1, 2, 3, 4, 5, 6]), (11, [0, 1, 2, 3, 4, 5, 6, 7, 8, 9, 10]), (12, [0, 1, 2, 3, 4, 5, 6]), (13, [0, 1, 2, 3, 4, 5, 6, 7, 8, 9, 10, 11, 12]), (14, [0, 1, 2, 3, 4, 5, 6, 7, 8, 9, 10, 11, 12]), (15, [0, 1, 2, 3, 4, 5, 6, 7, 8, 9, 10, 11, 12]), (16, [0, 1, 2, 3, 4, 5, 6, 7, 8, 9, 10, 11, 12]), (17, [0, 1, 2, 3, 4, 5, 6, 7, 8, 9, 10, 11, 12, 13, 14, 15, 16]), (18, [0, 1, 2, 3, 4, 5, 6, 7, 8, 9, 10, 11, 12, 13, 14, 15, 16, 17]), (19, [0, 1, 2, 3, 4, 5, 6, 7, 8, 9, 10, 11, 12, 13, 14, 15, 16]), (20, [0, 1, 2, 3, 4, 5, 6, 7, 8, 9, 10, 11, 12, 13, 14, 15, 16]), (21, [0, 1, 2, 3, 4, 5, 6, 7, 8, 9, 10, 11, 12]), (22, [5, 6, 11, 12]), (23, [5, 6, 11, 12]), (24, [6]), (25, [6]), (26, [6]), (27, []), (28, []), (29, [])] (by decide +kernel) ?_; conv => whnf)
      | (refine RegX.rule (id := 12) hT rfl [] [(0, []), (1, []), (2, []), (3, []), (4, [0, 1, 2, 3]), (5, [0, 1, 2, 3, 4]), (6, [0, 1, 2, 3, 4, 5]), (7, [0, 1, 2, 3, 4, 5, 6]), (8, [0, 1, 2, 3, 4, 5, 6]), (9, [0, 1, 2, 3, 4, 5, 6]), (10, [0, 1, 2, 3, 4, 5, 6]), (11, [0, 1, 2, 3, 4, 5, 6, 7, 8, 9, 10]), (12, [0, 1, 2, 3, 4, 5, 6]), (13, [0, 1, 2, 3, 4, 5, 6, 7, 8, 9, 10, 11, 12]), (14, [0, 1, 2, 3, 4, 5, 6, 7, 8, 9, 10, 11, 12]), (15, [0, 1, 2, 3, 4, 5, 6, 7, 8, 9, 10, 11, 12]), (16, [0, 1, 2, 3, 4, 5, 6, 7, 8, 9, 10, 11, 12]), (17, [0, 1, 2, 3, 4, 5, 6, 7, 8, 9, 10, 11, 12, 13, 14, 15, 16]), (18, [0, 1, 2, 3, 4, 5, 6, 7, 8, 9, 10, 11, 12, 13, 14, 15, 16]), (19, [0, 1, 2, 3, 4, 5, 6, 7, 8, 9, 10, 11, 12, 13, 14, 15, 16]), (20, [0, 1, 2, 3, 4, 5, 6, 7, 8, 9, 10, 11, 12, 13, 14, 15, 16]), (21, [0, 1, 2, 3, 4, 5, 6, 7, 8, 9, 10, 11, 12, 13, 14, 15, 16]), (22, [0, 1, 2, 3, 4, 5, 6, 7, 8, 9, 10, 11, 12, 13, 14, 15, 16]), (23, [0, 1, 2, 3, 4, 5, 6, 7, 8, 9, 10, 11, 12]), (24, [5, 6, 11, 12, 21, 22, 23]), (25, [5, 6, 11, 12, 21, 22, 23]), (26, [6, 21, 22, 23]), (27, [6, 21, 22, 23]), (28, [6, 21, 22, 23]), (29, []), (30, []), (31, [])] (by decide +kernel) ?_; conv => whnf)
      | omega
      | (refine And.intro ?_ ?_; ((try dsimp only); first | omega | (refine ⟨by omega, by omega, Int.le_trans (Int.mul_le_mul_of_nonneg_right (Int.ofNat_le.2 (Nat.le_of_ble_eq_true (rfl : Nat.ble _ 1024 = true))) (by omega)) (by omega), by omega⟩) | (refine Nat.le_trans (Nat.mul_le_mul_left _ (Nat.le_of_ble_eq_true (rfl : Nat.ble _ 1024 = true))) ?_; omega) | (unfold inI64; omega) | (constructor <;> omega) | (simp only [inI64, List.length_cons, List.length_append, List.length_nil, List.length_set] at *; omega) | decide | (unfold inI64; decide)); conv => whnf)
      | omega | decide | assumption)
  all_goals
    refine .ret _ ?_
    (conv => whnf)
    first
      | (rw [show mtch r a b 0 to now st = st from mtch_prune 0 to now st (by omega)]
         exact ⟨_, ⟨rfl, 1000002, .inl rfl, rfl⟩, Res.le_refl _, Res.le_refl _, Res.le_refl _, trivial⟩)
      | (rw [hlf, if_pos (.inl rfl)]
         exact ⟨_, ⟨rfl, 1000002, .inl rfl, rfl⟩, Res.le_refl _, Res.le_refl _, Res.le_refl _, trivial⟩)
      | (rw [hlf, if_pos (.inr (hcb.1 (by assumption)))]
         exact ⟨_, ⟨rfl, 1000002, .inl rfl, rfl⟩, Res.le_refl _, Res.le_refl _, Res.le_refl _, trivial⟩)
      | (rw [hlf, if_neg (by intro h; rcases h with h | h; cases h; have := hcb.2 h; omega)]
         exact ⟨_, ⟨rfl, 1000002, .inl rfl, rfl⟩, Res.le_refl _, Res.le_refl _, Res.le_refl _, trivial⟩)
end Go.Proofs.YtnchgjpdggembaaGreat
