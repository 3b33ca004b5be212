/- RoundsCost is proved: for every input the law returns true, and its argument reads afterwards as it read before. Conditions: those of the given row alone. -/
import Derived.Test.YtnkdlkgannnfhaaGreatDoorRcEngTwo
import Derived.Test.YtnkdlkgannnfhaaGreatDoorProg
import Derived.Shelf.Strings.SlTrimAscii
import Derived.Shelf.Small.Strs
set_option linter.unusedVariables false
set_option linter.unusedSimpArgs false
set_option maxRecDepth 20000
namespace Go.Proofs.YtnkdlkgannnfhaaGreatDoor
open Go Go.Eng
/-- The structs that are compared. -/
def eqTab : List Nat := [51, 56, 66, 85, 133, 171, 198, 246, 248, 290]
theorem eqTab_ok : eqTab.all (eqFits Tryz.prog) = true := by decide +kernel
noncomputable def T : Tab := tiOf Tryz.prog (mem eqTab)
theorem hT : TabOk Tryz.prog T := ⟨mem eqTab, fun _ _ h => h, fun t ht => List.all_eq_true.1 eqTab_ok t ((mem_iff _ _).1 ht)⟩
abbrev i64 (n : Int) : DV := .int .i64 n
def strm (n : Nat) (L : Nat → Int) (at' : Int) : Res := .cells 25 [.d (.ro 1 n fun i => [.int .i64 (L i)]), .d (.int .i64 at')]
def Rok (n : Nat) (L : Nat → Int) : Prop := n ≤ maxLen ∧ ∀ i, -2^63 ≤ L i ∧ L i < 2^63
theorem s148 (x n : Int) (hn : n ≤ 2^40) : FSpec Tryz.prog 144 [.d (.int .i64 x), .d (.int .i64 n)] [] (fun y r => (∃ m : Int, 0 ≤ m ∧ (1 ≤ n → m < n) ∧ (n < 1 → m = 0) ∧ y = .d (.int .i64 m)) ∧ r = []) := by
  refine spec_of hT (C := []) Tryz.func144 rfl Tryz.call144 rfl rfl rfl ?_
  conv => whnf
  refine br_intro (fun h => ?_) (fun h => ?_)
  · conv => whnf
    refine .ret _ ?_
    conv => whnf
    refine ⟨[], ⟨⟨_, ?_, ?_, ?_, rfl⟩, rfl⟩, trivial⟩
    all_goals (simp at h; omega)
  · conv => whnf
    refine ⟨?_, ?_⟩
    · simp at h; omega
    conv => whnf
    simp at h
    have h1 := Int.tmod_lt_of_pos x (b := n) (by omega)
    have h2 := Int.lt_tmod_of_pos x (b := n) (by omega)
    refine br_intro (fun h2 => ?_) (fun h2 => ?_)
    · conv => whnf
      simp at h2
      refine ⟨?_, ?_⟩
      · unfold inI64; omega
      · conv => whnf
        refine .ret _ ?_
        conv => whnf
        refine ⟨[], ⟨⟨_, ?_, ?_, ?_, rfl⟩, rfl⟩, trivial⟩
        all_goals omega
    · conv => whnf
      simp at h2
      refine .ret _ ?_
      conv => whnf
      refine ⟨[], ⟨⟨_, ?_, ?_, ?_, rfl⟩, rfl⟩, trivial⟩
      all_goals omega
theorem nextB {a n : Int} (h0 : 0 ≤ a) (hn : 1 ≤ n) : 0 ≤ a.tdiv n ∧ a.tdiv n ≤ a ∧ 0 ≤ a.tmod n ∧ a.tmod n < n ∧ 0 ≤ a.tdiv n * a.tmod n ∧ a.tdiv n * a.tmod n ≤ a ∧ a.tmod n ≤ a := by
  have h1 : 0 ≤ a.tdiv n := Int.tdiv_nonneg h0 (by omega)
  have h2 : 0 ≤ a.tmod n := Int.tmod_nonneg _ h0
  have h3 : a.tmod n < n := Int.tmod_lt_of_pos _ (by omega)
  have h4 := Int.tmod_add_mul_tdiv a n
  have h5 : a.tdiv n * 1 ≤ a.tdiv n * n := Int.mul_le_mul_of_nonneg_left hn h1
  have h6 : a.tdiv n * a.tmod n ≤ a.tdiv n * n := Int.mul_le_mul_of_nonneg_left (by omega) h1
  have h7 : 0 ≤ a.tdiv n * a.tmod n := Int.mul_nonneg h1 h2
  rw [Int.mul_comm] at h4
  have h8 : 0 ≤ a.tdiv n * n := Int.mul_nonneg h1 (by omega)
  refine ⟨h1, ?_, h2, h3, h7, ?_, ?_⟩ <;> omega
theorem s86 (n : Nat) (L : Nat → Int) (hL : Rok n L) (a : Int) (h0 : 0 ≤ a) (ha : a ≤ 2^40) (m : Int) (hm : m ≤ 2^40) :
    FSpec Tryz.prog 49 [.ptr 1000000 0, .d (.int .i64 m)] [(1000000, strm n L a)] (fun y r => (∃ j : Int, 0 ≤ j ∧ (1 ≤ m → j < m) ∧ (m < 1 → j = 0) ∧ y = .d (.int .i64 j)) ∧ r = [(1000000, strm n L (a + 1))]) := by
  refine spec_of hT (C := []) Tryz.func49 rfl Tryz.call49 rfl rfl rfl ?_
  conv => whnf
  refine ⟨by unfold inI64; omega, ?_⟩
  conv => whnf
  refine br_intro (fun h => ?_) (fun h => ?_)
  · conv => whnf
    refine ⟨by unfold inI64; omega, ?_⟩
    conv => whnf
    refine CallX.of (s148 _ _ hm) [] rfl ⟨SV.le_refl _, SV.le_refl _, trivial⟩ trivial rfl rfl ?_
    rintro x rout ⟨⟨j, j1, j2, j3, rfl⟩, rfl⟩
    refine ⟨rfl, ?_⟩
    conv => whnf
    refine .ret _ ?_
    conv => whnf
    exact ⟨[(1000000, strm n L (a + 1))], ⟨⟨_, j1, j2, j3, rfl⟩, rfl⟩, Res.le_refl _, trivial⟩
  · conv => whnf
    simp at h
    have hnp : (1:Int) ≤ n := by omega
    refine RegX.rule hT rfl [] [(0, []), (1, []), (2, []), (3, []), (4, []), (5, [0, 1, 2, 3, 4]), (6, [0, 1, 2, 3, 4]), (7, [0, 1, 2, 3, 4]), (8, [0, 1, 2, 3, 4]), (9, [0, 1, 2, 3, 4]), (10, []), (11, [])] (by decide +kernel) ?_
    conv => whnf
    refine ⟨by unfold inI64; omega, ?_⟩
    conv => whnf
    refine ⟨by omega, ?_⟩
    conv => whnf
    have ea : a + 1 - 1 = a := by omega
    obtain ⟨b1, b2, b3, b4, b5, b6, b7⟩ := nextB h0 hnp
    refine RegX.rule hT rfl [] [(0, []), (1, []), (2, []), (3, []), (4, []), (5, [0, 1, 2, 3, 4]), (6, [0, 1, 2, 3, 4]), (7, [0, 1, 2, 3, 4]), (8, [0, 1, 2, 3, 4]), (9, [0, 1, 2, 3, 4]), (10, []), (11, [])] (by decide +kernel) ?_
    conv => whnf
    refine ⟨by unfold inI64; omega, ?_⟩
    conv => whnf
    refine ⟨by omega, ?_⟩
    conv => whnf
    refine ⟨by unfold inI64; rw [ea]; omega, ?_⟩
    conv => whnf
    rw [ea]
    refine ⟨⟨b3, b4⟩, ?_⟩
    conv => whnf
    refine CallX.of (s148 _ _ (by omega)) [] rfl ⟨SV.le_refl _, SV.le_refl _, trivial⟩ trivial rfl rfl ?_
    rintro x rout ⟨⟨j, j1, j2, j3, rfl⟩, rfl⟩
    refine ⟨rfl, ?_⟩
    conv => whnf
    refine ⟨by unfold inI64; omega, ?_⟩
    conv => whnf
    have e2 : a.tdiv n * (7919 + a.tmod n) = 7919 * a.tdiv n + a.tdiv n * a.tmod n := by rw [Int.mul_add, Int.mul_comm _ 7919]
    rw [e2]
    refine ⟨by unfold inI64; omega, ?_⟩
    conv => whnf
    refine ⟨by unfold inI64; omega, ?_⟩
    conv => whnf
    refine CallX.of (s148 _ _ hm) [] rfl ⟨SV.le_refl _, SV.le_refl _, trivial⟩ trivial rfl rfl ?_
    rintro x rout ⟨⟨j, k1, k2, k3, rfl⟩, rfl⟩
    refine ⟨rfl, ?_⟩
    conv => whnf
    refine .ret _ ?_
    conv => whnf
    exact ⟨[(1000000, strm n L (a + 1))], ⟨⟨_, k1, k2, k3, rfl⟩, rfl⟩, Res.le_refl _, trivial⟩
/-- What a maker leaves of the stream: it moved on by at most 'c'. -/
def Moved (n : Nat) (L : Nat → Int) (a : Int) (c : Int) (r : List (Nat × Res)) : Prop := ∃ b, a ≤ b ∧ b ≤ a + c ∧ r = [(1000000, strm n L b)]
-- Range
theorem s64 (n : Nat) (L : Nat → Int) (hL : Rok n L) (a : Int) (h0 : 0 ≤ a) (ha : a ≤ 2^40) (lo hi : Int) (h1 : -2^41 ≤ lo) (h2 : hi ≤ lo + 2^40 - 1) (h3 : lo ≤ 2^41) (h4 : lo ≤ hi) :
    FSpec Tryz.prog 30 [.ptr 1000000 0, .d (.int .i64 lo), .d (.int .i64 hi)] [(1000000, strm n L a)] (fun y r => (∃ j : Int, lo ≤ j ∧ j ≤ hi ∧ y = .d (.int .i64 j)) ∧ Moved n L a 1 r) := by
  refine spec_of hT (C := []) Tryz.func30 rfl Tryz.call30 rfl rfl rfl ?_
  conv => whnf
  refine br_intro (fun h => ?_) (fun h => ?_)
  · simp at h; omega
  conv => whnf
  refine ⟨by unfold inI64; omega, ?_⟩
  conv => whnf
  refine ⟨by unfold inI64; omega, ?_⟩
  conv => whnf
  refine CallX.of (s86 n L hL a h0 ha _ (by omega)) [(1000000, 1000000)] rfl ⟨SV.le_refl _, SV.le_refl _, trivial⟩ ⟨Res.le_refl _, trivial⟩ rfl rfl ?_
  rintro x rout ⟨⟨j, k1, k2, k3, rfl⟩, rfl⟩
  refine ⟨rfl, ?_⟩
  conv => whnf
  refine ⟨by unfold inI64; omega, ?_⟩
  conv => whnf
  refine .ret _ ?_
  conv => whnf
  exact ⟨[(1000000, strm n L (a + 1))], ⟨⟨_, by omega, by omega, rfl⟩, a + 1, by omega, by omega, rfl⟩, Res.le_refl _, trivial⟩
-- Flip
theorem s84 (n : Nat) (L : Nat → Int) (hL : Rok n L) (a : Int) (h0 : 0 ≤ a) (ha : a ≤ 2^40) (m : Int) (hm : m ≤ 2^40) :
    FSpec Tryz.prog 40 [.ptr 1000000 0, .d (.int .i64 m)] [(1000000, strm n L a)] (fun y r => (∃ b : Bool, y = .d (.bool b)) ∧ Moved n L a 1 r) := by
  refine spec_of hT (C := []) Tryz.func40 rfl Tryz.call40 rfl rfl rfl ?_
  conv => whnf
  refine CallX.of (s86 n L hL a h0 ha _ (by omega)) [(1000000, 1000000)] rfl ⟨SV.le_refl _, SV.le_refl _, trivial⟩ ⟨Res.le_refl _, trivial⟩ rfl rfl ?_
  rintro x rout ⟨⟨j, k1, k2, k3, rfl⟩, rfl⟩
  refine ⟨rfl, ?_⟩
  conv => whnf
  refine .ret _ ?_
  conv => whnf
  exact ⟨[(1000000, strm n L (a + 1))], ⟨⟨_, rfl⟩, a + 1, by omega, by omega, rfl⟩, Res.le_refl _, trivial⟩
-- Pick
theorem s33 (n : Nat) (L : Nat → Int) (hL : Rok n L) (a : Int) (h0 : 0 ≤ a) (ha : a ≤ 2^40) (l : List Int) (hl : 1 ≤ l.length) (hl2 : l.length ≤ 2^40) :
    FSpec Tryz.prog 48 [.ptr 1000000 0, .d (ints l)] [(1000000, strm n L a)] (fun y r => (∃ x ∈ l, y = .d (.int .i64 x)) ∧ Moved n L a 1 r) := by
  refine spec_of hT (C := []) Tryz.func48 rfl Tryz.call48 rfl rfl rfl ?_
  conv => whnf
  refine CallX.of (s86 n L hL a h0 ha l.length (by omega)) [(1000000, 1000000)] rfl ⟨SV.le_refl _, SV.le_refl _, trivial⟩ ⟨Res.le_refl _, trivial⟩ rfl rfl ?_
  rintro x rout ⟨⟨j, k1, k2, k3, rfl⟩, rfl⟩
  refine ⟨rfl, ?_⟩
  conv => whnf
  refine ⟨⟨k1, by omega⟩, ?_⟩
  conv => whnf
  refine .ret _ ?_
  conv => whnf
  exact ⟨[(1000000, strm n L (a + 1))], ⟨⟨_, getD_mem (by omega), rfl⟩, a + 1, by omega, by omega, rfl⟩, Res.le_refl _, trivial⟩
-- Some
theorem s15 (n : Nat) (L : Nat → Int) (hL : Rok n L) (a : Int) (h0 : 0 ≤ a) (ha : a ≤ 2^40) (l : List (List UInt8)) (hl : 1 ≤ l.length) (hl2 : l.length ≤ 2^40) :
    FSpec Tryz.prog 39 [.ptr 1000000 0, .d (strs l)] [(1000000, strm n L a)] (fun y r => (∃ x ∈ l, y = .d (.str x)) ∧ Moved n L a 1 r) := by
  refine spec_of hT (C := []) Tryz.func39 rfl Tryz.call39 rfl rfl rfl ?_
  conv => whnf
  refine CallX.of (s86 n L hL a h0 ha l.length (by omega)) [(1000000, 1000000)] rfl ⟨SV.le_refl _, SV.le_refl _, trivial⟩ ⟨Res.le_refl _, trivial⟩ rfl rfl ?_
  rintro x rout ⟨⟨j, k1, k2, k3, rfl⟩, rfl⟩
  refine ⟨rfl, ?_⟩
  conv => whnf
  refine ⟨⟨k1, by omega⟩, ?_⟩
  conv => whnf
  refine .ret _ ?_
  conv => whnf
  exact ⟨[(1000000, strm n L (a + 1))], ⟨⟨_, getD_mem (by omega), rfl⟩, a + 1, by omega, by omega, rfl⟩, Res.le_refl _, trivial⟩
theorem Moved.trans {n : Nat} {L : Nat → Int} {a c : Int} {r : List (Nat × Res)} {b d : Int} (h1 : a ≤ b) (h2 : b + d ≤ a + c) (h : Moved n L b d r) : Moved n L a c r := by
  obtain ⟨e, q1, q2, rfl⟩ := h
  exact ⟨e, by omega, by omega, rfl⟩
-- Odd
theorem s104 (n : Nat) (L : Nat → Int) (hL : Rok n L) (a : Int) (h0 : 0 ≤ a) (ha : a ≤ 2^39) (lo hi : Int) (h1 : -2^38 ≤ lo) (h2 : lo ≤ hi) (h3 : hi ≤ 2^39) :
    FSpec Tryz.prog 89 [.ptr 1000000 0, .d (.int .i64 lo), .d (.int .i64 hi)] [(1000000, strm n L a)] (fun y r => (∃ j : Int, -2^40 ≤ j ∧ j ≤ 2^40 ∧ y = .d (.int .i64 j)) ∧ Moved n L a 2 r) := by
  refine spec_of hT (C := []) Tryz.func89 rfl Tryz.call89 rfl rfl rfl ?_
  conv => whnf
  refine CallX.of (s84 n L hL a h0 (by omega) 12 (by omega)) [(1000000, 1000000)] rfl ⟨SV.le_refl _, SV.le_refl _, trivial⟩ ⟨Res.le_refl _, trivial⟩ rfl rfl ?_
  rintro x rout ⟨⟨f, rfl⟩, ⟨b, b1, b2, rfl⟩⟩
  refine ⟨rfl, ?_⟩
  conv => whnf
  refine br_intro (fun hf => ?_) (fun hf => ?_)
  · conv => whnf
    refine ⟨by unfold inI64; omega, ?_⟩
    conv => whnf
    refine ⟨by unfold inI64; omega, ?_⟩
    conv => whnf
    refine CallX.of (s33 n L hL b (by omega) (by omega) [lo - 1, hi + 1, lo, hi, -1099511627776, 1099511627776] (by simp) (by simp)) [(1000000, 1000000)] rfl ⟨SV.le_refl _, SV.le_lit (by rfl) (by rfl), trivial⟩ ⟨Res.le_refl _, trivial⟩ rfl rfl ?_
    rintro x rout ⟨⟨j, hj, rfl⟩, ⟨c, c1, c2, rfl⟩⟩
    refine ⟨rfl, ?_⟩
    conv => whnf
    refine .ret _ ?_
    conv => whnf
    exact ⟨[(1000000, strm n L c)], ⟨⟨j, by simp at hj; omega, by simp at hj; omega, rfl⟩, c, by omega, by omega, rfl⟩, Res.le_refl _, trivial⟩
  · conv => whnf
    refine CallX.of (s64 n L hL b (by omega) (by omega) lo hi (by omega) (by omega) (by omega) h2) [(1000000, 1000000)] rfl ⟨SV.le_refl _, SV.le_refl _, SV.le_refl _, trivial⟩ ⟨Res.le_refl _, trivial⟩ rfl rfl ?_
    rintro x rout ⟨⟨j, j1, j2, rfl⟩, ⟨c, c1, c2, rfl⟩⟩
    refine ⟨rfl, ?_⟩
    conv => whnf
    refine .ret _ ?_
    conv => whnf
    exact ⟨[(1000000, strm n L c)], ⟨⟨j, by omega, by omega, rfl⟩, c, by omega, by omega, rfl⟩, Res.le_refl _, trivial⟩
end Go.Proofs.YtnkdlkgannnfhaaGreatDoor
set_option maxRecDepth 20000
namespace Go.Proofs.YtnkdlkgannnfhaaGreatDoor
open Go Go.Eng
-- word.In
theorem s119 (n lo hi : Int) : FSpec Tryz.prog 110 [.d (.int .i64 n), .d (.int .i64 lo), .d (.int .i64 hi)] [] (fun x r => x = .d (.bool (decide (lo ≤ n ∧ n ≤ hi))) ∧ r = []) := by
  refine spec_of hT (C := []) Tryz.func110 rfl Tryz.call110 rfl rfl rfl ?_
  conv => whnf
  refine br_intro (fun h => ?_) (fun h => ?_)
  · conv => whnf
    refine .ret _ ?_
    conv => whnf
    refine ⟨[], ⟨?_, rfl⟩, trivial⟩
    conv => lhs; whnf
    simp at h ⊢; simp [h]
  · conv => whnf
    refine .ret _ ?_
    conv => whnf
    refine ⟨[], ⟨?_, rfl⟩, trivial⟩
    conv => lhs; whnf
    simp at h ⊢; omega
-- rentref2.in
theorem s109 (n lo hi : Int) : FSpec Tryz.prog 107 [.d (.int .i64 n), .d (.int .i64 lo), .d (.int .i64 hi)] [] (fun x r => x = .d (.bool (decide (lo ≤ n ∧ n ≤ hi))) ∧ r = []) := by
  refine spec_of hT (C := []) Tryz.func107 rfl Tryz.call107 rfl rfl rfl ?_
  conv => whnf
  refine br_intro (fun h => ?_) (fun h => ?_)
  · conv => whnf
    refine .ret _ ?_
    conv => whnf
    refine ⟨[], ⟨?_, rfl⟩, trivial⟩
    conv => lhs; whnf
    simp at h ⊢; simp [h]
  · conv => whnf
    refine .ret _ ?_
    conv => whnf
    refine ⟨[], ⟨?_, rfl⟩, trivial⟩
    conv => lhs; whnf
    simp at h ⊢; omega
-- word.When
theorem s107 (b : Bool) (e : Int) : FSpec Tryz.prog 121 [.d (.bool b), .d (.int .i64 e)] [] (fun x r => x = .d (.int .i64 (if b then e else 0)) ∧ r = []) := by
  refine spec_of hT (C := []) Tryz.func121 rfl Tryz.call121 rfl rfl rfl ?_
  conv => whnf
  refine br_intro (fun h => ?_) (fun h => ?_)
  · conv => whnf
    refine .ret _ ?_
    conv => whnf
    refine ⟨[], ⟨?_, rfl⟩, trivial⟩
    conv => lhs; whnf
    simp [h]
  · conv => whnf
    refine .ret _ ?_
    conv => whnf
    refine ⟨[], ⟨?_, rfl⟩, trivial⟩
    conv => lhs; whnf
    simp [h]
theorem getD_toNat {α : Type} {l : List α} {i : Nat} {d : α} (h : i < l.length) : l.getD (i : Int).toNat d = l[i] := by
  rw [Int.toNat_natCast, List.getD_eq_getElem?_getD]; simp [h]
/-- The first error of some. -/
def firstE : List Int → Int
  | [] => 0
  | x :: l => if x = 0 then firstE l else x
-- cmp.Or
theorem s161 (l : List Int) (hl : l.length ≤ 2^40) : FSpec Tryz.prog 206 [.d (ints l)] [] (fun x r => x = .d (.int .i64 (firstE l)) ∧ r = []) := by
  refine spec_of hT (C := []) Tryz.func206 rfl Tryz.call206 rfl rfl rfl ?_
  conv => whnf
  refine LoopX.rule hT (C := []) (ι := Nat) (fun i => i ≤ l.length ∧ firstE l = firstE (l.drop i)) (fun i => mkSt [(3, .d (.int .i64 0)), (6, .d (ints l)), (7, .d (.int .i64 l.length)), (8, .d (.int .i64 i))] []) (fun i => l.length - i) 0 ⟨by omega, by simp⟩ ?_ ?_
  · refine Entails.mk' [] rfl rfl ⟨SV.le_refl _, SV.le_refl _, SV.le_refl _, SV.le_refl _, trivial⟩ trivial
  rintro i ⟨p1, p2⟩
  conv => whnf
  refine br_intro (fun h => ?_) (fun h => ?_)
  · simp only [decide_eq_true_eq] at h
    conv => whnf
    refine ⟨⟨by omega, by omega⟩, ?_⟩
    conv => whnf
    have hi : i < l.length := by omega
    have hd : l.drop i = l[i] :: l.drop (i + 1) := List.drop_eq_getElem_cons hi
    refine br_intro (fun h2 => ?_) (fun h2 => ?_)
    · conv => whnf
      refine .ret _ ?_
      conv => whnf
      refine ⟨[], ⟨?_, rfl⟩, trivial⟩
      conv => lhs; whnf
      rw [getD_toNat hi] at h2 ⊢
      simp at h2
      rw [p2, hd, firstE, if_neg h2]
    · conv => whnf
      rw [getD_toNat hi] at h2
      simp at h2
      refine ⟨by unfold inI64; omega, ?_⟩
      conv => whnf
      refine ⟨i + 1, ⟨hi, ?_⟩, by omega, ?_⟩
      · rw [p2, hd, firstE, if_pos h2]
      · exact Entails.mk' [] rfl rfl ⟨SV.le_refl _, SV.le_refl _, SV.le_refl _, SV.le_refl _, trivial⟩ trivial
  · simp only [decide_eq_false_iff_not] at h
    conv => whnf
    refine .ret _ ?_
    conv => whnf
    refine ⟨[], ⟨?_, rfl⟩, trivial⟩
    conv => lhs; whnf
    rw [p2, List.drop_eq_nil_iff.2 (by omega)]; rfl
-- word.First
theorem s105 (l : List Int) (hl : l.length ≤ 2^40) : FSpec Tryz.prog 115 [.d (ints l)] [] (fun x r => x = .d (.int .i64 (firstE l)) ∧ r = []) := by
  refine spec_of hT (C := []) Tryz.func115 rfl Tryz.call115 rfl rfl rfl ?_
  conv => whnf
  refine CallX.pure (s161 l hl) ⟨SV.le_refl _, trivial⟩ rfl ?_
  conv => whnf
  refine .ret _ ?_
  conv => whnf
  exact ⟨[], ⟨rfl, rfl⟩, trivial⟩
-- slices.Equal of numbers
theorem s37 (l m : List Int) (hl : l.length ≤ 2^40) (hm : m.length ≤ 2^40) : FSpec Tryz.prog 45 [.d (ints l), .d (ints m)] [] (fun x r => x = .d (.bool (decide (l = m))) ∧ r = []) := by
  refine spec_of hT (C := []) Tryz.func45 rfl Tryz.call45 rfl rfl rfl ?_
  conv => whnf
  refine br_intro (fun h0 => ?_) (fun h0 => ?_)
  · simp at h0
    conv => whnf
    refine .ret _ ?_
    conv => whnf
    refine ⟨[], ⟨?_, rfl⟩, trivial⟩
    conv => lhs; whnf
    have : l ≠ m := fun e => h0 (by rw [e])
    simp [this]
  simp at h0
  have hlen : l.length = m.length := by omega
  conv => whnf
  refine LoopX.rule hT (C := []) (ι := Nat) (fun i => i ≤ l.length ∧ l.take i = m.take i) (fun i => mkSt [(0, .d (ints l)), (1, .d (ints m)), (12, .d (.int .i64 l.length)), (13, .d (.int .i64 i))] []) (fun i => l.length - i) 0 ⟨by omega, by simp⟩ ?_ ?_
  · refine Entails.mk' [] rfl rfl ⟨SV.le_refl _, SV.le_refl _, SV.le_refl _, SV.le_refl _, trivial⟩ trivial
  rintro i ⟨p1, p2⟩
  conv => whnf
  refine br_intro (fun h => ?_) (fun h => ?_)
  · simp only [decide_eq_true_eq] at h
    have hi : i < l.length := by omega
    have hi2 : i < m.length := by omega
    conv => whnf
    refine RegX.rule hT rfl [] [(0, []), (1, [0]), (2, []), (3, []), (4, [0, 1, 2, 3]), (5, [0, 1, 2, 3, 4]), (6, [0, 1, 2, 3]), (7, [0, 1, 2, 3]), (8, [])] (by decide +kernel) ?_
    conv => whnf
    refine ⟨⟨by omega, by omega⟩, ?_⟩
    conv => whnf
    refine ⟨⟨by omega, by omega⟩, ?_⟩
    conv => whnf
    refine br_intro (fun h2 => ?_) (fun h2 => ?_)
    · conv => whnf
      refine .ret _ ?_
      conv => whnf
      refine ⟨[], ⟨?_, rfl⟩, trivial⟩
      conv => lhs; whnf
      rw [getD_toNat hi, getD_toNat hi2] at h2
      simp at h2
      have : l ≠ m := fun e => h2 (by subst e; rfl)
      simp [this]
    · conv => whnf
      rw [getD_toNat hi, getD_toNat hi2] at h2
      simp at h2
      refine ⟨by unfold inI64; omega, ?_⟩
      conv => whnf
      refine ⟨i + 1, ⟨hi, ?_⟩, by omega, ?_⟩
      · rw [← List.take_append_getElem hi, ← List.take_append_getElem hi2, p2, h2]
      · exact Entails.mk' [] rfl rfl ⟨SV.le_refl _, SV.le_refl _, SV.le_refl _, SV.le_refl _, trivial⟩ trivial
  · simp only [decide_eq_false_iff_not] at h
    conv => whnf
    refine .ret _ ?_
    conv => whnf
    refine ⟨[], ⟨?_, rfl⟩, trivial⟩
    conv => lhs; whnf
    have e1 : i = l.length := by omega
    have : l = m := by
      subst e1
      rw [List.take_length, hlen, List.take_length] at p2
      exact p2
    simp [this]
-- rentref2.SplitFault
end Go.Proofs.YtnkdlkgannnfhaaGreatDoor
set_option maxRecDepth 20000
namespace Go.Proofs.YtnkdlkgannnfhaaGreatDoor
open Go Go.Eng
def keyCh (i : Nat) (c : UInt8) : Bool := (decide (97 ≤ c.toNat) && decide (c.toNat ≤ 122)) || (!decide (i = 0) && ((decide (48 ≤ c.toNat) && decide (c.toNat ≤ 57)) || decide (c.toNat = 45) || decide (c.toNat = 95)))
def isKeyB (s : List UInt8) : Bool := (List.range s.length).all (fun i => keyCh i (s.getD i 0)) && !s.isEmpty && decide (s.length ≤ 40)
theorem keyCh_iff {i : Nat} {c : UInt8} : keyCh i c = true ↔ ((97 ≤ (c.toNat : Int) ∧ (c.toNat : Int) ≤ 122) ∨ ((i : Int) ≠ 0 ∧ ((48 ≤ (c.toNat : Int) ∧ (c.toNat : Int) ≤ 57) ∨ (c.toNat : Int) = 45 ∨ (c.toNat : Int) = 95))) := by
  simp only [keyCh, Bool.or_eq_true, Bool.and_eq_true, decide_eq_true_eq, Bool.not_eq_true', decide_eq_false_iff_not]
  omega
-- word.IsKey
theorem s108 (s : List UInt8) (hl : s.length ≤ 2^40) : FSpec Tryz.prog 109 [.d (.str s)] [] (fun x r => x = .d (.bool (isKeyB s)) ∧ r = []) := by
  refine spec_of hT (C := []) Tryz.func109 rfl Tryz.call109 rfl rfl rfl ?_
  conv => whnf
  refine LoopX.rule hT (C := []) (ι := Nat) (fun i => i ≤ s.length ∧ ∀ j, j < i → keyCh j (s.getD j 0) = true) (fun i => mkSt [(0, .d (.str s)), (7, .d (.int .i64 s.length)), (8, .d (.int .i64 i))] []) (fun i => s.length - i) 0 ⟨by omega, by omega⟩ ?_ ?_
  · exact Entails.mk' [] rfl rfl ⟨SV.le_refl _, SV.le_refl _, SV.le_refl _, trivial⟩ trivial
  rintro i ⟨p1, p2⟩
  conv => whnf
  refine br_intro (fun h => ?_) (fun h => ?_)
  · simp only [decide_eq_true_eq] at h
    have hi : i < s.length := by omega
    have e1 : (i : Int).toNat = i := Int.toNat_natCast i
    conv => whnf
    repeat (refine And.intro (by (try unfold inI64); (try dsimp only); (try simp only [e1, List.length_cons, List.length_append, List.length_singleton, List.length_nil]); omega) ?_; conv => whnf)
    have hbad : keyCh i (s.getD i 0) = false → isKeyB s = false := fun h => by
      have : (List.range s.length).all (fun i => keyCh i (s.getD i 0)) = false := by
        rw [List.all_eq_false]; exact ⟨i, List.mem_range.2 hi, by rw [h]; simp⟩
      simp only [isKeyB, this, Bool.false_and]
    have hgood : keyCh i (s.getD i 0) = true → ∀ j, j < i + 1 → keyCh j (s.getD j 0) = true := fun h j hj => by
      rcases Nat.lt_or_ge j i with q | q
      · exact p2 j q
      · have : j = i := by omega
        subst this; exact h
    repeat' (refine br_intro (fun _ => ?_) (fun _ => ?_) <;> (conv => whnf))
    all_goals first
      | (refine And.intro (by unfold inI64; omega) ?_
         conv => whnf
         refine ⟨i + 1, ⟨hi, hgood ?_⟩, by omega, Entails.mk' [] rfl rfl ⟨SV.le_refl _, SV.le_refl _, SV.le_refl _, trivial⟩ trivial⟩
         rw [keyCh_iff]
         simp only [decide_eq_true_eq, decide_eq_false_iff_not, Bool.not_eq_true', Bool.not_eq_false', e1] at *
         omega)
      | (refine .ret _ ?_
         conv => whnf
         refine ⟨[], ⟨?_, rfl⟩, trivial⟩
         conv => lhs; whnf
         rw [hbad]
         cases hq : keyCh i (s.getD i 0) with
         | false => rfl
         | true =>
           rw [keyCh_iff] at hq
           simp only [decide_eq_true_eq, decide_eq_false_iff_not, Bool.not_eq_true', Bool.not_eq_false', e1] at *
           omega)
      | skip
  simp only [decide_eq_false_iff_not] at h
  have e1 : i = s.length := by omega
  subst e1
  have hall : (List.range s.length).all (fun i => keyCh i (s.getD i 0)) = true := by
    rw [List.all_eq_true]; intro j hj; exact p2 j (List.mem_range.1 hj)
  conv => whnf
  repeat' (refine br_intro (fun _ => ?_) (fun _ => ?_) <;> (conv => whnf))
  all_goals (refine .ret _ ?_; conv => whnf)
  all_goals (refine ⟨[], ⟨?_, rfl⟩, trivial⟩; conv => lhs; whnf)
  · rename_i hq
    have : s.isEmpty = false := by
      cases s with
      | nil => exact absurd hq (by decide)
      | cons x l => rfl
    unfold isKeyB
    rw [hall, this]
    simp
    omega
  · rename_i hq
    have : s.isEmpty = true := by
      cases s with
      | nil => rfl
      | cons x l => exact absurd hq (by simp)
    unfold isKeyB
    rw [hall, this]
    rfl
end Go.Proofs.YtnkdlkgannnfhaaGreatDoor
set_option maxRecDepth 20000
namespace Go.Proofs.YtnkdlkgannnfhaaGreatDoor
open Go Go.Eng
def strLe (a b : List UInt8) : Bool := Op.bytesLess a b || a == b
def firstAt (f : Nat → Int) : Nat → Int
  | 0 => 0
  | n + 1 => if firstAt f n = 0 then f n else firstAt f n
theorem firstAt_zero {f : Nat → Int} : ∀ {n : Nat}, (∀ j, j < n → f j = 0) → firstAt f n = 0 := by
  intro n
  induction n with
  | zero => intro _; rfl
  | succ n ih => intro h; rw [firstAt, if_pos (ih fun j hj => h j (by omega))]; exact h n (by omega)
theorem firstAt_eq {f : Nat → Int} {n i : Nat} {e : Int} (hi : i < n) (h : ∀ j, j < i → f j = 0) (h1 : e ≠ 0) (h2 : f i = e) : firstAt f n = e := by
  induction n with
  | zero => omega
  | succ n ih =>
    rw [firstAt]
    by_cases q : i < n
    · rw [ih q, if_neg h1]
    · have : i = n := by omega
      subst this
      rw [if_pos (firstAt_zero h)]; exact h2
end Go.Proofs.YtnkdlkgannnfhaaGreatDoor
namespace Go.Proofs
open Go.Shelf
def Tryz.lays160_ren : Go.Shelf.Ren := ⟨fun | 160 => 227 | 232 => 274 | 231 => 273 | 227 => 275 | 234 => 277 | 233 => 276 | 236 => 279 | 235 => 278 | 228 => 316 | 271 => 319 | 151 => 318 | 197 => 317 | 120 => 340 | 152 => 339 | 260 => 338 | 137 => 348 | 119 => 349 | 224 => 350 | 225 => 351 | 217 => 353 | 266 => 354 | n => n, fun | 9 => 9 | 4 => 4 | 3 => 3 | 5 => 5 | 117 => 338 | 116 => 337 | 0 => 0 | 124 => 341 | 21 => 21 | 105 => 370 | 46 => 266 | 119 => 389 | 139 => 392 | 138 => 391 | n => n, fun | 3 => 1 | 4 => 2 | n => n⟩
theorem Tryz.lays160 : Go.Proofs.Lays.n160 Tryz.prog Tryz.lays160_ren := {
  mixed := by kernel_rfl
  f119 := Tryz.func349.trans (congrArg some (by kernel_rfl))
  f120 := Tryz.func340.trans (congrArg some (by kernel_rfl))
  f137 := Tryz.func348.trans (congrArg some (by kernel_rfl))
  f151 := Tryz.func318.trans (congrArg some (by kernel_rfl))
  f152 := Tryz.func339.trans (congrArg some (by kernel_rfl))
  f160 := Tryz.func227.trans (congrArg some (by kernel_rfl))
  f197 := Tryz.func317.trans (congrArg some (by kernel_rfl))
  f217 := Tryz.func353.trans (congrArg some (by kernel_rfl))
  f224 := Tryz.func350.trans (congrArg some (by kernel_rfl))
  f225 := Tryz.func351.trans (congrArg some (by kernel_rfl))
  f227 := Tryz.func275.trans (congrArg some (by kernel_rfl))
  f228 := Tryz.func316.trans (congrArg some (by kernel_rfl))
  f231 := Tryz.func273.trans (congrArg some (by kernel_rfl))
  f232 := Tryz.func274.trans (congrArg some (by kernel_rfl))
  f233 := Tryz.func276.trans (congrArg some (by kernel_rfl))
  f234 := Tryz.func277.trans (congrArg some (by kernel_rfl))
  f235 := Tryz.func278.trans (congrArg some (by kernel_rfl))
  f236 := Tryz.func279.trans (congrArg some (by kernel_rfl))
  f260 := Tryz.func338.trans (congrArg some (by kernel_rfl))
  f266 := Tryz.func354.trans (congrArg some (by kernel_rfl))
  f271 := Tryz.func319.trans (congrArg some (by kernel_rfl))
  t0 := Tryz.underlying0
  a0 := Tryz.isAgg0
  z0 := Tryz.sizeOf0
  v0 := Tryz.zeroValue0
  t3 := Tryz.underlying3
  a3 := Tryz.isAgg3
  z3 := Tryz.sizeOf3
  v3 := Tryz.zeroValue3
  t4 := Tryz.underlying4
  a4 := Tryz.isAgg4
  z4 := Tryz.sizeOf4
  v4 := Tryz.zeroValue4
  t5 := Tryz.underlying5
  a5 := Tryz.isAgg5
  z5 := Tryz.sizeOf5
  v5 := Tryz.zeroValue5
  t9 := Tryz.underlying9
  a9 := Tryz.isAgg9
  z9 := Tryz.sizeOf9
  v9 := Tryz.zeroValue9
  t21 := Tryz.underlying21
  a21 := Tryz.isAgg21
  z21 := Tryz.sizeOf21
  v21 := Tryz.zeroValue21
  t46 := Tryz.underlying266
  a46 := Tryz.isAgg266
  z46 := Tryz.sizeOf266
  v46 := Tryz.zeroValue266
  t105 := Tryz.underlying370
  a105 := Tryz.isAgg370
  z105 := Tryz.sizeOf370
  v105 := Tryz.zeroValue370
  t116 := Tryz.underlying337
  a116 := Tryz.isAgg337
  z116 := Tryz.sizeOf337
  t117 := Tryz.underlying338
  a117 := Tryz.isAgg338
  z117 := Tryz.sizeOf338
  v117 := Tryz.zeroValue338
  t119 := Tryz.underlying389
  a119 := Tryz.isAgg389
  z119 := Tryz.sizeOf389
  t124 := Tryz.underlying341
  a124 := Tryz.isAgg341
  z124 := Tryz.sizeOf341
  v124 := Tryz.zeroValue341
  t138 := Tryz.underlying391
  a138 := Tryz.isAgg391
  z138 := Tryz.sizeOf391
  v138 := Tryz.zeroValue391
  t139 := Tryz.underlying392
  a139 := Tryz.isAgg392
  z139 := Tryz.sizeOf392
  v139 := Tryz.zeroValue392
  g3 := by kernel_rfl
  g4 := by kernel_rfl }
end Go.Proofs
set_option maxRecDepth 20000
namespace Go.Proofs.YtnkdlkgannnfhaaGreatDoor
open Go Go.Eng Go.Shelf
-- strings.Trim at a constant ASCII set
theorem s162 (s cs : List UInt8) (hl : s.length ≤ 2^40) (hc : cs.length ≤ 2^20) (ha : cs.all (fun b => decide (b.toNat < 128)) = true) : FSpec Tryz.prog 227 [.d (.str s), .d (.str cs)] [] (fun x r => x = .d (.str (Lib.trimS s cs)) ∧ r = []) := by
  refine FSpec.ofBelow Tryz.call227 (fun G β w vs _ hvl hd => ?_)
  match vs, hvl with
  | [u, v], _ =>
    have h0 := hd 0 _ u rfl rfl
    have h1 := hd 1 _ v rfl rfl
    cases h0 with | d _ _ h0 => cases h0 with | str _ =>
    cases h1 with | d _ _ h1 => cases h1 with | str _ =>
    refine ⟨.string ⟨(Lib.trimS s cs).toArray⟩, fun _ _ => .d _ _ (.str _), ?_⟩
    have hcon := Any.strings_Trim_laid Tryz.lays160 (by kernel_rfl) ⟨s.toArray⟩ ⟨cs.toArray⟩ w (by simp [ByteArray.size]; omega) (by simp [ByteArray.size]; omega) (ascii_of_all (by simpa using ha))
    have e : Tryz.lays160_ren.f 160 = 227 := rfl
    rw [e] at hcon
    simpa using hcon
theorem dropWhile_nil {p : UInt8 → Bool} {l : List UInt8} : l.dropWhile p = [] ↔ ∀ b ∈ l, p b = true := by
  induction l with
  | nil => simp
  | cons a l ih => by_cases h : p a = true <;> simp [List.dropWhile_cons, h, ih]
theorem trimS_nil {s cs : List UInt8} : Lib.trimS s cs = [] ↔ ∀ b ∈ s, cs.contains b = true := by
  unfold Lib.trimS Lib.trimLeftS Lib.trimRightS
  rw [dropWhile_nil]
  constructor
  · intro h b hb
    have h1 : s.reverse.dropWhile (cs.contains ·) = [] ∨ ¬ s.reverse.dropWhile (cs.contains ·) = [] := Classical.em _
    rcases h1 with h1 | h1
    · exact dropWhile_nil.1 h1 b (by simpa using hb)
    · obtain ⟨c, m, hc⟩ := List.exists_cons_of_ne_nil h1
      have h3 : cs.contains c = false := by
        have := List.head_dropWhile_not (cs.contains ·) (l := s.reverse) h1
        simp only [hc, List.head_cons] at this
        exact this
      have h4 := h c (by rw [List.mem_reverse, hc]; exact List.mem_cons_self)
      rw [h3] at h4; cases h4
  · intro h b hb
    rw [List.mem_reverse] at hb
    exact h b (by simpa using (List.dropWhile_sublist _).subset hb)
def onlyB (s cs : List UInt8) : Bool := s.all (cs.contains ·)
-- R.only
theorem s111 (s cs : List UInt8) (hl : s.length ≤ 2^40) (hc : cs.length ≤ 2^20) (ha : cs.all (fun b => decide (b.toNat < 128)) = true) : FSpec Tryz.prog 137 [.d (.str s), .d (.str cs)] [] (fun x r => x = .d (.bool (onlyB s cs)) ∧ r = []) := by
  refine spec_of hT (C := []) Tryz.func137 rfl Tryz.call137 rfl rfl rfl ?_
  conv => whnf
  refine CallX.pure (s162 _ _ hl hc ha) ⟨SV.le_refl _, SV.le_refl _, trivial⟩ rfl ?_
  conv => whnf
  refine .ret _ ?_
  conv => whnf
  refine ⟨[], ⟨?_, rfl⟩, trivial⟩
  show SV.d (.bool (Lib.trimS s cs == [])) = _
  congr 2
  rw [Bool.eq_iff_iff]
  simp only [beq_iff_eq, trimS_nil, onlyB, List.all_eq_true]
-- R.in
theorem s110 (a b c : Int) : FSpec Tryz.prog 136 [.d (.int .i64 a), .d (.int .i64 b), .d (.int .i64 c)] [] (fun x r => x = .d (.bool (decide (b ≤ a ∧ a ≤ c))) ∧ r = []) := by
  refine spec_of hT (C := []) Tryz.func136 rfl Tryz.call136 rfl rfl rfl ?_
  conv => whnf
  repeat' (refine br_intro (fun _ => ?_) (fun _ => ?_) <;> (conv => whnf))
  all_goals
    refine .ret _ ?_
    conv => whnf
    refine ⟨[], ⟨?_, rfl⟩, trivial⟩
    conv => lhs; whnf
    congr 2
    grind
def smallsL : List UInt8 := [97, 98, 99, 100, 101, 102, 103, 104, 105, 106, 107, 108, 109, 110, 111, 112, 113, 114, 115, 116, 117, 118, 119, 120, 121, 122]
def keyL : List UInt8 := smallsL ++ [48, 49, 50, 51, 52, 53, 54, 55, 56, 57, 45, 95]
theorem u8_all {p : UInt8 → Bool} (h : (List.range 256).all (fun n => p (UInt8.ofNat n)) = true) (c : UInt8) : p c = true := by
  have := List.all_eq_true.1 h c.toNat (List.mem_range.2 c.toNat_lt)
  simpa using this
theorem small_iff (c : UInt8) : smallsL.contains c = keyCh 0 c := by
  have := u8_all (p := fun c => smallsL.contains c == keyCh 0 c) (by decide +kernel) c
  simpa using this
theorem key_iff (c : UInt8) : keyL.contains c = keyCh 1 c := by
  have := u8_all (p := fun c => keyL.contains c == keyCh 1 c) (by decide +kernel) c
  simpa using this
theorem keyCh_succ (i : Nat) (c : UInt8) : keyCh (i + 1) c = keyCh 1 c := by simp [keyCh]
theorem keyCh_one {c : UInt8} (h : keyCh 0 c = true) : keyCh 1 c = true := by
  simp only [keyCh] at h ⊢; simp at h; simp [h]
theorem isKey_eq (s : List UInt8) : isKeyB s = (decide (1 ≤ (s.length : Int) ∧ (s.length : Int) ≤ 40) && onlyB (s.take 1) smallsL && onlyB s keyL) := by
  cases s with
  | nil => rfl
  | cons c l =>
    have h1 : onlyB ((c :: l).take 1) smallsL = keyCh 0 c := by simp only [onlyB, List.take_succ_cons, List.take_zero, List.all_cons, List.all_nil, Bool.and_true, small_iff]
    have h2 : onlyB (c :: l) keyL = (keyCh 1 c && l.all (keyCh 1 ·)) := by simp only [onlyB, List.all_cons, key_iff]
    have h3 : (List.range (c :: l).length).all (fun i => keyCh i ((c :: l).getD i 0)) = (keyCh 0 c && l.all (keyCh 1 ·)) := by
      rw [List.length_cons, List.range_succ_eq_map, List.all_cons, List.all_map]
      congr 1
      rw [Bool.eq_iff_iff, List.all_eq_true, List.all_eq_true]
      constructor
      · intro h x hx
        obtain ⟨i, hi, rfl⟩ := List.getElem_of_mem hx
        have := h i (List.mem_range.2 hi)
        simp only [Function.comp, List.getD_cons_succ, keyCh_succ] at this
        rwa [List.getD_eq_getElem?_getD, List.getElem?_eq_getElem hi] at this
      · intro h i hi
        have hi := List.mem_range.1 hi
        simp only [Function.comp, List.getD_cons_succ, keyCh_succ]
        rw [List.getD_eq_getElem?_getD, List.getElem?_eq_getElem hi]
        exact h _ (List.getElem_mem hi)
    unfold isKeyB
    rw [h1, h2, h3, Bool.eq_iff_iff]
    simp only [Bool.and_eq_true, decide_eq_true_eq, Bool.not_eq_true', List.isEmpty_cons, List.length_cons]
    constructor
    · rintro ⟨⟨⟨a, b⟩, _⟩, d⟩; exact ⟨⟨⟨by omega, by omega⟩, a⟩, keyCh_one a, b⟩
    · rintro ⟨⟨⟨_, d⟩, a⟩, _, b⟩; exact ⟨⟨⟨a, b⟩, trivial⟩, by omega⟩
-- R.Key
theorem s21 (s : List UInt8) (hl : s.length ≤ 2^40) : FSpec Tryz.prog 43 [.d (.str s)] [] (fun x r => x = .d (.bool (isKeyB s)) ∧ r = []) := by
  refine spec_of hT (C := []) Tryz.func43 rfl Tryz.call43 rfl rfl rfl ?_
  conv => whnf
  repeat' (first
    | (refine CallX.exact (s110 _ _ _) rfl rfl ?_; rotate_right; conv => whnf)
    | (refine CallX.exact (s111 s keyL hl ?_ ?_) rfl rfl ?_; rotate_right; conv => whnf)
    | (refine CallX.exact (s111 _ smallsL ?_ ?_ ?_) rfl rfl ?_; rotate_right; conv => whnf)
    | (refine br_intro (fun hb => ?_) (fun hb => ?_) <;> (try simp only [decide_eq_true_eq, decide_eq_false_iff_not, Bool.not_eq_true', Bool.not_eq_false', Bool.and_eq_true, Bool.or_eq_true, beq_iff_eq, not_and, Int.not_le, Int.not_lt, Int.toNat_natCast, beq_eq_false_iff_ne, ne_eq, eq_self, not_true_eq_false, not_false_eq_true] at hb) <;> (conv => whnf))
    | omega
    | (refine And.intro ?_ ?_; ((try dsimp only); first | omega | (refine ⟨by omega, by omega, Int.le_trans (Int.mul_le_mul_of_nonneg_right (Int.ofNat_le.2 (Nat.le_of_ble_eq_true (rfl : Nat.ble _ 1024 = true))) (by omega)) (by omega), by omega⟩) | (refine Nat.le_trans (Nat.mul_le_mul_left _ (Nat.le_of_ble_eq_true (rfl : Nat.ble _ 1024 = true))) ?_; omega) | (unfold inI64; omega) | (constructor <;> omega) | (simp only [inI64, List.length_cons, List.length_append, List.length_nil, List.length_set] at *; omega) | decide | (unfold inI64; decide)); conv => whnf)
    | omega | decide | assumption)
  all_goals try (simp; omega)
  all_goals
    refine .ret _ ?_
    conv => whnf
    refine ⟨[], ⟨?_, rfl⟩, trivial⟩
    conv => lhs; whnf
    rw [isKey_eq]; congr 2; grind
end Go.Proofs.YtnkdlkgannnfhaaGreatDoor
set_option maxRecDepth 20000
namespace Go.Proofs.YtnkdlkgannnfhaaGreatDoor
open Go Go.Eng
theorem first_step {f : Nat → Int} {i : Nat} (p : ∀ j, j < i → f j = 0) (h : f i = 0) : ∀ j, j < i + 1 → f j = 0 := fun j hj => by
  rcases Nat.lt_or_ge j i with q | q
  · exact p j q
  · have : j = i := by omega
    subst this; exact h
theorem toNat_pred (i : Nat) : ((i : Int) - 1).toNat = i - 1 := by omega
end Go.Proofs.YtnkdlkgannnfhaaGreatDoor
set_option maxRecDepth 20000
namespace Go.Proofs.YtnkdlkgannnfhaaGreatDoor
open Go Go.Eng
theorem firstAt_all {f : Nat → Int} : ∀ {n : Nat}, firstAt f n = 0 → ∀ j, j < n → f j = 0 := by
  intro n
  induction n with
  | zero => intro _ j hj; omega
  | succ n ih =>
    intro h j hj
    rw [firstAt] at h
    split at h
    · rename_i q
      rcases Nat.lt_or_ge j n with r | r
      · exact ih q j r
      · have : j = n := by omega
        subst this; exact h
    · omega
end Go.Proofs.YtnkdlkgannnfhaaGreatDoor
set_option maxRecDepth 20000
namespace Go.Proofs.YtnkdlkgannnfhaaGreatDoor
open Go Go.Eng
-- Q.SharesFault
end Go.Proofs.YtnkdlkgannnfhaaGreatDoor
set_option maxRecDepth 20000
namespace Go.Proofs.YtnkdlkgannnfhaaGreatDoor
open Go Go.Eng
-- Q.ExcessOf
end Go.Proofs.YtnkdlkgannnfhaaGreatDoor
set_option maxRecDepth 20000
namespace Go.Proofs.YtnkdlkgannnfhaaGreatDoor
open Go Go.Eng
end Go.Proofs.YtnkdlkgannnfhaaGreatDoor
set_option maxRecDepth 20000
namespace Go.Proofs.YtnkdlkgannnfhaaGreatDoor
open Go Go.Eng
section
variable {α : Type} (cmp : α → α → Int)
end
end Go.Proofs.YtnkdlkgannnfhaaGreatDoor
set_option maxRecDepth 20000
namespace Go.Proofs.YtnkdlkgannnfhaaGreatDoor
open Go Go.Eng
end Go.Proofs.YtnkdlkgannnfhaaGreatDoor
set_option maxRecDepth 20000
namespace Go.Proofs.YtnkdlkgannnfhaaGreatDoor
open Go Go.Eng
end Go.Proofs.YtnkdlkgannnfhaaGreatDoor
set_option maxRecDepth 20000
namespace Go.Proofs.YtnkdlkgannnfhaaGreatDoor
open Go Go.Eng
end Go.Proofs.YtnkdlkgannnfhaaGreatDoor
set_option maxRecDepth 20000
namespace Go.Proofs.YtnkdlkgannnfhaaGreatDoor
open Go Go.Eng
-- flag
theorem s112 (b : Bool) : FSpec Tryz.prog 114 [.d (.bool b)] [] (fun x r => x = .d (.int .i64 (if b then 1 else 0)) ∧ r = []) := by
  refine spec_of hT (C := []) Tryz.func114 rfl Tryz.call114 rfl rfl rfl ?_
  conv => whnf
  refine br_intro (fun h => ?_) (fun h => ?_)
  · conv => whnf
    refine .ret _ ?_
    conv => whnf
    refine ⟨[], ⟨?_, rfl⟩, trivial⟩
    conv => lhs; whnf
    simp [h]
  · conv => whnf
    refine .ret _ ?_
    conv => whnf
    refine ⟨[], ⟨?_, rfl⟩, trivial⟩
    conv => lhs; whnf
    simp [h]
end Go.Proofs.YtnkdlkgannnfhaaGreatDoor
namespace Go.Proofs.YtnkdlkgannnfhaaGreatDoor
open Go Go.Eng
section
variable {α : Type} (cmp : α → α → Int)
variable (R : α → α → Prop) (tr : ∀ a b c, R a b → R b c → R a c)
include tr in
include tr in
end
end Go.Proofs.YtnkdlkgannnfhaaGreatDoor
namespace Go.Proofs.YtnkdlkgannnfhaaGreatDoor
open Go Go.Eng
end Go.Proofs.YtnkdlkgannnfhaaGreatDoor
set_option maxRecDepth 20000
namespace Go.Proofs.YtnkdlkgannnfhaaGreatDoor
open Go Go.Eng
theorem eq_of_getD {α : Type} {l m : List α} (d : α) (hl : l.length = m.length) (h : ∀ j, j < l.length → l.getD j d = m.getD j d) : l = m := by
  refine List.ext_getElem hl (fun i h1 h2 => ?_)
  have := h i h1
  rwa [List.getD_eq_getElem?_getD, List.getD_eq_getElem?_getD, List.getElem?_eq_getElem h1, List.getElem?_eq_getElem h2] at this
theorem all_step {p : Nat → Prop} {i : Nat} (h : ∀ j, j < i → p j) (h1 : p i) : ∀ j, j < i + 1 → p j := fun j hj => by
  rcases Nat.lt_or_ge j i with q | q
  · exact h j q
  · have : j = i := by omega
    subst this; exact h1
end Go.Proofs.YtnkdlkgannnfhaaGreatDoor
set_option maxRecDepth 20000
namespace Go.Proofs.YtnkdlkgannnfhaaGreatDoor
open Go Go.Eng
structure Gate where
  key : List UInt8
  area : List UInt8
  clock : Int
def g0 : Gate := ⟨[], [], 0⟩
structure Pas where
  tm : Int
  gate : List UInt8
  plate : List UInt8
  cents : Int
def paF : Pas → List DV := fun p => [.int .i64 p.tm, .str p.gate, .str p.plate, .int .i64 p.cents]
def pa0 : Pas := ⟨0, [], [], 0⟩
abbrev pass (l : List Pas) : DV := seqD 4 paF pa0 l
def cmpI (a b : Int) : Int := if a < b then -1 else if b < a then 1 else 0
def cmpS (a b : List UInt8) : Int := if Op.bytesLess a b = true then -1 else if Op.bytesLess b a = true then 1 else 0
-- cmp.Compare
theorem s210 (a : Int) : FSpec Tryz.prog 244 [.d (.int .i64 a)] [] (fun x r => x = .d (.bool false) ∧ r = []) := by
  refine spec_of hT (C := []) Tryz.func244 rfl Tryz.call244 rfl rfl rfl ?_
  conv => whnf
  refine .ret _ ?_
  conv => whnf
  refine ⟨[], ⟨?_, rfl⟩, trivial⟩
  conv => lhs; whnf
  simp
theorem s211 (a : List UInt8) : FSpec Tryz.prog 260 [.d (.str a)] [] (fun x r => x = .d (.bool false) ∧ r = []) := by
  refine spec_of hT (C := []) Tryz.func260 rfl Tryz.call260 rfl rfl rfl ?_
  conv => whnf
  refine .ret _ ?_
  conv => whnf
  refine ⟨[], ⟨?_, rfl⟩, trivial⟩
  conv => lhs; whnf
  simp
theorem s183 (a b : Int) : FSpec Tryz.prog 197 [.d (.int .i64 a), .d (.int .i64 b)] [] (fun x r => x = .d (.int .i64 (cmpI a b)) ∧ r = []) := by
  refine spec_of hT (C := []) Tryz.func197 rfl Tryz.call197 rfl rfl rfl ?_
  conv => whnf
  repeat' (first
    | (refine CallX.exact (s210 _) rfl rfl ?_; rotate_right; conv => whnf)
    | (refine br_intro (fun hb => ?_) (fun hb => ?_) <;> (try simp only [decide_eq_true_eq, decide_eq_false_iff_not, Bool.not_eq_true', Bool.not_eq_false', Bool.and_eq_true, Bool.or_eq_true, beq_iff_eq, not_and, Int.not_le, Int.not_lt, Int.toNat_natCast, beq_eq_false_iff_ne, ne_eq, eq_self, not_true_eq_false, not_false_eq_true] at hb) <;> (conv => whnf))
    | omega
    | (refine And.intro ?_ ?_; ((try dsimp only); first | omega | (refine ⟨by omega, by omega, Int.le_trans (Int.mul_le_mul_of_nonneg_right (Int.ofNat_le.2 (Nat.le_of_ble_eq_true (rfl : Nat.ble _ 1024 = true))) (by omega)) (by omega), by omega⟩) | (refine Nat.le_trans (Nat.mul_le_mul_left _ (Nat.le_of_ble_eq_true (rfl : Nat.ble _ 1024 = true))) ?_; omega) | (unfold inI64; omega) | (constructor <;> omega) | (simp only [inI64, List.length_cons, List.length_append, List.length_nil, List.length_set] at *; omega) | decide | (unfold inI64; decide)); conv => whnf)
    | omega | decide | assumption)
  all_goals
    refine .ret _ ?_
    conv => whnf
    refine ⟨[], ⟨?_, rfl⟩, trivial⟩
    conv => lhs; whnf
    congr 2; unfold cmpI; grind
theorem less_tri : ∀ (a b : List UInt8), Op.bytesLess a b = false → a ≠ b → Op.bytesLess b a = true := by
  intro a
  induction a with
  | nil => intro b h hn; cases b with
    | nil => exact absurd rfl hn
    | cons y ys => simp [Op.bytesLess] at h
  | cons x xs ih =>
    intro b h hn
    cases b with
    | nil => simp [Op.bytesLess]
    | cons y ys =>
      simp only [Op.bytesLess] at h ⊢
      grind
theorem s184 (a b : List UInt8) : FSpec Tryz.prog 205 [.d (.str a), .d (.str b)] [] (fun x r => x = .d (.int .i64 (cmpS a b)) ∧ r = []) := by
  refine spec_of hT (C := []) Tryz.func205 rfl Tryz.call205 rfl rfl rfl ?_
  conv => whnf
  repeat' (first
    | (refine CallX.exact (s211 _) rfl rfl ?_; rotate_right; conv => whnf)
    | (refine br_intro (fun hb => ?_) (fun hb => ?_) <;> (try simp only [decide_eq_true_eq, decide_eq_false_iff_not, Bool.not_eq_true', Bool.not_eq_false', Bool.and_eq_true, Bool.or_eq_true, beq_iff_eq, not_and, Int.not_le, Int.not_lt, Int.toNat_natCast, beq_eq_false_iff_ne, ne_eq, eq_self, not_true_eq_false, not_false_eq_true] at hb) <;> (conv => whnf))
    | omega
    | (refine And.intro ?_ ?_; ((try dsimp only); first | omega | (refine ⟨by omega, by omega, Int.le_trans (Int.mul_le_mul_of_nonneg_right (Int.ofNat_le.2 (Nat.le_of_ble_eq_true (rfl : Nat.ble _ 1024 = true))) (by omega)) (by omega), by omega⟩) | (refine Nat.le_trans (Nat.mul_le_mul_left _ (Nat.le_of_ble_eq_true (rfl : Nat.ble _ 1024 = true))) ?_; omega) | (unfold inI64; omega) | (constructor <;> omega) | (simp only [inI64, List.length_cons, List.length_append, List.length_nil, List.length_set] at *; omega) | decide | (unfold inI64; decide)); conv => whnf)
    | omega | decide | assumption)
  all_goals
    refine .ret _ ?_
    conv => whnf
    refine ⟨[], ⟨?_, rfl⟩, trivial⟩
    conv => lhs; whnf
    congr 2; unfold cmpS; grind [less_tri]
-- cmp.Or of numbers
theorem s182 (l : List Int) (hl : l.length ≤ 2^40) : FSpec Tryz.prog 196 [.d (ints l)] [] (fun x r => x = .d (.int .i64 (firstE l)) ∧ r = []) := by
  refine spec_of hT (C := []) Tryz.func196 rfl Tryz.call196 rfl rfl rfl ?_
  conv => whnf
  refine LoopX.rule hT (C := []) (ι := Nat) (fun i => i ≤ l.length ∧ firstE l = firstE (l.drop i)) (fun i => mkSt [(3, .d (.int .i64 0)), (6, .d (ints l)), (7, .d (.int .i64 l.length)), (8, .d (.int .i64 i))] []) (fun i => l.length - i) 0 ⟨by omega, by simp⟩ (by refine Entails.mk' [] rfl rfl ?_ ?_ <;> repeat' (first | exact True.intro | exact SV.le_refl _ | exact Res.le_refl _ | exact SV.le_int (by omega) | exact SV.le_any _ | refine And.intro ?_ ?_)) ?_
  rintro i ⟨p1, p2⟩
  have hd : i < l.length → l.drop i = l.getD i 0 :: l.drop (i + 1) := fun hi => by rw [List.drop_eq_getElem_cons hi, List.getD_eq_getElem?_getD, List.getElem?_eq_getElem hi]; rfl
  conv => whnf
  repeat' (first
    | (refine br_intro (fun hb => ?_) (fun hb => ?_) <;> (try simp only [decide_eq_true_eq, decide_eq_false_iff_not, Bool.not_eq_true', Bool.not_eq_false', Bool.and_eq_true, Bool.or_eq_true, beq_iff_eq, not_and, Int.not_le, Int.not_lt, Int.toNat_natCast, beq_eq_false_iff_ne, ne_eq, eq_self, not_true_eq_false, not_false_eq_true] at hb) <;> (conv => whnf))
    | omega
    | (refine And.intro ?_ ?_; ((try dsimp only); first | omega | (refine ⟨by omega, by omega, Int.le_trans (Int.mul_le_mul_of_nonneg_right (Int.ofNat_le.2 (Nat.le_of_ble_eq_true (rfl : Nat.ble _ 1024 = true))) (by omega)) (by omega), by omega⟩) | (refine Nat.le_trans (Nat.mul_le_mul_left _ (Nat.le_of_ble_eq_true (rfl : Nat.ble _ 1024 = true))) ?_; omega) | (unfold inI64; omega) | (constructor <;> omega) | (simp only [inI64, List.length_cons, List.length_append, List.length_nil, List.length_set] at *; omega) | decide | (unfold inI64; decide)); conv => whnf)
    | omega | decide | assumption)
  · refine .ret _ ?_
    conv => whnf
    refine ⟨[], ⟨?_, rfl⟩, trivial⟩
    conv => lhs; whnf
    congr 2; rw [p2, hd (by omega), firstE, if_neg hb, Int.toNat_natCast]
  · exact ⟨i + 1, ⟨by omega, by rw [p2, hd (by omega), firstE, if_pos hb]⟩, by omega, (by refine Entails.mk' [] rfl rfl ?_ ?_ <;> repeat' (first | exact True.intro | exact SV.le_refl _ | exact Res.le_refl _ | exact SV.le_int (by omega) | exact SV.le_any _ | refine And.intro ?_ ?_))⟩
  · refine .ret _ ?_
    conv => whnf
    refine ⟨[], ⟨?_, rfl⟩, trivial⟩
    conv => lhs; whnf
    congr 2; rw [p2, List.drop_eq_nil_iff.2 (by omega)]; rfl
-- toll.order
end Go.Proofs.YtnkdlkgannnfhaaGreatDoor
set_option maxRecDepth 20000
namespace Go.Proofs.YtnkdlkgannnfhaaGreatDoor
open Go Go.Eng
/-- The first place at which something holds, or -1. -/
def ixF (p : Nat → Bool) : Nat → Int
  | 0 => -1
  | n + 1 => if ixF p n = -1 then (if p n = true then n else -1) else ixF p n
theorem ixF_none {p : Nat → Bool} : ∀ {n : Nat}, (∀ j, j < n → p j = false) → ixF p n = -1 := by
  intro n
  induction n with
  | zero => intro _; rfl
  | succ n ih => intro h; rw [ixF, if_pos (ih fun j hj => h j (by omega)), h n (by omega)]; rfl
theorem ixF_hit {p : Nat → Bool} {n i : Nat} (hi : i < n) (h : ∀ j, j < i → p j = false) (h1 : p i = true) : ixF p n = i := by
  induction n with
  | zero => omega
  | succ n ih =>
    rw [ixF]
    by_cases q : i < n
    · rw [ih q, if_neg (by omega)]
    · have : i = n := by omega
      subst this
      rw [if_pos (ixF_none h), if_pos h1]
theorem ixF_bd {p : Nat → Bool} : ∀ {n : Nat}, -1 ≤ ixF p n ∧ ixF p n < n ∧ (0 ≤ ixF p n → p (ixF p n).toNat = true) := by
  intro n
  induction n with
  | zero => simp [ixF]
  | succ n ih =>
    rw [ixF]
    split
    · split
      · rename_i h; exact ⟨by omega, by omega, fun _ => by simpa using h⟩
      · exact ⟨by omega, by omega, fun h => by omega⟩
    · exact ⟨ih.1, by omega, ih.2.2⟩
-- toll.formed
end Go.Proofs.YtnkdlkgannnfhaaGreatDoor
set_option maxRecDepth 20000
namespace Go.Proofs.YtnkdlkgannnfhaaGreatDoor
open Go Go.Eng
-- toll.Check
/- Doubles. -/
abbrev Seen := List UInt8 × List UInt8
def bF : Bool → List DV := fun b => [.bool b]
-- toll.doubles
end Go.Proofs.YtnkdlkgannnfhaaGreatDoor
set_option maxRecDepth 20000
namespace Go.Proofs.YtnkdlkgannnfhaaGreatDoor
open Go Go.Eng
-- tolled
end Go.Proofs.YtnkdlkgannnfhaaGreatDoor
set_option maxRecDepth 20000
namespace Go.Proofs.YtnkdlkgannnfhaaGreatDoor
open Go Go.Eng
structure Chg where
  hire : List UInt8
  vehicle : List UInt8
  pas : Int
  cents : Int
structure Lin where
  kind : Int
  key : List UInt8
  cents : Int
deriving DecidableEq
-- toll.Lines
-- Q.TollLines
end Go.Proofs.YtnkdlkgannnfhaaGreatDoor
set_option maxRecDepth 20000
namespace Go.Proofs.YtnkdlkgannnfhaaGreatDoor
open Go Go.Eng
-- slices.Equal of lines
-- when
theorem s20 (b : Bool) (e : Int) : FSpec Tryz.prog 42 [.d (.bool b), .d (.int .i64 e)] [] (fun x r => x = .d (.int .i64 (if b = true then e else 0)) ∧ r = []) := by
  refine spec_of hT (C := []) Tryz.func42 rfl Tryz.call42 rfl rfl rfl ?_
  conv => whnf
  repeat' (first
    | (refine br_intro (fun hb => ?_) (fun hb => ?_) <;> (try simp only [decide_eq_true_eq, decide_eq_false_iff_not, Bool.not_eq_true', Bool.not_eq_false', Bool.and_eq_true, Bool.or_eq_true, beq_iff_eq, not_and, Int.not_le, Int.not_lt, Int.toNat_natCast, beq_eq_false_iff_ne, ne_eq, eq_self, not_true_eq_false, not_false_eq_true] at hb) <;> (conv => whnf))
    | omega
    | (refine And.intro ?_ ?_; ((try dsimp only); first | omega | (refine ⟨by omega, by omega, Int.le_trans (Int.mul_le_mul_of_nonneg_right (Int.ofNat_le.2 (Nat.le_of_ble_eq_true (rfl : Nat.ble _ 1024 = true))) (by omega)) (by omega), by omega⟩) | (refine Nat.le_trans (Nat.mul_le_mul_left _ (Nat.le_of_ble_eq_true (rfl : Nat.ble _ 1024 = true))) ?_; omega) | (unfold inI64; omega) | (constructor <;> omega) | (simp only [inI64, List.length_cons, List.length_append, List.length_nil, List.length_set] at *; omega) | decide | (unfold inI64; decide)); conv => whnf)
    | omega | decide | assumption)
  all_goals
    refine .ret _ ?_
    conv => whnf
    refine ⟨[], ⟨?_, rfl⟩, trivial⟩
    conv => lhs; whnf
    simp [hb]
-- errs
theorem s17 (l : List Int) (hl : l.length ≤ 2^40) : FSpec Tryz.prog 24 [.d (ints l)] [] (fun x r => x = .d (.int .i64 (firstE l)) ∧ r = []) := by
  refine spec_of hT (C := []) Tryz.func24 rfl Tryz.call24 rfl rfl rfl ?_
  conv => whnf
  refine LoopX.rule hT (C := []) (ι := Nat) (fun i => i ≤ l.length ∧ firstE l = firstE (l.drop i)) (fun i => mkSt [(5, .d (ints l)), (6, .d (.int .i64 l.length)), (7, .d (.int .i64 i))] []) (fun i => l.length - i) 0 ⟨by omega, by simp⟩ (by refine Entails.mk' [] rfl rfl ?_ ?_ <;> repeat' (first | exact True.intro | exact SV.le_refl _ | exact Res.le_refl _ | exact SV.le_int (by omega) | exact SV.le_any _ | refine And.intro ?_ ?_)) ?_
  rintro i ⟨p1, p2⟩
  have hd : i < l.length → l.drop i = l.getD i 0 :: l.drop (i + 1) := fun hi => by rw [List.drop_eq_getElem_cons hi, List.getD_eq_getElem?_getD, List.getElem?_eq_getElem hi]; rfl
  conv => whnf
  repeat' (first
    | (refine br_intro (fun hb => ?_) (fun hb => ?_) <;> (try simp only [decide_eq_true_eq, decide_eq_false_iff_not, Bool.not_eq_true', Bool.not_eq_false', Bool.and_eq_true, Bool.or_eq_true, beq_iff_eq, not_and, Int.not_le, Int.not_lt, Int.toNat_natCast, beq_eq_false_iff_ne, ne_eq, eq_self, not_true_eq_false, not_false_eq_true] at hb) <;> (conv => whnf))
    | omega
    | (refine And.intro ?_ ?_; ((try dsimp only); first | omega | (refine ⟨by omega, by omega, Int.le_trans (Int.mul_le_mul_of_nonneg_right (Int.ofNat_le.2 (Nat.le_of_ble_eq_true (rfl : Nat.ble _ 1024 = true))) (by omega)) (by omega), by omega⟩) | (refine Nat.le_trans (Nat.mul_le_mul_left _ (Nat.le_of_ble_eq_true (rfl : Nat.ble _ 1024 = true))) ?_; omega) | (unfold inI64; omega) | (constructor <;> omega) | (simp only [inI64, List.length_cons, List.length_append, List.length_nil, List.length_set] at *; omega) | decide | (unfold inI64; decide)); conv => whnf)
    | omega | decide | assumption)
  · refine .ret _ ?_
    conv => whnf
    refine ⟨[], ⟨?_, rfl⟩, trivial⟩
    conv => lhs; whnf
    congr 2; rw [p2, hd (by omega), firstE, if_neg hb, Int.toNat_natCast]
  · exact ⟨i + 1, ⟨by omega, by rw [p2, hd (by omega), firstE, if_pos hb]⟩, by omega, (by refine Entails.mk' [] rfl rfl ?_ ?_ <;> repeat' (first | exact True.intro | exact SV.le_refl _ | exact Res.le_refl _ | exact SV.le_int (by omega) | exact SV.le_any _ | refine And.intro ?_ ?_))⟩
  · refine .ret _ ?_
    conv => whnf
    refine ⟨[], ⟨?_, rfl⟩, trivial⟩
    conv => lhs; whnf
    congr 2; rw [p2, List.drop_eq_nil_iff.2 (by omega)]; rfl
theorem mem_len {l : List (List UInt8)} {u : List UInt8} (h : u ∈ l) (q : l.all (fun x => decide (x.length ≤ 8)) = true) : u.length ≤ 8 := by
  have := List.all_eq_true.1 q u h
  exact of_decide_eq_true this
-- Charges
end Go.Proofs.YtnkdlkgannnfhaaGreatDoor
set_option maxRecDepth 20000
namespace Go.Proofs.YtnkdlkgannnfhaaGreatDoor
open Go Go.Eng
-- PassageOrder
theorem isKey_nil : isKeyB [] = false := by decide
theorem less_nil (a : List UInt8) : Op.bytesLess a [] = false := by cases a <;> rfl
-- TrueOf
-- PassagesFault
end Go.Proofs.YtnkdlkgannnfhaaGreatDoor
set_option maxRecDepth 20000
namespace Go.Proofs.YtnkdlkgannnfhaaGreatDoor
open Go Go.Eng
theorem Res.le_put2 {α : Type} {f : α → List DV} {d : α} {l : List α} {x y : α} {e k j1 j2 : Nat} {ds1 ds2 : List DV} (h1 : ∀ z, setAtD (f z) 0 ds1 = f x) (h2 : ∀ z, setAtD (f z) 0 ds2 = f y) :
    Res.le (.buf e k l.length fun i => bif Nat.beq i j2 then setAtD (bif Nat.beq i j1 then setAtD (rowF f d l i) 0 ds1 else rowF f d l i) 0 ds2 else bif Nat.beq i j1 then setAtD (rowF f d l i) 0 ds1 else rowF f d l i) (seqB e k f d ((l.set j1 x).set j2 y)) := by
  refine Res.le_buf (by simp) (fun k hk => ?_)
  have e1 := rows_putG (f := f) (d := d) (l := l) (x := x) (j := j1) (off := 0) (ds := ds1) (get := rowF f d l) (fun _ _ => rfl) (fun z _ => h1 z)
  have e2 := rows_putG (f := f) (d := d) (l := l.set j1 x) (x := y) (j := j2) (off := 0) (ds := ds2) (get := fun i => bif Nat.beq i j1 then setAtD (rowF f d l i) 0 ds1 else rowF f d l i) (fun k hk => e1 k (by simpa using hk)) (fun z _ => h2 z)
  exact e2 k (by simpa using hk)
-- slices.CompactFunc of passages
end Go.Proofs.YtnkdlkgannnfhaaGreatDoor
set_option maxRecDepth 20000
namespace Go.Proofs.YtnkdlkgannnfhaaGreatDoor
open Go Go.Eng
theorem SV.le_upd {α : Type} {f : α → List DV} {d : α} {l : List α} {k j off : Nat} {ds : List DV} (g : α → α) (hg : ∀ y, setAtD (f y) off ds = f (g y)) :
    SV.le (.d (.ro k l.length fun i => bif Nat.beq i j then setAtD (rowF f d l i) off ds else rowF f d l i)) (.d (seqD k f d (l.set j (g (l.getD j d))))) :=
  SV.le_putF fun y hy => by rw [hg, List.getD_eq_getElem?_getD, hy]; rfl
-- Passages
end Go.Proofs.YtnkdlkgannnfhaaGreatDoor
namespace Go.Proofs
open Go.Shelf
end Go.Proofs
set_option maxRecDepth 20000
namespace Go.Proofs.YtnkdlkgannnfhaaGreatDoor
open Go Go.Eng Go.RowKit
-- slices.Grow of passages, from nil
end Go.Proofs.YtnkdlkgannnfhaaGreatDoor
set_option maxRecDepth 20000
namespace Go.Proofs.YtnkdlkgannnfhaaGreatDoor
open Go Go.Eng
theorem Res.le_appF {α : Type} {f : α → List DV} {d : α} {l m : List α} {e k : Nat} : Res.le (.buf e k (l.length + m.length) (appGet l.length (rowF f d l) (rowF f d m))) (seqB e k f d (l ++ m)) := by
  refine Res.le_buf (by simp) (fun i hi => ?_)
  by_cases h : i < l.length
  · rw [appGet_lt h]; simp only [rowF]; rw [List.getD_eq_getElem?_getD, List.getD_eq_getElem?_getD, List.getElem?_append_left h]
  · rw [appGet_ge (by omega)]; simp only [rowF]; rw [List.getD_eq_getElem?_getD, List.getD_eq_getElem?_getD, List.getElem?_append_right (by omega)]
-- slices.Concat of passages
end Go.Proofs.YtnkdlkgannnfhaaGreatDoor
set_option maxRecDepth 20000
namespace Go.Proofs.YtnkdlkgannnfhaaGreatDoor
open Go Go.Eng
-- insertion sort of passages, in full
-- stable sort of at most twenty passages
end Go.Proofs.YtnkdlkgannnfhaaGreatDoor
set_option maxRecDepth 20000
namespace Go.Proofs.YtnkdlkgannnfhaaGreatDoor
open Go Go.Eng
theorem pas_eq {a b : Pas} : a = b ↔ a.tm = b.tm ∧ a.gate = b.gate ∧ a.plate = b.plate ∧ a.cents = b.cents := by cases a; cases b; simp
instance : DecidableEq Pas := fun _ _ => decidable_of_iff _ pas_eq.symm
-- slices.Equal of passages
-- toll.True
end Go.Proofs.YtnkdlkgannnfhaaGreatDoor
set_option maxRecDepth 20000
namespace Go.Proofs.YtnkdlkgannnfhaaGreatDoor
open Go Go.Eng
-- slices.Compact of passages
end Go.Proofs.YtnkdlkgannnfhaaGreatDoor
set_option maxRecDepth 20000
namespace Go.Proofs.YtnkdlkgannnfhaaGreatDoor
open Go Go.Eng
-- Q.PassagesOf
end Go.Proofs.YtnkdlkgannnfhaaGreatDoor
set_option maxRecDepth 20000
namespace Go.Proofs.YtnkdlkgannnfhaaGreatDoor
open Go Go.Eng
-- toll.Merge
end Go.Proofs.YtnkdlkgannnfhaaGreatDoor
set_option maxRecDepth 20000
namespace Go.Proofs.YtnkdlkgannnfhaaGreatDoor
open Go Go.Eng
structure Slt where
  day : Int
  many : Int
structure Wnt where
  v : List UInt8
  fr : Int
  to : Int
def wn0 : Wnt := ⟨[], 0, 0⟩
structure Plc where
  v : List UInt8
  day : Int
def pl0 : Plc := ⟨[], 0⟩
structure Bsy where
  v : List UInt8
  fr : Int
  to : Int
  cents : Int
def namesB (w : List Wnt) (l : List Plc) : Prop := w.length = l.length ∧ ∀ i, i < w.length → (w.getD i wn0).v = (l.getD i pl0).v
instance (w : List Wnt) (l : List Plc) : Decidable (namesB w l) := inferInstanceAs (Decidable (_ ∧ _))
end Go.Proofs.YtnkdlkgannnfhaaGreatDoor
set_option maxRecDepth 20000
namespace Go.Proofs.YtnkdlkgannnfhaaGreatDoor
open Go Go.Eng
-- shift.span
-- shift.checkSlots
-- SlotsFault
-- shift.checkWanted
-- WantedFault
-- shift.checkPlacedList
-- PlacedForm
-- shift.checkBusy
-- BusyFault
end Go.Proofs.YtnkdlkgannnfhaaGreatDoor
set_option maxRecDepth 20000
namespace Go.Proofs.YtnkdlkgannnfhaaGreatDoor
open Go Go.Eng
-- slices.IndexFunc of slots
-- slices.ContainsFunc of slots
-- shift.slotAt
end Go.Proofs.YtnkdlkgannnfhaaGreatDoor
set_option maxRecDepth 20000
namespace Go.Proofs.YtnkdlkgannnfhaaGreatDoor
open Go Go.Eng
-- PlacedFault, all else right
-- shift.CheckPlaced
end Go.Proofs.YtnkdlkgannnfhaaGreatDoor
set_option maxRecDepth 20000
namespace Go.Proofs.YtnkdlkgannnfhaaGreatDoor
open Go Go.Eng
-- LostOf
end Go.Proofs.YtnkdlkgannnfhaaGreatDoor
set_option maxRecDepth 20000
namespace Go.Proofs.YtnkdlkgannnfhaaGreatDoor
open Go Go.Eng
theorem Res.le_upd {α : Type} {f : α → List DV} {d : α} {l : List α} {e k j off : Nat} {ds : List DV} (g : α → α) (hg : ∀ y, setAtD (f y) off ds = f (g y)) :
    Res.le (.buf e k l.length fun i => bif Nat.beq i j then setAtD (rowF f d l i) off ds else rowF f d l i) (seqB e k f d (l.set j (g (l.getD j d)))) :=
  Res.le_putF fun y hy => by rw [hg, List.getD_eq_getElem?_getD, hy]; rfl
-- slices.Clone of passages
end Go.Proofs.YtnkdlkgannnfhaaGreatDoor
set_option maxRecDepth 20000
namespace Go.Proofs.YtnkdlkgannnfhaaGreatDoor
open Go Go.Eng
def allK {α : Type} (K : α → Prop) (k : Nat) (l : List α) : Prop := l.length ≤ k ∧ ∀ x ∈ l, K x
theorem allK_snoc {α : Type} {K : α → Prop} {l : List α} {k m : Nat} {x : α} (h : allK K k l) (hm : k + 1 ≤ m) (hx : K x) : allK K m (l ++ [x]) := by
  refine ⟨by rw [List.length_append]; have := h.1; simp; omega, fun p hp => ?_⟩
  rcases List.mem_append.1 hp with q | q
  · exact h.2 p q
  · simp at q; subst q; exact hx
theorem allK_le {α : Type} {K : α → Prop} {l : List α} {k m : Nat} (h : allK K k l) (hm : k ≤ m) : allK K m l := ⟨by have := h.1; omega, h.2⟩
theorem allK_upd {α : Type} {K : α → Prop} {l : List α} {k j : Nat} {d : α} {g : α → α} (h : allK K k l) (hg : ∀ y, K y → K (g y)) : allK K k (l.set j (g (l.getD j d))) := by
  refine ⟨by rw [List.length_set]; exact h.1, fun p hp => ?_⟩
  by_cases hj : j < l.length
  · rcases List.mem_or_eq_of_mem_set hp with q | q
    · exact h.2 p q
    · subst q; exact hg _ (h.2 _ (getD_mem hj))
  · rw [List.set_eq_of_length_le (by omega)] at hp; exact h.2 p hp
theorem rows_updG {α : Type} {f : α → List DV} {d : α} {l : List α} {j off : Nat} {ds : List DV} {get : Nat → List DV} (hg : ∀ i, i < l.length → get i = rowF f d l i) (g : α → α) (h : ∀ y, setAtD (f y) off ds = f (g y)) :
    ∀ i, i < (l.set j (g (l.getD j d))).length → (bif Nat.beq i j then setAtD (get i) off ds else get i) = rowF f d (l.set j (g (l.getD j d))) i := by
  rw [List.length_set]
  exact rows_putG hg (fun y hy => by rw [h, List.getD_eq_getElem?_getD, hy]; rfl)
abbrev updL {α : Type} (l : List α) (j : Nat) (d : α) (g : α → α) : List α := l.set j (g (l.getD j d))
theorem SV.le_upd2 {α : Type} {f : α → List DV} {d : α} {l : List α} {k j1 j2 o1 o2 : Nat} {ds1 ds2 : List DV} (g1 g2 : α → α) (h1 : ∀ y, setAtD (f y) o1 ds1 = f (g1 y)) (h2 : ∀ y, setAtD (f y) o2 ds2 = f (g2 y)) :
    SV.le (.d (.ro k l.length fun i => bif Nat.beq i j2 then setAtD (bif Nat.beq i j1 then setAtD (rowF f d l i) o1 ds1 else rowF f d l i) o2 ds2 else (bif Nat.beq i j1 then setAtD (rowF f d l i) o1 ds1 else rowF f d l i)))
      (.d (seqD k f d (updL (updL l j1 d g1) j2 d g2))) :=
  SV.le_ro (by simp) (fun i hi => rows_updG (rows_updG (fun _ _ => rfl) g1 h1) g2 h2 i (by simpa using hi))
theorem SV.le_upd3 {α : Type} {f : α → List DV} {d : α} {l : List α} {k j1 j2 j3 o1 o2 o3 : Nat} {ds1 ds2 ds3 : List DV} (g1 g2 g3 : α → α) (h1 : ∀ y, setAtD (f y) o1 ds1 = f (g1 y)) (h2 : ∀ y, setAtD (f y) o2 ds2 = f (g2 y)) (h3 : ∀ y, setAtD (f y) o3 ds3 = f (g3 y)) :
    SV.le (.d (.ro k l.length fun i => bif Nat.beq i j3 then setAtD (bif Nat.beq i j2 then setAtD (bif Nat.beq i j1 then setAtD (rowF f d l i) o1 ds1 else rowF f d l i) o2 ds2 else (bif Nat.beq i j1 then setAtD (rowF f d l i) o1 ds1 else rowF f d l i)) o3 ds3
        else (bif Nat.beq i j2 then setAtD (bif Nat.beq i j1 then setAtD (rowF f d l i) o1 ds1 else rowF f d l i) o2 ds2 else (bif Nat.beq i j1 then setAtD (rowF f d l i) o1 ds1 else rowF f d l i))))
      (.d (seqD k f d (updL (updL (updL l j1 d g1) j2 d g2) j3 d g3))) :=
  SV.le_ro (by simp) (fun i hi => rows_updG (rows_updG (rows_updG (fun _ _ => rfl) g1 h1) g2 h2) g3 h3 i (by simpa using hi))
def sameL {α : Type} (l c : List α) : Prop := c.length = l.length ∧ ∀ x ∈ c, x ∈ l
theorem sameL_set {α : Type} {l c : List α} {j : Nat} {x : α} (h : sameL l c) (hx : x ∈ l) : sameL l (c.set j x) :=
  ⟨by rw [List.length_set]; exact h.1, fun y hy => by rcases List.mem_or_eq_of_mem_set hy with q | q; exact h.2 y q; subst q; exact hx⟩
def subL {α : Type} (l c : List α) : Prop := c.length ≤ l.length ∧ ∀ x ∈ c, x ∈ l
end Go.Proofs.YtnkdlkgannnfhaaGreatDoor
set_option maxRecDepth 20000
namespace Go.Proofs.YtnkdlkgannnfhaaGreatDoor
open Go Go.Eng
-- placed
end Go.Proofs.YtnkdlkgannnfhaaGreatDoor
set_option maxRecDepth 20000
namespace Go.Proofs.YtnkdlkgannnfhaaGreatDoor
open Go Go.Eng
structure Ned where
  st : List UInt8
  many : Int
def ndF : Ned → List DV := fun s => [.str s.st, .int .i64 s.many]
def nd0 : Ned := ⟨[], 0⟩
abbrev neds (l : List Ned) : DV := seqD 2 ndF nd0 l
structure Roa where
  a : List UInt8
  b : List UInt8
  car : Int
  ride : Int
def rdF : Roa → List DV := fun s => [.str s.a, .str s.b, .int .i64 s.car, .int .i64 s.ride]
def rd0 : Roa := ⟨[], [], 0, 0⟩
abbrev roas (l : List Roa) : DV := seqD 4 rdF rd0 l
structure Mov where
  a : List UInt8
  b : List UInt8
  many : Int
def mvF : Mov → List DV := fun s => [.str s.a, .str s.b, .int .i64 s.many]
def mv0 : Mov := ⟨[], [], 0⟩
abbrev movs (l : List Mov) : DV := seqD 3 mvF mv0 l
def ndE (l : List Ned) (i : Nat) : Int :=
  let x := l.getD i nd0
  if isKeyB x.st = false then 5 else if 0 < i ∧ strLe x.st (l.getD (i - 1) nd0).st = true then 7 else if ¬ (-20 ≤ x.many ∧ x.many ≤ 20) then 1 else 0
def ndsE (l : List Ned) : Int := if 10 < l.length then 2 else firstAt (ndE l) l.length
def ndK (x : Ned) : Prop := x.st.length ≤ 2^40
def ndOk (l : List Ned) : Prop := l.length ≤ 2^40 ∧ ∀ x ∈ l, ndK x
def endsC (a b c d : List UInt8) : Int := firstE [cmpS a c, cmpS b d]
def rdE (l : List Roa) (i : Nat) : Int :=
  let x := l.getD i rd0
  if isKeyB x.a = false ∨ isKeyB x.b = false then 5 else if x.a = x.b then 14 else if 0 < i ∧ 0 ≤ endsC (l.getD (i - 1) rd0).a (l.getD (i - 1) rd0).b x.a x.b then 7 else if ¬ ((0 ≤ x.car ∧ x.car ≤ 1000000) ∧ (0 ≤ x.ride ∧ x.ride ≤ 1000000)) then 1 else 0
def rdsE (l : List Roa) : Int := if 2500 < l.length then 2 else firstAt (rdE l) l.length
def rdK (x : Roa) : Prop := x.a.length ≤ 2^40 ∧ x.b.length ≤ 2^40
def rdOk (l : List Roa) : Prop := l.length ≤ 2^40 ∧ ∀ x ∈ l, rdK x
-- shift.byEnds
theorem s204 (a b c d : List UInt8) : FSpec Tryz.prog 111 [.d (.str a), .d (.str b), .d (.str c), .d (.str d)] [] (fun x r => x = .d (.int .i64 (endsC a b c d)) ∧ r = []) := by
  refine spec_of hT (C := []) Tryz.func111 rfl Tryz.call111 rfl rfl rfl ?_
  conv => whnf
  repeat' (first
    | (refine CallX.exact (s184 _ _) rfl rfl ?_; rotate_right; conv => whnf)
    | (refine CallX.pure (s182 [_, _] (by simp)) ⟨SV.le_lit (by rfl) (by rfl), trivial⟩ rfl ?_; conv => whnf)
    | (refine br_intro (fun hb => ?_) (fun hb => ?_) <;> (try simp only [decide_eq_true_eq, decide_eq_false_iff_not, Bool.not_eq_true', Bool.not_eq_false', Bool.and_eq_true, Bool.or_eq_true, beq_iff_eq, not_and, Int.not_le, Int.not_lt, Int.toNat_natCast, beq_eq_false_iff_ne, ne_eq, eq_self, not_true_eq_false, not_false_eq_true] at hb) <;> (conv => whnf))
    | omega
    | (refine And.intro ?_ ?_; ((try dsimp only); first | omega | (refine ⟨by omega, by omega, Int.le_trans (Int.mul_le_mul_of_nonneg_right (Int.ofNat_le.2 (Nat.le_of_ble_eq_true (rfl : Nat.ble _ 1024 = true))) (by omega)) (by omega), by omega⟩) | (refine Nat.le_trans (Nat.mul_le_mul_left _ (Nat.le_of_ble_eq_true (rfl : Nat.ble _ 1024 = true))) ?_; omega) | (unfold inI64; omega) | (constructor <;> omega) | (simp only [inI64, List.length_cons, List.length_append, List.length_nil, List.length_set] at *; omega) | decide | (unfold inI64; decide)); conv => whnf)
    | omega | decide | assumption)
  refine .ret _ ?_
  conv => whnf
  refine ⟨[], ⟨?_, rfl⟩, trivial⟩
  conv => lhs; whnf
  rfl
-- shift.CheckNeeds
theorem s163 (l : List Ned) (hk : ndOk l) : FSpec Tryz.prog 22 [.d (neds l)] [] (fun x r => x = .d (.int .i64 (ndsE l)) ∧ r = []) := by
  refine spec_of hT (C := []) Tryz.func22 rfl Tryz.call22 rfl rfl rfl ?_
  conv => whnf
  refine br_intro (fun h0 => ?_) (fun h0 => ?_)
  · simp at h0
    conv => whnf
    refine .ret _ ?_
    conv => whnf
    refine ⟨[], ⟨?_, rfl⟩, trivial⟩
    conv => lhs; whnf
    unfold ndsE; rw [if_pos (by omega)]
  simp at h0
  conv => whnf
  refine LoopX.rule hT (C := []) (ι := Nat) (fun i => i ≤ l.length ∧ ∀ j, j < i → ndE l j = 0) (fun i => mkSt [(0, .d (neds l)), (8, .d (neds l)), (9, .d (.int .i64 l.length)), (10, .d (.int .i64 i))] []) (fun i => l.length - i) 0 ⟨by omega, by omega⟩ (by refine Entails.mk' [] rfl rfl ?_ ?_ <;> repeat' (first | exact True.intro | exact SV.le_refl _ | exact Res.le_refl _ | exact SV.le_int (by omega) | exact SV.le_any _ | refine And.intro ?_ ?_)) ?_
  rintro i ⟨p1, p2⟩
  have hx : (i : Int) < l.length → ndK (l.getD (i : Int).toNat nd0) := fun hi => hk.2 _ (getD_mem (by omega))
  have e1 : (i : Int).toNat = i := Int.toNat_natCast i
  have hbad : ∀ e : Int, i < l.length → e ≠ 0 → ndE l i = e → ndsE l = e := fun e h h1 h2 => by
    unfold ndsE; rw [if_neg (by omega)]
    exact firstAt_eq h p2 h1 h2
  conv => whnf
  repeat' (first
    | (refine CallX.exact (s108 _ (hx (by omega))) rfl rfl ?_; rotate_right; conv => whnf)
    | (refine CallX.exact (s119 _ _ _) rfl rfl ?_; rotate_right; conv => whnf)
    | (refine br_intro (fun hb => ?_) (fun hb => ?_) <;> (try simp only [decide_eq_true_eq, decide_eq_false_iff_not, Bool.not_eq_true', Bool.not_eq_false', Bool.and_eq_true, Bool.or_eq_true, beq_iff_eq, not_and, Int.not_le, Int.not_lt, Int.toNat_natCast, beq_eq_false_iff_ne, ne_eq, eq_self, not_true_eq_false, not_false_eq_true] at hb) <;> (conv => whnf))
    | (refine RegX.rule (id := 8) hT rfl [] [(0, []), (1, []), (2, []), (3, []), (4, []), (5, [3, 4]), (6, [3, 4, 5]), (7, [3, 4, 5]), (8, [3, 4]), (9, [3, 4]), (10, [3, 4]), (11, []), (12, []), (13, [])] (by decide +kernel) ?_; conv => whnf)
    | omega
    | (refine And.intro ?_ ?_; ((try dsimp only); first | omega | (refine ⟨by omega, by omega, Int.le_trans (Int.mul_le_mul_of_nonneg_right (Int.ofNat_le.2 (Nat.le_of_ble_eq_true (rfl : Nat.ble _ 1024 = true))) (by omega)) (by omega), by omega⟩) | (refine Nat.le_trans (Nat.mul_le_mul_left _ (Nat.le_of_ble_eq_true (rfl : Nat.ble _ 1024 = true))) ?_; omega) | (unfold inI64; omega) | (constructor <;> omega) | (simp only [inI64, List.length_cons, List.length_append, List.length_nil, List.length_set] at *; omega) | decide | (unfold inI64; decide)); conv => whnf)
    | omega | decide | assumption)
  all_goals first
    | (refine ⟨i + 1, ⟨by omega, first_step p2 (by clear p2 hbad hk hx; simp only [e1, toNat_pred] at *; unfold ndE strLe; grind)⟩, by omega, (by refine Entails.mk' [] rfl rfl ?_ ?_ <;> repeat' (first | exact True.intro | exact SV.le_refl _ | exact Res.le_refl _ | exact SV.le_int (by omega) | exact SV.le_any _ | refine And.intro ?_ ?_))⟩)
    | (refine .ret _ ?_
       conv => whnf
       refine ⟨[], ⟨?_, rfl⟩, trivial⟩
       conv => lhs; whnf
       congr 2
       first
         | exact (hbad _ (by omega) (by decide) (by clear p2 hbad hk hx; simp only [e1, toNat_pred] at *; unfold ndE strLe; grind)).symm
         | (have : i = l.length := by omega
            subst this
            unfold ndsE; rw [if_neg (by omega), firstAt_zero p2]))
-- shift.CheckRoads
theorem s164 (l : List Roa) (hk : rdOk l) : FSpec Tryz.prog 23 [.d (roas l)] [] (fun x r => x = .d (.int .i64 (rdsE l)) ∧ r = []) := by
  refine spec_of hT (C := []) Tryz.func23 rfl Tryz.call23 rfl rfl rfl ?_
  conv => whnf
  refine br_intro (fun h0 => ?_) (fun h0 => ?_)
  · simp at h0
    conv => whnf
    refine .ret _ ?_
    conv => whnf
    refine ⟨[], ⟨?_, rfl⟩, trivial⟩
    conv => lhs; whnf
    unfold rdsE; rw [if_pos (by omega)]
  simp at h0
  conv => whnf
  refine LoopX.rule hT (C := []) (ι := Nat) (fun i => i ≤ l.length ∧ ∀ j, j < i → rdE l j = 0) (fun i => mkSt [(0, .d (roas l)), (8, .d (roas l)), (9, .d (.int .i64 l.length)), (10, .d (.int .i64 i))] []) (fun i => l.length - i) 0 ⟨by omega, by omega⟩ (by refine Entails.mk' [] rfl rfl ?_ ?_ <;> repeat' (first | exact True.intro | exact SV.le_refl _ | exact Res.le_refl _ | exact SV.le_int (by omega) | exact SV.le_any _ | refine And.intro ?_ ?_)) ?_
  rintro i ⟨p1, p2⟩
  have hx : (i : Int) < l.length → rdK (l.getD (i : Int).toNat rd0) := fun hi => hk.2 _ (getD_mem (by omega))
  have e1 : (i : Int).toNat = i := Int.toNat_natCast i
  have hbad : ∀ e : Int, i < l.length → e ≠ 0 → rdE l i = e → rdsE l = e := fun e h h1 h2 => by
    unfold rdsE; rw [if_neg (by omega)]
    exact firstAt_eq h p2 h1 h2
  conv => whnf
  repeat' (first
    | (refine CallX.exact (s108 _ (hx (by omega)).1) rfl rfl ?_; rotate_right; conv => whnf)
    | (refine CallX.exact (s108 _ (hx (by omega)).2) rfl rfl ?_; rotate_right; conv => whnf)
    | (refine CallX.exact (s204 _ _ _ _) rfl rfl ?_; rotate_right; conv => whnf)
    | (refine CallX.exact (s119 _ _ _) rfl rfl ?_; rotate_right; conv => whnf)
    | (refine br_intro (fun hb => ?_) (fun hb => ?_) <;> (try simp only [decide_eq_true_eq, decide_eq_false_iff_not, Bool.not_eq_true', Bool.not_eq_false', Bool.and_eq_true, Bool.or_eq_true, beq_iff_eq, not_and, Int.not_le, Int.not_lt, Int.toNat_natCast, beq_eq_false_iff_ne, ne_eq, eq_self, not_true_eq_false, not_false_eq_true] at hb) <;> (conv => whnf))
    | (refine RegX.rule (id := 10) hT rfl [] [(0, []), (1, []), (2, []), (3, []), (4, [3]), (5, [3]), (6, []), (7, []), (8, []), (9, [3, 4, 5, 6, 7, 8]), (10, [3, 4, 5, 6, 7, 8, 9]), (11, [3, 4, 5, 6, 7, 8, 9]), (12, [3, 4, 5, 6, 7, 8]), (13, [3, 4, 5, 6, 7, 8]), (14, [3, 4, 5, 6, 7, 8]), (15, [3, 4, 5, 6, 7, 8, 9, 10, 11, 12, 13, 14]), (16, [3, 4, 5, 6, 7, 8, 9, 10, 11, 12, 13, 14]), (17, [3, 4, 5, 6, 7, 8, 9, 10, 11, 12, 13, 14, 15, 16]), (18, [3, 4, 5, 6, 7, 8, 9, 10, 11, 12, 13, 14, 15, 16]), (19, []), (20, []), (21, []), (22, [])] (by decide +kernel) ?_; conv => whnf)
    | omega
    | (refine And.intro ?_ ?_; ((try dsimp only); first | omega | (refine ⟨by omega, by omega, Int.le_trans (Int.mul_le_mul_of_nonneg_right (Int.ofNat_le.2 (Nat.le_of_ble_eq_true (rfl : Nat.ble _ 1024 = true))) (by omega)) (by omega), by omega⟩) | (refine Nat.le_trans (Nat.mul_le_mul_left _ (Nat.le_of_ble_eq_true (rfl : Nat.ble _ 1024 = true))) ?_; omega) | (unfold inI64; omega) | (constructor <;> omega) | (simp only [inI64, List.length_cons, List.length_append, List.length_nil, List.length_set] at *; omega) | decide | (unfold inI64; decide)); conv => whnf)
    | omega | decide | assumption)
  all_goals first
    | (refine ⟨i + 1, ⟨by omega, first_step p2 (by clear p2 hbad hk hx; simp only [e1, toNat_pred] at *; unfold rdE ; grind)⟩, by omega, (by refine Entails.mk' [] rfl rfl ?_ ?_ <;> repeat' (first | exact True.intro | exact SV.le_refl _ | exact Res.le_refl _ | exact SV.le_int (by omega) | exact SV.le_any _ | refine And.intro ?_ ?_))⟩)
    | (refine .ret _ ?_
       conv => whnf
       refine ⟨[], ⟨?_, rfl⟩, trivial⟩
       conv => lhs; whnf
       congr 2
       first
         | exact (hbad _ (by omega) (by decide) (by clear p2 hbad hk hx; simp only [e1, toNat_pred] at *; unfold rdE ; grind)).symm
         | (have : i = l.length := by omega
            subst this
            unfold rdsE; rw [if_neg (by omega), firstAt_zero p2]))
-- shift.checkTask
theorem s113 (l : List Ned) (m : List Roa) (hl : ndOk l) (hm : rdOk m) : FSpec Tryz.prog 168 [.d (neds l), .d (roas m)] [] (fun x r => x = .d (.int .i64 (firstE [ndsE l, rdsE m])) ∧ r = []) := by
  refine spec_of hT (C := []) Tryz.func168 rfl Tryz.call168 rfl rfl rfl ?_
  conv => whnf
  repeat' (first
    | (refine CallX.exact (s163 l hl) rfl rfl ?_; rotate_right; conv => whnf)
    | (refine CallX.exact (s164 m hm) rfl rfl ?_; rotate_right; conv => whnf)
    | (refine CallX.pure (s105 [_, _] (by simp)) ⟨SV.le_lit (by rfl) (by rfl), trivial⟩ rfl ?_; conv => whnf)
    | (refine br_intro (fun hb => ?_) (fun hb => ?_) <;> (try simp only [decide_eq_true_eq, decide_eq_false_iff_not, Bool.not_eq_true', Bool.not_eq_false', Bool.and_eq_true, Bool.or_eq_true, beq_iff_eq, not_and, Int.not_le, Int.not_lt, Int.toNat_natCast, beq_eq_false_iff_ne, ne_eq, eq_self, not_true_eq_false, not_false_eq_true] at hb) <;> (conv => whnf))
    | omega
    | (refine And.intro ?_ ?_; ((try dsimp only); first | omega | (refine ⟨by omega, by omega, Int.le_trans (Int.mul_le_mul_of_nonneg_right (Int.ofNat_le.2 (Nat.le_of_ble_eq_true (rfl : Nat.ble _ 1024 = true))) (by omega)) (by omega), by omega⟩) | (refine Nat.le_trans (Nat.mul_le_mul_left _ (Nat.le_of_ble_eq_true (rfl : Nat.ble _ 1024 = true))) ?_; omega) | (unfold inI64; omega) | (constructor <;> omega) | (simp only [inI64, List.length_cons, List.length_append, List.length_nil, List.length_set] at *; omega) | decide | (unfold inI64; decide)); conv => whnf)
    | omega | decide | assumption)
  refine .ret _ ?_
  conv => whnf
  refine ⟨[], ⟨?_, rfl⟩, trivial⟩
  conv => lhs; whnf
-- the program's own try
def tN : List Ned := [⟨[97], 1⟩, ⟨[98], -1⟩]
def tR : List Roa := [⟨[97], [98], 4, 0⟩]
theorem s113t : FSpec Tryz.prog 168 [.d (neds tN), .d (roas tR)] [] (fun x r => x = .d (.int .i64 0) ∧ r = []) := by
  have h := s113 tN tR ⟨by simp [tN], by intro x hx; simp [tN] at hx; rcases hx with rfl | rfl <;> simp [ndK]⟩ ⟨by simp [tR], by intro x hx; simp [tR] at hx; subst hx; simp [rdK]⟩
  rwa [show firstE [ndsE tN, rdsE tR] = 0 by decide] at h
end Go.Proofs.YtnkdlkgannnfhaaGreatDoor
set_option maxRecDepth 20000
namespace Go.Proofs.YtnkdlkgannnfhaaGreatDoor
open Go Go.Eng
def nHas (l : List Roa) : Nat → List DV → Bool
  | 0 => fun _ => false
  | n + 1 => fun q => keyEq q [.str (l.getD n rd0).a, .str (l.getD n rd0).b] || nHas l n q
def nVal (l : List Roa) : Nat → List DV → List DV
  | 0 => fun _ => [.str [], .str [], .int .i64 0, .int .i64 0]
  | n + 1 => fun q => bif keyEq q [.str (l.getD n rd0).a, .str (l.getD n rd0).b] then rdF (l.getD n rd0) else nVal l n q
abbrev netR (l : List Roa) (n : Nat) : Res := .map true true [.str, .str] [.str [], .str [], .int .i64 0, .int .i64 0] (nHas l n) (nVal l n)
-- shift.netOf
theorem s165 (l : List Roa) (hl : l.length ≤ 2^40) : FSpec Tryz.prog 117 [.d (roas l)] [] (fun y r => y = .mp 3 ∧ r = [(3, netR l l.length)]) := by
  refine spec_of hT (C := []) Tryz.func117 rfl Tryz.call117 rfl rfl rfl ?_
  conv => whnf
  refine LoopX.rule hT (C := []) (ι := Nat) (fun i => i ≤ l.length) (fun i => mkSt [(3, .mp 3), (7, .d (roas l)), (8, .d (.int .i64 l.length)), (9, .d (.int .i64 i))] [(3, netR l i)]) (fun i => l.length - i) 0 (by omega) ?_ ?_
  · exact Entails.mk' [(3, 6)] rfl rfl ⟨SV.le_refl _, SV.le_refl _, SV.le_refl _, SV.le_refl _, trivial⟩ ⟨Res.le_refl _, trivial⟩
  rintro i p1
  conv => whnf
  repeat' (first
    | (refine br_intro (fun hb => ?_) (fun hb => ?_) <;> (try simp only [decide_eq_true_eq, decide_eq_false_iff_not, Bool.not_eq_true', Bool.not_eq_false', Bool.and_eq_true, Bool.or_eq_true, beq_iff_eq, not_and, Int.not_le, Int.not_lt, Int.toNat_natCast, beq_eq_false_iff_ne, ne_eq, eq_self, not_true_eq_false, not_false_eq_true] at hb) <;> (conv => whnf))
    | omega
    | (refine And.intro ?_ ?_; ((try dsimp only); first | omega | (refine ⟨by omega, by omega, Int.le_trans (Int.mul_le_mul_of_nonneg_right (Int.ofNat_le.2 (Nat.le_of_ble_eq_true (rfl : Nat.ble _ 1024 = true))) (by omega)) (by omega), by omega⟩) | (refine Nat.le_trans (Nat.mul_le_mul_left _ (Nat.le_of_ble_eq_true (rfl : Nat.ble _ 1024 = true))) ?_; omega) | (unfold inI64; omega) | (constructor <;> omega) | (simp only [inI64, List.length_cons, List.length_append, List.length_nil, List.length_set] at *; omega) | decide | (unfold inI64; decide)); conv => whnf)
    | omega | decide | assumption)
  · exact ⟨i + 1, by omega, by omega, Entails.mk' [(3, 3)] rfl rfl ⟨SV.le_refl _, SV.le_refl _, SV.le_refl _, SV.le_refl _, trivial⟩ ⟨Res.le_refl _, trivial⟩⟩
  · have : i = l.length := by omega
    subst this
    refine .ret _ ?_
    conv => whnf
    exact ⟨_, ⟨rfl, rfl⟩, Res.le_refl _, trivial⟩
structure Arc where
  fr : Int
  to : Int
  car : Int
  flow : Int
def arF : Arc → List DV := fun s => [.int .i64 s.fr, .int .i64 s.to, .int .i64 s.car, .int .i64 s.flow]
def ar0 : Arc := ⟨0, 0, 0, 0⟩
abbrev froI (l : List Int) : Res := .fro 1 l.length (rowF iF 0 l)
abbrev arcB (l : List Arc) : Res := seqB 242 4 arF ar0 l
set_option maxHeartbeats 4000000 in
-- shift.transportOf, of the try
theorem s114t : FSpec Tryz.prog 169 [.d (neds tN), .d (roas tR)] [] (fun y r => y = .ptr 20 0 ∧ r = [(20, .cells 240 [.buf 15, .buf 18, .buf 88]), (15, froI [1, 0]), (18, froI [0, 1]), (88, arcB [⟨0, 1, 4, 0⟩])]) := by
  refine spec_of hT (C := []) Tryz.func169 rfl Tryz.call169 rfl rfl rfl ?_
  conv => whnf
  repeat' (first
    | (refine CallX.of (s165 tR (by simp [tR])) [(3, 22)] rfl ⟨SV.le_refl _, trivial⟩ trivial rfl rfl ?_; rintro x rout ⟨rfl, rfl⟩; refine ⟨rfl, ?_⟩; conv => whnf)
    | (refine LoopX.run hT (C := []) 8 rfl [0, 5, 6, 23, 24, 25] [] (fun _ _ h => h) (fun _ h => h) ?_; conv => whnf)
    | (refine LoopX.run hT (C := []) 16 rfl [0, 5, 6, 7, 8, 23, 24, 25, 49, 50, 51] [] (fun _ _ h => h) (fun _ h => h) ?_; conv => whnf)
    | (refine And.intro (rfl : zrow _ = some [.str [], .str [], .int .i64 0, .int .i64 0]) ?_; conv => whnf)
    | (refine br_intro (fun hb => ?_) (fun hb => ?_) <;> (try simp only [decide_eq_true_eq, decide_eq_false_iff_not, Bool.not_eq_true', Bool.not_eq_false', Bool.and_eq_true, Bool.or_eq_true, beq_iff_eq, not_and, Int.not_le, Int.not_lt, Int.toNat_natCast, beq_eq_false_iff_ne, ne_eq, eq_self, not_true_eq_false, not_false_eq_true] at hb) <;> (conv => whnf))
    | (refine RegX.rule (id := 1) hT rfl [] [(0, []), (1, []), (2, []), (3, [0, 1, 2]), (4, [0, 1, 2]), (5, [0, 1, 2]), (6, []), (7, []), (8, [])] (by decide +kernel) ?_; conv => whnf)
    | (refine RegX.rule (id := 6) hT rfl [] [(0, []), (1, []), (2, []), (3, []), (4, [0, 1, 2, 3]), (5, [0, 1, 2, 3, 4]), (6, [0, 1, 2, 3, 4]), (7, [0, 1, 2, 3, 4]), (8, [0, 1, 2, 3, 4]), (9, [0, 1, 2, 3, 4, 5, 6, 7, 8]), (10, [0, 1, 2, 3, 4, 5, 6, 7, 8, 9]), (11, [0, 1, 2, 3, 4, 5, 6, 7, 8, 9]), (12, [0, 1, 2, 3, 4, 5, 6, 7, 8, 9]), (13, [0, 1, 2, 3, 4, 5, 6, 7, 8, 9, 10, 11, 12]), (14, [0, 1, 2, 3, 4, 5, 6, 7, 8, 9, 10, 11, 12]), (15, [0, 1, 2, 3, 4, 5, 6, 7, 8, 9, 10, 11, 12]), (16, [0, 1, 2, 3, 4, 5, 6, 7, 8, 9, 10, 11, 12]), (17, [9, 13, 14, 15, 16]), (18, [9, 13, 14, 15, 16]), (19, []), (20, [])] (by decide +kernel) ?_; conv => whnf)
    | (refine RegX.rule (id := 12) hT rfl [] [(0, []), (1, [0]), (2, [0]), (3, [0]), (4, [0]), (5, [0, 1, 2, 3, 4]), (6, [0, 1, 2, 3, 4, 5]), (7, [0, 1, 2, 3, 4, 5, 6]), (8, [0, 1, 2, 3, 4, 5, 6]), (9, [0, 1, 2, 3, 4]), (10, [0, 1, 2, 3, 4]), (11, [0]), (12, []), (13, []), (14, [])] (by decide +kernel) ?_; conv => whnf)
    | omega
    | (refine And.intro ?_ ?_; ((try dsimp only); first | omega | (refine ⟨by omega, by omega, Int.le_trans (Int.mul_le_mul_of_nonneg_right (Int.ofNat_le.2 (Nat.le_of_ble_eq_true (rfl : Nat.ble _ 1024 = true))) (by omega)) (by omega), by omega⟩) | (refine Nat.le_trans (Nat.mul_le_mul_left _ (Nat.le_of_ble_eq_true (rfl : Nat.ble _ 1024 = true))) ?_; omega) | (unfold inI64; omega) | (constructor <;> omega) | (simp only [inI64, List.length_cons, List.length_append, List.length_nil, List.length_set] at *; omega) | decide | (unfold inI64; decide)); conv => whnf)
    | omega | decide | assumption)
  refine .freeze _ 15 3 1 _ _ rfl (.freeze _ 18 3 1 _ _ rfl (.ret _ ?_))
  conv => whnf
  refine ⟨_, ⟨rfl, rfl⟩, Res.le_refl _, Res.le_fro rfl ?_, Res.le_fro rfl ?_, Res.le_buf rfl ?_, trivial⟩
  · intro i hi
    have : i = 0 ∨ i = 1 := by simp [tN] at hi; omega
    rcases this with rfl | rfl <;> rfl
  · intro i hi
    have : i = 0 ∨ i = 1 := by simp [tN] at hi; omega
    rcases this with rfl | rfl <;> rfl
  · intro i hi
    have : i = 0 := by simp at hi; omega
    subst this; rfl
-- slices.Clone of numbers
theorem s166 (l : List Int) (hl : l.length ≤ 2^20) (h0 : 0 < l.length) : FSpec Tryz.prog 139 [.d (ints l)] [] (fun y r => y = .buf 7 ∧ r = [(7, seqB 3 1 iF 0 l)]) := by
  refine spec_of hT (C := [5]) Tryz.func139 rfl Tryz.call139 rfl rfl rfl ?_
  conv => whnf
  rintro b hbn
  conv => whnf
  repeat' (first
    | (refine br_intro (fun hb => ?_) (fun hb => ?_) <;> (try simp only [decide_eq_true_eq, decide_eq_false_iff_not, Bool.not_eq_true', Bool.not_eq_false', Bool.and_eq_true, Bool.or_eq_true, beq_iff_eq, not_and, Int.not_le, Int.not_lt, Int.toNat_natCast, beq_eq_false_iff_ne, ne_eq, eq_self, not_true_eq_false, not_false_eq_true] at hb) <;> (conv => whnf))
    | omega
    | (refine And.intro ?_ ?_; ((try dsimp only); first | omega | (refine ⟨by omega, by omega, Int.le_trans (Int.mul_le_mul_of_nonneg_right (Int.ofNat_le.2 (Nat.le_of_ble_eq_true (rfl : Nat.ble _ 1024 = true))) (by omega)) (by omega), by omega⟩) | (refine Nat.le_trans (Nat.mul_le_mul_left _ (Nat.le_of_ble_eq_true (rfl : Nat.ble _ 1024 = true))) ?_; omega) | (unfold inI64; omega) | (constructor <;> omega) | (simp only [inI64, List.length_cons, List.length_append, List.length_nil, List.length_set] at *; omega) | decide | (unfold inI64; decide)); conv => whnf)
    | omega | decide | assumption)
  · exact absurd (hbn (by assumption)) (by omega)
  · refine .ret _ ?_
    conv => whnf
    refine ⟨_, ⟨rfl, rfl⟩, Res.le_buf (by simp) (fun i hi => ?_), trivial⟩
    rw [appGet_ge (by omega)]; rfl
-- slices.Clone of no arcs
theorem s168e (g : Nat → List DV) : FSpec Tryz.prog 261 [.d (.ro 4 0 g)] [] (fun y r => y = .d (seqD 4 arF ar0 []) ∧ r = []) := by
  refine spec_of hT (C := [5]) Tryz.func261 rfl Tryz.call261 rfl rfl rfl ?_
  conv => whnf
  rintro b hbn
  conv => whnf
  repeat' (first
    | (refine br_intro (fun hb => ?_) (fun hb => ?_) <;> (try simp only [decide_eq_true_eq, decide_eq_false_iff_not, Bool.not_eq_true', Bool.not_eq_false', Bool.and_eq_true, Bool.or_eq_true, beq_iff_eq, not_and, Int.not_le, Int.not_lt, Int.toNat_natCast, beq_eq_false_iff_ne, ne_eq, eq_self, not_true_eq_false, not_false_eq_true] at hb) <;> (conv => whnf))
    | omega
    | (refine And.intro ?_ ?_; ((try dsimp only); first | omega | (refine ⟨by omega, by omega, Int.le_trans (Int.mul_le_mul_of_nonneg_right (Int.ofNat_le.2 (Nat.le_of_ble_eq_true (rfl : Nat.ble _ 1024 = true))) (by omega)) (by omega), by omega⟩) | (refine Nat.le_trans (Nat.mul_le_mul_left _ (Nat.le_of_ble_eq_true (rfl : Nat.ble _ 1024 = true))) ?_; omega) | (unfold inI64; omega) | (constructor <;> omega) | (simp only [inI64, List.length_cons, List.length_append, List.length_nil, List.length_set] at *; omega) | decide | (unfold inI64; decide)); conv => whnf)
    | omega | decide | assumption)
  · refine .weak _ ?_
    conv => whnf
    exact ⟨_, [], SV.le_nilS, ⟨rfl, rfl⟩, trivial⟩
  · refine .freeze _ 7 242 4 _ _ rfl (.weak _ ?_)
    conv => whnf
    exact ⟨_, [], SV.le_ro (by simp) (fun i hi => absurd hi (by simp)), ⟨rfl, rfl⟩, trivial⟩
end Go.Proofs.YtnkdlkgannnfhaaGreatDoor
set_option maxRecDepth 20000
namespace Go.Proofs.YtnkdlkgannnfhaaGreatDoor
open Go Go.Eng
def stF : Int × Bool → List DV := fun s => [.int .i64 s.1, .bool s.2]
abbrev steps (l : List (Int × Bool)) : DV := seqD 2 stF (0, false) l
abbrev tpC : Res := .cells 240 [.buf 1000001, .buf 1000002, .buf 1000003]
abbrev tpB (h w : List Int) (l : List Arc) : List (Nat × Res) := [(1000000, tpC), (1000001, froI h), (1000002, froI w), (1000003, arcB l)]
abbrev tpD (h w : List Int) : List (Nat × Res) := [(1000000, .cells 240 [.buf 1000001, .buf 1000002, .d (seqD 4 arF ar0 [])]), (1000001, froI h), (1000002, froI w)]
-- ways, of the try
set_option maxHeartbeats 4000000 in
theorem s167a : FSpec Tryz.prog 236 [.ptr 1000000 0, .buf 1000004] ([(1000004, seqB 3 1 iF 0 [1, 0])] ++ tpB [1, 0] [0, 1] [⟨0, 1, 4, 0⟩])
    (fun y r => y = .tup [.d (ints [0, 4]), .d (steps [(-1, false), (0, false)])] ∧ r = [(1000004, seqB 3 1 iF 0 [1, 0])] ++ tpB [1, 0] [0, 1] [⟨0, 1, 4, 0⟩]) := by
  refine spec_of hT (C := []) Tryz.func236 rfl Tryz.call236 rfl rfl rfl ?_
  conv => whnf
  repeat' (first
    | (refine LoopX.run hT (C := []) 6 rfl [0, 1, 4, 5, 23, 24] [1000000, 1000001, 1000002, 1000003, 1000004] (fun _ _ h => h) (fun _ h => h) ?_; conv => whnf)
    | (refine LoopX.run hT (C := []) 20 rfl [0, 4, 5, 7] [1000000, 1000001, 1000002, 1000003, 1000004] (fun _ _ h => h) (fun _ h => h) ?_; conv => whnf)
    | (refine LoopX.run hT (C := []) 26 rfl [0, 4, 5, 7, 47, 48, 49] [1000000, 1000001, 1000002, 1000003, 1000004] (fun _ _ h => h) (fun _ h => h) ?_; conv => whnf)
    | (refine br_intro (fun hb => ?_) (fun hb => ?_) <;> (try simp only [decide_eq_true_eq, decide_eq_false_iff_not, Bool.not_eq_true', Bool.not_eq_false', Bool.and_eq_true, Bool.or_eq_true, beq_iff_eq, not_and, Int.not_le, Int.not_lt, Int.toNat_natCast, beq_eq_false_iff_ne, ne_eq, eq_self, not_true_eq_false, not_false_eq_true] at hb) <;> (conv => whnf))
    | (refine RegX.rule (id := 1) hT rfl [] [(0, []), (1, []), (2, []), (3, []), (4, []), (5, []), (6, [0, 1, 2, 3, 4, 5]), (7, [0, 1, 2, 3, 4, 5]), (8, [0, 1, 2, 3, 4, 5]), (9, [0, 1, 2, 3, 4, 5]), (10, [0, 1, 2, 3, 4, 5]), (11, [0, 1, 2, 3, 4, 5]), (12, [6, 7, 8, 9, 10, 11]), (13, [])] (by decide +kernel) ?_; conv => whnf)
    | (refine RegX.rule (id := 15) hT rfl [] [(0, []), (1, [0]), (2, [0]), (3, []), (4, []), (5, []), (6, []), (7, []), (8, [7]), (9, [7]), (10, []), (11, []), (12, [7, 8, 9, 10, 11]), (13, [7, 8, 9, 10, 11]), (14, []), (15, [7, 8, 9, 10, 11, 12, 13, 14]), (16, [7, 8, 9, 10, 11, 12, 13, 14, 15]), (17, [7, 8, 9, 10, 11, 12, 13, 14, 15]), (18, [7, 8, 9, 10, 11, 12, 13, 14]), (19, [7, 8, 9, 10, 11, 12, 13, 14]), (20, []), (21, [])] (by decide +kernel) ?_; conv => whnf)
    | (refine RegX.rule (id := 16) hT rfl [] [(0, []), (1, [0]), (2, [0]), (3, [0, 1, 2]), (4, [0, 1, 2, 3]), (5, [0, 1, 2, 3]), (6, [0, 1, 2, 3, 4, 5]), (7, [0, 1, 2, 3, 4, 5, 6]), (8, [0, 1, 2, 3, 4, 5, 6]), (9, [0, 1, 2, 3, 4, 5]), (10, [0, 1, 2, 3, 4, 5]), (11, [0, 1, 2, 3, 4, 5, 6, 7, 8, 9, 10]), (12, [0, 1, 2, 3, 4, 5, 6, 7, 8, 9, 10]), (13, [0, 1, 2, 3, 4, 5]), (14, [0, 1, 2, 3, 4, 5, 6, 7, 8, 9, 10, 11, 12, 13]), (15, [0, 1, 2, 3, 4, 5, 6, 7, 8, 9, 10, 11, 12, 13]), (16, [3, 4, 5, 14, 15]), (17, [3, 4, 5, 14, 15]), (18, []), (19, []), (20, [])] (by decide +kernel) ?_; conv => whnf)
    | (refine RegX.rule (id := 17) hT rfl [] [(0, []), (1, []), (2, []), (3, []), (4, []), (5, [4]), (6, [4]), (7, []), (8, []), (9, []), (10, []), (11, []), (12, []), (13, [12]), (14, [12]), (15, []), (16, []), (17, [12, 13, 14, 15, 16]), (18, [12, 13, 14, 15, 16]), (19, []), (20, [12, 13, 14, 15, 16, 17, 18, 19]), (21, [12, 13, 14, 15, 16, 17, 18, 19, 20]), (22, [12, 13, 14, 15, 16, 17, 18, 19, 20]), (23, [12, 13, 14, 15, 16, 17, 18, 19]), (24, [12, 13, 14, 15, 16, 17, 18, 19]), (25, []), (26, [])] (by decide +kernel) ?_; conv => whnf)
    | (refine RegX.rule (id := 18) hT rfl [] [(0, []), (1, [0]), (2, [0]), (3, [0, 1, 2]), (4, [0, 1, 2, 3]), (5, [0, 1, 2, 3]), (6, [0, 1, 2, 3, 4, 5]), (7, [0, 1, 2, 3, 4, 5, 6]), (8, [0, 1, 2, 3, 4, 5, 6]), (9, [0, 1, 2, 3, 4, 5]), (10, [0, 1, 2, 3, 4, 5]), (11, [0, 1, 2, 3, 4, 5, 6, 7, 8, 9, 10]), (12, [0, 1, 2, 3, 4, 5, 6, 7, 8, 9, 10]), (13, [0, 1, 2, 3, 4, 5]), (14, [0, 1, 2, 3, 4, 5, 6, 7, 8, 9, 10, 11, 12, 13]), (15, [0, 1, 2, 3, 4, 5, 6, 7, 8, 9, 10, 11, 12, 13]), (16, [3, 4, 5, 14, 15]), (17, [3, 4, 5, 14, 15]), (18, []), (19, []), (20, [])] (by decide +kernel) ?_; conv => whnf)
    | omega
    | (refine And.intro ?_ ?_; ((try dsimp only); first | omega | (refine ⟨by omega, by omega, Int.le_trans (Int.mul_le_mul_of_nonneg_right (Int.ofNat_le.2 (Nat.le_of_ble_eq_true (rfl : Nat.ble _ 1024 = true))) (by omega)) (by omega), by omega⟩) | (refine Nat.le_trans (Nat.mul_le_mul_left _ (Nat.le_of_ble_eq_true (rfl : Nat.ble _ 1024 = true))) ?_; omega) | (unfold inI64; omega) | (constructor <;> omega) | (simp only [inI64, List.length_cons, List.length_append, List.length_nil, List.length_set] at *; omega) | decide | (unfold inI64; decide)); conv => whnf)
    | omega | decide | assumption)
  refine .freeze _ 15 3 1 _ _ rfl (.freeze _ 21 304 2 _ _ rfl (.weak _ ?_))
  conv => whnf
  refine ⟨.tup [.d (ints [0, 4]), .d (steps [(-1, false), (0, false)])], _, SV.le_tup ⟨SV.le_ro rfl ?_, SV.le_ro rfl ?_, trivial⟩, ⟨rfl, rfl⟩, ?_⟩
  · intro i hi
    have : i = 0 ∨ i = 1 := by simp at hi; omega
    rcases this with rfl | rfl <;> rfl
  · intro i hi
    have : i = 0 ∨ i = 1 := by simp at hi; omega
    rcases this with rfl | rfl <;> rfl
  · refine ⟨Res.le_refl _, Res.le_refl _, Res.le_refl _, Res.le_refl _, ?_⟩
    first | exact trivial | exact ⟨Res.le_refl _, trivial⟩
set_option maxHeartbeats 4000000 in
theorem s167b : FSpec Tryz.prog 236 [.ptr 1000000 0, .buf 1000004] ([(1000004, seqB 3 1 iF 0 [0, 0])] ++ tpB [1, 0] [0, 1] [⟨0, 1, 4, 1⟩])
    (fun y r => y = .tup [.d (ints [1125899906842624, 1125899906842624]), .d (steps [(-1, false), (-1, false)])] ∧ r = [(1000004, seqB 3 1 iF 0 [0, 0])] ++ tpB [1, 0] [0, 1] [⟨0, 1, 4, 1⟩]) := by
  refine spec_of hT (C := []) Tryz.func236 rfl Tryz.call236 rfl rfl rfl ?_
  conv => whnf
  repeat' (first
    | (refine LoopX.run hT (C := []) 6 rfl [0, 1, 4, 5, 23, 24] [1000000, 1000001, 1000002, 1000003, 1000004] (fun _ _ h => h) (fun _ h => h) ?_; conv => whnf)
    | (refine LoopX.run hT (C := []) 20 rfl [0, 4, 5, 7] [1000000, 1000001, 1000002, 1000003, 1000004] (fun _ _ h => h) (fun _ h => h) ?_; conv => whnf)
    | (refine LoopX.run hT (C := []) 26 rfl [0, 4, 5, 7, 47, 48, 49] [1000000, 1000001, 1000002, 1000003, 1000004] (fun _ _ h => h) (fun _ h => h) ?_; conv => whnf)
    | (refine br_intro (fun hb => ?_) (fun hb => ?_) <;> (try simp only [decide_eq_true_eq, decide_eq_false_iff_not, Bool.not_eq_true', Bool.not_eq_false', Bool.and_eq_true, Bool.or_eq_true, beq_iff_eq, not_and, Int.not_le, Int.not_lt, Int.toNat_natCast, beq_eq_false_iff_ne, ne_eq, eq_self, not_true_eq_false, not_false_eq_true] at hb) <;> (conv => whnf))
    | (refine RegX.rule (id := 1) hT rfl [] [(0, []), (1, []), (2, []), (3, []), (4, []), (5, []), (6, [0, 1, 2, 3, 4, 5]), (7, [0, 1, 2, 3, 4, 5]), (8, [0, 1, 2, 3, 4, 5]), (9, [0, 1, 2, 3, 4, 5]), (10, [0, 1, 2, 3, 4, 5]), (11, [0, 1, 2, 3, 4, 5]), (12, [6, 7, 8, 9, 10, 11]), (13, [])] (by decide +kernel) ?_; conv => whnf)
    | (refine RegX.rule (id := 15) hT rfl [] [(0, []), (1, [0]), (2, [0]), (3, []), (4, []), (5, []), (6, []), (7, []), (8, [7]), (9, [7]), (10, []), (11, []), (12, [7, 8, 9, 10, 11]), (13, [7, 8, 9, 10, 11]), (14, []), (15, [7, 8, 9, 10, 11, 12, 13, 14]), (16, [7, 8, 9, 10, 11, 12, 13, 14, 15]), (17, [7, 8, 9, 10, 11, 12, 13, 14, 15]), (18, [7, 8, 9, 10, 11, 12, 13, 14]), (19, [7, 8, 9, 10, 11, 12, 13, 14]), (20, []), (21, [])] (by decide +kernel) ?_; conv => whnf)
    | (refine RegX.rule (id := 16) hT rfl [] [(0, []), (1, [0]), (2, [0]), (3, [0, 1, 2]), (4, [0, 1, 2, 3]), (5, [0, 1, 2, 3]), (6, [0, 1, 2, 3, 4, 5]), (7, [0, 1, 2, 3, 4, 5, 6]), (8, [0, 1, 2, 3, 4, 5, 6]), (9, [0, 1, 2, 3, 4, 5]), (10, [0, 1, 2, 3, 4, 5]), (11, [0, 1, 2, 3, 4, 5, 6, 7, 8, 9, 10]), (12, [0, 1, 2, 3, 4, 5, 6, 7, 8, 9, 10]), (13, [0, 1, 2, 3, 4, 5]), (14, [0, 1, 2, 3, 4, 5, 6, 7, 8, 9, 10, 11, 12, 13]), (15, [0, 1, 2, 3, 4, 5, 6, 7, 8, 9, 10, 11, 12, 13]), (16, [3, 4, 5, 14, 15]), (17, [3, 4, 5, 14, 15]), (18, []), (19, []), (20, [])] (by decide +kernel) ?_; conv => whnf)
    | (refine RegX.rule (id := 17) hT rfl [] [(0, []), (1, []), (2, []), (3, []), (4, []), (5, [4]), (6, [4]), (7, []), (8, []), (9, []), (10, []), (11, []), (12, []), (13, [12]), (14, [12]), (15, []), (16, []), (17, [12, 13, 14, 15, 16]), (18, [12, 13, 14, 15, 16]), (19, []), (20, [12, 13, 14, 15, 16, 17, 18, 19]), (21, [12, 13, 14, 15, 16, 17, 18, 19, 20]), (22, [12, 13, 14, 15, 16, 17, 18, 19, 20]), (23, [12, 13, 14, 15, 16, 17, 18, 19]), (24, [12, 13, 14, 15, 16, 17, 18, 19]), (25, []), (26, [])] (by decide +kernel) ?_; conv => whnf)
    | (refine RegX.rule (id := 18) hT rfl [] [(0, []), (1, [0]), (2, [0]), (3, [0, 1, 2]), (4, [0, 1, 2, 3]), (5, [0, 1, 2, 3]), (6, [0, 1, 2, 3, 4, 5]), (7, [0, 1, 2, 3, 4, 5, 6]), (8, [0, 1, 2, 3, 4, 5, 6]), (9, [0, 1, 2, 3, 4, 5]), (10, [0, 1, 2, 3, 4, 5]), (11, [0, 1, 2, 3, 4, 5, 6, 7, 8, 9, 10]), (12, [0, 1, 2, 3, 4, 5, 6, 7, 8, 9, 10]), (13, [0, 1, 2, 3, 4, 5]), (14, [0, 1, 2, 3, 4, 5, 6, 7, 8, 9, 10, 11, 12, 13]), (15, [0, 1, 2, 3, 4, 5, 6, 7, 8, 9, 10, 11, 12, 13]), (16, [3, 4, 5, 14, 15]), (17, [3, 4, 5, 14, 15]), (18, []), (19, []), (20, [])] (by decide +kernel) ?_; conv => whnf)
    | omega
    | (refine And.intro ?_ ?_; ((try dsimp only); first | omega | (refine ⟨by omega, by omega, Int.le_trans (Int.mul_le_mul_of_nonneg_right (Int.ofNat_le.2 (Nat.le_of_ble_eq_true (rfl : Nat.ble _ 1024 = true))) (by omega)) (by omega), by omega⟩) | (refine Nat.le_trans (Nat.mul_le_mul_left _ (Nat.le_of_ble_eq_true (rfl : Nat.ble _ 1024 = true))) ?_; omega) | (unfold inI64; omega) | (constructor <;> omega) | (simp only [inI64, List.length_cons, List.length_append, List.length_nil, List.length_set] at *; omega) | decide | (unfold inI64; decide)); conv => whnf)
    | omega | decide | assumption)
  refine .freeze _ 15 3 1 _ _ rfl (.freeze _ 21 304 2 _ _ rfl (.weak _ ?_))
  conv => whnf
  refine ⟨.tup [.d (ints [1125899906842624, 1125899906842624]), .d (steps [(-1, false), (-1, false)])], _, SV.le_tup ⟨SV.le_ro rfl ?_, SV.le_ro rfl ?_, trivial⟩, ⟨rfl, rfl⟩, ?_⟩
  · intro i hi
    have : i = 0 ∨ i = 1 := by simp at hi; omega
    rcases this with rfl | rfl <;> rfl
  · intro i hi
    have : i = 0 ∨ i = 1 := by simp at hi; omega
    rcases this with rfl | rfl <;> rfl
  · refine ⟨Res.le_refl _, Res.le_refl _, Res.le_refl _, Res.le_refl _, ?_⟩
    first | exact trivial | exact ⟨Res.le_refl _, trivial⟩
set_option maxHeartbeats 4000000 in
theorem s167c : FSpec Tryz.prog 236 [.ptr 1000000 0, .buf 1000004] ([(1000004, seqB 3 1 iF 0 [0, 0])] ++ tpD [0, 0] [0, 0])
    (fun y r => y = .tup [.d (ints [1125899906842624, 1125899906842624]), .d (steps [(-1, false), (-1, false)])] ∧ r = [(1000004, seqB 3 1 iF 0 [0, 0])] ++ tpD [0, 0] [0, 0]) := by
  refine spec_of hT (C := []) Tryz.func236 rfl Tryz.call236 rfl rfl rfl ?_
  conv => whnf
  repeat' (first
    | (refine LoopX.run hT (C := []) 6 rfl [0, 1, 4, 5, 23, 24] [1000000, 1000001, 1000002, 1000004] (fun _ _ h => h) (fun _ h => h) ?_; conv => whnf)
    | (refine LoopX.run hT (C := []) 20 rfl [0, 4, 5, 7] [1000000, 1000001, 1000002, 1000004] (fun _ _ h => h) (fun _ h => h) ?_; conv => whnf)
    | (refine LoopX.run hT (C := []) 26 rfl [0, 4, 5, 7, 47, 48, 49] [1000000, 1000001, 1000002, 1000004] (fun _ _ h => h) (fun _ h => h) ?_; conv => whnf)
    | (refine br_intro (fun hb => ?_) (fun hb => ?_) <;> (try simp only [decide_eq_true_eq, decide_eq_false_iff_not, Bool.not_eq_true', Bool.not_eq_false', Bool.and_eq_true, Bool.or_eq_true, beq_iff_eq, not_and, Int.not_le, Int.not_lt, Int.toNat_natCast, beq_eq_false_iff_ne, ne_eq, eq_self, not_true_eq_false, not_false_eq_true] at hb) <;> (conv => whnf))
    | (refine RegX.rule (id := 1) hT rfl [] [(0, []), (1, []), (2, []), (3, []), (4, []), (5, []), (6, [0, 1, 2, 3, 4, 5]), (7, [0, 1, 2, 3, 4, 5]), (8, [0, 1, 2, 3, 4, 5]), (9, [0, 1, 2, 3, 4, 5]), (10, [0, 1, 2, 3, 4, 5]), (11, [0, 1, 2, 3, 4, 5]), (12, [6, 7, 8, 9, 10, 11]), (13, [])] (by decide +kernel) ?_; conv => whnf)
    | (refine RegX.rule (id := 15) hT rfl [] [(0, []), (1, [0]), (2, [0]), (3, []), (4, []), (5, []), (6, []), (7, []), (8, [7]), (9, [7]), (10, []), (11, []), (12, [7, 8, 9, 10, 11]), (13, [7, 8, 9, 10, 11]), (14, []), (15, [7, 8, 9, 10, 11, 12, 13, 14]), (16, [7, 8, 9, 10, 11, 12, 13, 14, 15]), (17, [7, 8, 9, 10, 11, 12, 13, 14, 15]), (18, [7, 8, 9, 10, 11, 12, 13, 14]), (19, [7, 8, 9, 10, 11, 12, 13, 14]), (20, []), (21, [])] (by decide +kernel) ?_; conv => whnf)
    | (refine RegX.rule (id := 16) hT rfl [] [(0, []), (1, [0]), (2, [0]), (3, [0, 1, 2]), (4, [0, 1, 2, 3]), (5, [0, 1, 2, 3]), (6, [0, 1, 2, 3, 4, 5]), (7, [0, 1, 2, 3, 4, 5, 6]), (8, [0, 1, 2, 3, 4, 5, 6]), (9, [0, 1, 2, 3, 4, 5]), (10, [0, 1, 2, 3, 4, 5]), (11, [0, 1, 2, 3, 4, 5, 6, 7, 8, 9, 10]), (12, [0, 1, 2, 3, 4, 5, 6, 7, 8, 9, 10]), (13, [0, 1, 2, 3, 4, 5]), (14, [0, 1, 2, 3, 4, 5, 6, 7, 8, 9, 10, 11, 12, 13]), (15, [0, 1, 2, 3, 4, 5, 6, 7, 8, 9, 10, 11, 12, 13]), (16, [3, 4, 5, 14, 15]), (17, [3, 4, 5, 14, 15]), (18, []), (19, []), (20, [])] (by decide +kernel) ?_; conv => whnf)
    | (refine RegX.rule (id := 17) hT rfl [] [(0, []), (1, []), (2, []), (3, []), (4, []), (5, [4]), (6, [4]), (7, []), (8, []), (9, []), (10, []), (11, []), (12, []), (13, [12]), (14, [12]), (15, []), (16, []), (17, [12, 13, 14, 15, 16]), (18, [12, 13, 14, 15, 16]), (19, []), (20, [12, 13, 14, 15, 16, 17, 18, 19]), (21, [12, 13, 14, 15, 16, 17, 18, 19, 20]), (22, [12, 13, 14, 15, 16, 17, 18, 19, 20]), (23, [12, 13, 14, 15, 16, 17, 18, 19]), (24, [12, 13, 14, 15, 16, 17, 18, 19]), (25, []), (26, [])] (by decide +kernel) ?_; conv => whnf)
    | (refine RegX.rule (id := 18) hT rfl [] [(0, []), (1, [0]), (2, [0]), (3, [0, 1, 2]), (4, [0, 1, 2, 3]), (5, [0, 1, 2, 3]), (6, [0, 1, 2, 3, 4, 5]), (7, [0, 1, 2, 3, 4, 5, 6]), (8, [0, 1, 2, 3, 4, 5, 6]), (9, [0, 1, 2, 3, 4, 5]), (10, [0, 1, 2, 3, 4, 5]), (11, [0, 1, 2, 3, 4, 5, 6, 7, 8, 9, 10]), (12, [0, 1, 2, 3, 4, 5, 6, 7, 8, 9, 10]), (13, [0, 1, 2, 3, 4, 5]), (14, [0, 1, 2, 3, 4, 5, 6, 7, 8, 9, 10, 11, 12, 13]), (15, [0, 1, 2, 3, 4, 5, 6, 7, 8, 9, 10, 11, 12, 13]), (16, [3, 4, 5, 14, 15]), (17, [3, 4, 5, 14, 15]), (18, []), (19, []), (20, [])] (by decide +kernel) ?_; conv => whnf)
    | omega
    | (refine And.intro ?_ ?_; ((try dsimp only); first | omega | (refine ⟨by omega, by omega, Int.le_trans (Int.mul_le_mul_of_nonneg_right (Int.ofNat_le.2 (Nat.le_of_ble_eq_true (rfl : Nat.ble _ 1024 = true))) (by omega)) (by omega), by omega⟩) | (refine Nat.le_trans (Nat.mul_le_mul_left _ (Nat.le_of_ble_eq_true (rfl : Nat.ble _ 1024 = true))) ?_; omega) | (unfold inI64; omega) | (constructor <;> omega) | (simp only [inI64, List.length_cons, List.length_append, List.length_nil, List.length_set] at *; omega) | decide | (unfold inI64; decide)); conv => whnf)
    | omega | decide | assumption)
  refine .freeze _ 15 3 1 _ _ rfl (.freeze _ 21 304 2 _ _ rfl (.weak _ ?_))
  conv => whnf
  refine ⟨.tup [.d (ints [1125899906842624, 1125899906842624]), .d (steps [(-1, false), (-1, false)])], _, SV.le_tup ⟨SV.le_ro rfl ?_, SV.le_ro rfl ?_, trivial⟩, ⟨rfl, rfl⟩, ?_⟩
  · intro i hi
    have : i = 0 ∨ i = 1 := by simp at hi; omega
    rcases this with rfl | rfl <;> rfl
  · intro i hi
    have : i = 0 ∨ i = 1 := by simp at hi; omega
    rcases this with rfl | rfl <;> rfl
  · refine ⟨Res.le_refl _, Res.le_refl _, Res.le_refl _, Res.le_refl _, ?_⟩
    first | exact trivial | exact ⟨Res.le_refl _, trivial⟩
-- rest, of the try
set_option maxHeartbeats 4000000 in
theorem s116t : FSpec Tryz.prog 207 [.ptr 1000000 0, .d (.int .i64 1), .d (.int .i64 0), .d (.int .i64 1), .d (.int .i64 1)] [(1000000, tpC), (1000001, froI [1, 0]), (1000002, froI [0, 1]), (1000003, .fro 4 1 (rowF arF ar0 [⟨0, 1, 4, 1⟩]))]
    (fun y r => y = .ptr 30 0 ∧ r = [(1000000, tpC), (1000001, froI [1, 0]), (1000002, froI [0, 1]), (1000003, .fro 4 1 (rowF arF ar0 [⟨0, 1, 4, 1⟩])), (30, .cells 240 [.buf 16, .buf 21, .d (seqD 4 arF ar0 [])]), (16, froI [0, 0]), (21, froI [0, 0])]) := by
  refine spec_of hT (C := []) Tryz.func207 rfl Tryz.call207 rfl rfl rfl ?_
  conv => whnf
  refine RegX.rule hT rfl [] [(0, []), (1, []), (2, []), (3, []), (5, [0, 1, 2, 3]), (6, [0, 1, 2, 3]), (7, [0, 1, 2, 3]), (8, [0, 1, 2, 3]), (10, [0, 1, 2, 3, 5, 6, 7, 8]), (11, [0, 1, 2, 3, 5, 6, 7, 8]), (12, [0, 1, 2, 3, 5, 6, 7, 8]), (13, [0, 1, 2, 3, 5, 6, 7, 8]), (14, [0, 1, 2, 3, 5, 6, 7, 8, 10, 11, 12, 13]), (15, [0, 1, 2, 3, 5, 6, 7, 8]), (4, [5, 6, 7, 8, 10, 11, 12, 13, 14, 15]), (9, [10, 11, 12, 13, 14, 15]), (16, []), (17, []), (18, []), (19, [])] (by decide +kernel) ?_
  conv => whnf
  repeat' (first
    | (refine CallX.of (s166 [1, 0] (by simp) (by simp)) [(7, 16)] rfl ⟨SV.le_refl _, trivial⟩ trivial rfl rfl ?_; rintro x rout ⟨rfl, rfl⟩; refine ⟨rfl, ?_⟩; conv => whnf)
    | (refine CallX.of (s166 [0, 1] (by simp) (by simp)) [(7, 21)] rfl ⟨SV.le_refl _, trivial⟩ trivial rfl rfl ?_; rintro x rout ⟨rfl, rfl⟩; refine ⟨rfl, ?_⟩; conv => whnf)
    | (refine CallX.pure (s168e _) ⟨SV.le_refl _, trivial⟩ rfl ?_; conv => whnf)
    | (refine br_intro (fun hb => ?_) (fun hb => ?_) <;> (try simp only [decide_eq_true_eq, decide_eq_false_iff_not, Bool.not_eq_true', Bool.not_eq_false', Bool.and_eq_true, Bool.or_eq_true, beq_iff_eq, not_and, Int.not_le, Int.not_lt, Int.toNat_natCast, beq_eq_false_iff_ne, ne_eq, eq_self, not_true_eq_false, not_false_eq_true] at hb) <;> (conv => whnf))
    | (refine RegX.rule (id := 1) hT rfl [] [(0, []), (1, []), (2, []), (3, []), (5, [0, 1, 2, 3]), (6, [0, 1, 2, 3]), (7, [0, 1, 2, 3]), (8, [0, 1, 2, 3]), (10, [0, 1, 2, 3, 5, 6, 7, 8]), (11, [0, 1, 2, 3, 5, 6, 7, 8]), (12, [0, 1, 2, 3, 5, 6, 7, 8]), (13, [0, 1, 2, 3, 5, 6, 7, 8]), (14, [0, 1, 2, 3, 5, 6, 7, 8, 10, 11, 12, 13]), (15, [0, 1, 2, 3, 5, 6, 7, 8]), (4, [5, 6, 7, 8, 10, 11, 12, 13, 14, 15]), (9, [10, 11, 12, 13, 14, 15]), (16, []), (17, []), (18, []), (19, [])] (by decide +kernel) ?_; conv => whnf)
    | omega
    | (refine And.intro ?_ ?_; ((try dsimp only); first | omega | (refine ⟨by omega, by omega, Int.le_trans (Int.mul_le_mul_of_nonneg_right (Int.ofNat_le.2 (Nat.le_of_ble_eq_true (rfl : Nat.ble _ 1024 = true))) (by omega)) (by omega), by omega⟩) | (refine Nat.le_trans (Nat.mul_le_mul_left _ (Nat.le_of_ble_eq_true (rfl : Nat.ble _ 1024 = true))) ?_; omega) | (unfold inI64; omega) | (constructor <;> omega) | (simp only [inI64, List.length_cons, List.length_append, List.length_nil, List.length_set] at *; omega) | decide | (unfold inI64; decide)); conv => whnf)
    | omega | decide | assumption)
  refine .freeze _ 16 3 1 _ _ rfl (.freeze _ 21 3 1 _ _ rfl (.ret _ ?_))
  conv => whnf
  refine ⟨_, ⟨rfl, rfl⟩, Res.le_refl _, Res.le_refl _, Res.le_refl _, Res.le_refl _, Res.le_refl _, Res.le_fro rfl ?_, Res.le_fro rfl ?_, trivial⟩
  · intro i hi
    have : i = 0 ∨ i = 1 := by simp at hi; omega
    rcases this with rfl | rfl <;> rfl
  · intro i hi
    have : i = 0 ∨ i = 1 := by simp at hi; omega
    rcases this with rfl | rfl <;> rfl
end Go.Proofs.YtnkdlkgannnfhaaGreatDoor
set_option maxRecDepth 20000
namespace Go.Proofs.YtnkdlkgannnfhaaGreatDoor
open Go Go.Eng
-- solve, of the try
set_option maxHeartbeats 8000000 in
theorem s115a : FSpec Tryz.prog 170 [.ptr 1000000 0] (tpB [1, 0] [0, 1] [⟨0, 1, 4, 0⟩]) (fun y r => y = .tup [.d (.int .i64 4), .d (.bool true)] ∧ r = tpB [1, 0] [0, 1] [⟨0, 1, 4, 1⟩]) := by
  refine spec_of hT (C := []) Tryz.func170 rfl Tryz.call170 rfl rfl rfl ?_
  conv => whnf
  refine RegX.rule hT rfl [] [(0, []), (1, []), (2, []), (3, []), (5, [0, 1, 2, 3]), (6, [0, 1, 2, 3]), (7, [0, 1, 2, 3]), (8, [0, 1, 2, 3]), (4, [5, 6, 7, 8]), (9, []), (10, []), (11, [])] (by decide +kernel) ?_
  conv => whnf
  repeat' (first
    | (refine CallX.of (s166 [1, 0] (by simp) (by simp)) [(7, 22)] rfl ⟨SV.le_refl _, trivial⟩ trivial rfl rfl ?_; rintro x rout ⟨rfl, rfl⟩; refine ⟨rfl, ?_⟩; conv => whnf)
    | (refine CallX.of (s166 [0, 1] (by simp) (by simp)) [(7, 27)] rfl ⟨SV.le_refl _, trivial⟩ trivial rfl rfl ?_; rintro x rout ⟨rfl, rfl⟩; refine ⟨rfl, ?_⟩; conv => whnf)
    | (refine CallX.of s167a [(1000000, 1000000), (1000001, 1000001), (1000002, 1000002), (1000003, 1000003), (1000004, 22)] rfl ⟨SV.le_refl _, SV.le_refl _, trivial⟩ ⟨(Res.le_buf rfl (fun i hi => by (have : i = 0 ∨ i = 1 := by simp at hi; omega); rcases this with (rfl | rfl) <;> rfl)), Res.le_refl _, Res.le_refl _, Res.le_refl _, (Res.le_buf rfl (fun i hi => by (have : i = 0 := by simp at hi; omega); subst this; rfl)), trivial⟩ rfl rfl ?_; rintro x rout ⟨rfl, rfl⟩; refine ⟨rfl, ?_⟩; conv => whnf)
    | (refine CallX.of s167b [(1000000, 1000000), (1000001, 1000001), (1000002, 1000002), (1000003, 1000003), (1000004, 22)] rfl ⟨SV.le_refl _, SV.le_refl _, trivial⟩ ⟨(Res.le_buf rfl (fun i hi => by (have : i = 0 ∨ i = 1 := by simp at hi; omega); rcases this with (rfl | rfl) <;> rfl)), Res.le_refl _, Res.le_refl _, Res.le_refl _, (Res.le_buf rfl (fun i hi => by (have : i = 0 := by simp at hi; omega); subst this; rfl)), trivial⟩ rfl rfl ?_; rintro x rout ⟨rfl, rfl⟩; refine ⟨rfl, ?_⟩; conv => whnf)
    | (refine LoopX.run hT (C := []) 6 rfl [0, 4, 5, 32, 33] [1000000, 1000001, 1000002, 1000003] (fun _ _ h => h) (fun _ h => h) ?_; conv => whnf)
    | (refine LoopX.run hT (C := []) 7 rfl [0, 4, 5, 7] [1000000, 1000001, 1000002, 1000003] (fun _ _ h => h) (fun _ h => h) ?_; conv => whnf)
    | (refine LoopX.run hT (C := []) 22 rfl [0, 4, 5, 7, 8, 9, 10, 11, 50, 51, 52] [1000000, 1000001, 1000002, 1000003] (fun _ _ h => h) (fun _ h => h) ?_; conv => whnf)
    | (refine LoopX.run hT (C := []) 40 rfl [0, 4, 5, 7, 8, 9, 10, 14, 15] [1000000, 1000001, 1000002, 1000003] (fun _ _ h => h) (fun _ h => h) ?_; conv => whnf)
    | (refine LoopX.run hT (C := []) 60 rfl [0, 4, 5, 7, 9, 14, 15] [1000000, 1000001, 1000002, 1000003] (fun _ _ h => h) (fun _ h => h) ?_; conv => whnf)
    | (refine br_intro (fun hb => ?_) (fun hb => ?_) <;> (try simp only [decide_eq_true_eq, decide_eq_false_iff_not, Bool.not_eq_true', Bool.not_eq_false', Bool.and_eq_true, Bool.or_eq_true, beq_iff_eq, not_and, Int.not_le, Int.not_lt, Int.toNat_natCast, beq_eq_false_iff_ne, ne_eq, eq_self, not_true_eq_false, not_false_eq_true] at hb) <;> (conv => whnf))
    | (refine RegX.rule (id := 1) hT rfl [] [(0, []), (1, []), (2, []), (3, []), (5, [0, 1, 2, 3]), (6, [0, 1, 2, 3]), (7, [0, 1, 2, 3]), (8, [0, 1, 2, 3]), (4, [5, 6, 7, 8]), (9, []), (10, []), (11, [])] (by decide +kernel) ?_; conv => whnf)
    | (refine RegX.rule (id := 14) hT rfl [] [(0, []), (1, []), (2, []), (3, []), (4, [3]), (5, []), (6, []), (7, []), (8, []), (9, []), (10, []), (11, []), (12, []), (13, []), (14, [13]), (15, []), (16, []), (17, [13, 14, 15, 16]), (18, [13, 14, 15, 16, 17]), (19, [13, 14, 15, 16]), (20, [13, 14, 15, 16]), (21, []), (22, []), (23, [])] (by decide +kernel) ?_; conv => whnf)
    | (refine RegX.rule (id := 21) hT rfl [] [(0, []), (1, []), (2, []), (3, []), (4, [0, 1, 2, 3]), (5, [0, 1, 2, 3, 4]), (6, [0, 1, 2, 3]), (7, [0, 1, 2, 3]), (8, [0, 1, 2, 3]), (9, []), (10, []), (11, [0, 1, 2, 3, 4, 5, 6, 7, 8, 9, 10]), (12, [])] (by decide +kernel) ?_; conv => whnf)
    | (refine RegX.rule (id := 23) hT rfl [] [(0, []), (1, [0]), (2, [0]), (3, []), (4, [0, 1, 2, 3]), (5, [0, 1, 2, 3]), (6, [4, 5]), (7, [])] (by decide +kernel) ?_; conv => whnf)
    | (refine RegX.rule (id := 31) hT rfl [] [(0, []), (1, []), (2, []), (3, []), (4, [0, 1, 2, 3]), (5, [0, 1, 2, 3, 4]), (6, [0, 1, 2, 3]), (7, [0, 1, 2, 3]), (8, [0, 1, 2, 3]), (9, []), (10, [])] (by decide +kernel) ?_; conv => whnf)
    | omega
    | (refine And.intro ?_ ?_; ((try dsimp only); first | omega | (refine ⟨by omega, by omega, Int.le_trans (Int.mul_le_mul_of_nonneg_right (Int.ofNat_le.2 (Nat.le_of_ble_eq_true (rfl : Nat.ble _ 1024 = true))) (by omega)) (by omega), by omega⟩) | (refine Nat.le_trans (Nat.mul_le_mul_left _ (Nat.le_of_ble_eq_true (rfl : Nat.ble _ 1024 = true))) ?_; omega) | (unfold inI64; omega) | (constructor <;> omega) | (simp only [inI64, List.length_cons, List.length_append, List.length_nil, List.length_set] at *; omega) | decide | (unfold inI64; decide)); conv => whnf)
    | omega | decide | assumption)
  refine .weak _ ?_
  conv => whnf
  exact ⟨.tup [.d (.int .i64 4), .d (.bool true)], _, SV.le_tup ⟨SV.le_int rfl, SV.le_bool rfl, trivial⟩, ⟨rfl, rfl⟩, Res.le_refl _, Res.le_refl _, Res.le_refl _, (Res.le_buf rfl (fun i hi => by (have : i = 0 := by simp at hi; omega); subst this; rfl)), trivial⟩
set_option maxHeartbeats 8000000 in
theorem s115b : FSpec Tryz.prog 170 [.ptr 1000000 0] (tpD [0, 0] [0, 0]) (fun y r => y = .tup [.d (.int .i64 0), .d (.bool true)] ∧ r = tpD [0, 0] [0, 0]) := by
  refine spec_of hT (C := []) Tryz.func170 rfl Tryz.call170 rfl rfl rfl ?_
  conv => whnf
  refine RegX.rule hT rfl [] [(0, []), (1, []), (2, []), (3, []), (5, [0, 1, 2, 3]), (6, [0, 1, 2, 3]), (7, [0, 1, 2, 3]), (8, [0, 1, 2, 3]), (4, [5, 6, 7, 8]), (9, []), (10, []), (11, [])] (by decide +kernel) ?_
  conv => whnf
  repeat' (first
    | (refine CallX.of (s166 [0, 0] (by simp) (by simp)) [(7, 22)] rfl ⟨SV.le_refl _, trivial⟩ trivial rfl rfl ?_; rintro x rout ⟨rfl, rfl⟩; refine ⟨rfl, ?_⟩; conv => whnf)
    | (refine CallX.of (s166 [0, 0] (by simp) (by simp)) [(7, 27)] rfl ⟨SV.le_refl _, trivial⟩ trivial rfl rfl ?_; rintro x rout ⟨rfl, rfl⟩; refine ⟨rfl, ?_⟩; conv => whnf)
    | (refine CallX.of s167c [(1000000, 1000000), (1000001, 1000001), (1000002, 1000002), (1000004, 22)] rfl ⟨SV.le_refl _, SV.le_refl _, trivial⟩ ⟨Res.le_refl _, Res.le_refl _, Res.le_refl _, Res.le_refl _, trivial⟩ rfl rfl ?_; rintro x rout ⟨rfl, rfl⟩; refine ⟨rfl, ?_⟩; conv => whnf)
    | (refine LoopX.run hT (C := []) 6 rfl [0, 4, 5, 32, 33] [1000000, 1000001, 1000002] (fun _ _ h => h) (fun _ h => h) ?_; conv => whnf)
    | (refine LoopX.run hT (C := []) 7 rfl [0, 4, 5, 7] [1000000, 1000001, 1000002] (fun _ _ h => h) (fun _ h => h) ?_; conv => whnf)
    | (refine LoopX.run hT (C := []) 22 rfl [0, 4, 5, 7, 8, 9, 10, 11, 50, 51, 52] [1000000, 1000001, 1000002] (fun _ _ h => h) (fun _ h => h) ?_; conv => whnf)
    | (refine LoopX.run hT (C := []) 40 rfl [0, 4, 5, 7, 8, 9, 10, 14, 15] [1000000, 1000001, 1000002] (fun _ _ h => h) (fun _ h => h) ?_; conv => whnf)
    | (refine LoopX.run hT (C := []) 60 rfl [0, 4, 5, 7, 9, 14, 15] [1000000, 1000001, 1000002] (fun _ _ h => h) (fun _ h => h) ?_; conv => whnf)
    | (refine br_intro (fun hb => ?_) (fun hb => ?_) <;> (try simp only [decide_eq_true_eq, decide_eq_false_iff_not, Bool.not_eq_true', Bool.not_eq_false', Bool.and_eq_true, Bool.or_eq_true, beq_iff_eq, not_and, Int.not_le, Int.not_lt, Int.toNat_natCast, beq_eq_false_iff_ne, ne_eq, eq_self, not_true_eq_false, not_false_eq_true] at hb) <;> (conv => whnf))
    | (refine RegX.rule (id := 1) hT rfl [] [(0, []), (1, []), (2, []), (3, []), (5, [0, 1, 2, 3]), (6, [0, 1, 2, 3]), (7, [0, 1, 2, 3]), (8, [0, 1, 2, 3]), (4, [5, 6, 7, 8]), (9, []), (10, []), (11, [])] (by decide +kernel) ?_; conv => whnf)
    | (refine RegX.rule (id := 14) hT rfl [] [(0, []), (1, []), (2, []), (3, []), (4, [3]), (5, []), (6, []), (7, []), (8, []), (9, []), (10, []), (11, []), (12, []), (13, []), (14, [13]), (15, []), (16, []), (17, [13, 14, 15, 16]), (18, [13, 14, 15, 16, 17]), (19, [13, 14, 15, 16]), (20, [13, 14, 15, 16]), (21, []), (22, []), (23, [])] (by decide +kernel) ?_; conv => whnf)
    | (refine RegX.rule (id := 21) hT rfl [] [(0, []), (1, []), (2, []), (3, []), (4, [0, 1, 2, 3]), (5, [0, 1, 2, 3, 4]), (6, [0, 1, 2, 3]), (7, [0, 1, 2, 3]), (8, [0, 1, 2, 3]), (9, []), (10, []), (11, [0, 1, 2, 3, 4, 5, 6, 7, 8, 9, 10]), (12, [])] (by decide +kernel) ?_; conv => whnf)
    | (refine RegX.rule (id := 23) hT rfl [] [(0, []), (1, [0]), (2, [0]), (3, []), (4, [0, 1, 2, 3]), (5, [0, 1, 2, 3]), (6, [4, 5]), (7, [])] (by decide +kernel) ?_; conv => whnf)
    | (refine RegX.rule (id := 31) hT rfl [] [(0, []), (1, []), (2, []), (3, []), (4, [0, 1, 2, 3]), (5, [0, 1, 2, 3, 4]), (6, [0, 1, 2, 3]), (7, [0, 1, 2, 3]), (8, [0, 1, 2, 3]), (9, []), (10, [])] (by decide +kernel) ?_; conv => whnf)
    | omega
    | (refine And.intro ?_ ?_; ((try dsimp only); first | omega | (refine ⟨by omega, by omega, Int.le_trans (Int.mul_le_mul_of_nonneg_right (Int.ofNat_le.2 (Nat.le_of_ble_eq_true (rfl : Nat.ble _ 1024 = true))) (by omega)) (by omega), by omega⟩) | (refine Nat.le_trans (Nat.mul_le_mul_left _ (Nat.le_of_ble_eq_true (rfl : Nat.ble _ 1024 = true))) ?_; omega) | (unfold inI64; omega) | (constructor <;> omega) | (simp only [inI64, List.length_cons, List.length_append, List.length_nil, List.length_set] at *; omega) | decide | (unfold inI64; decide)); conv => whnf)
    | omega | decide | assumption)
  refine .weak _ ?_
  conv => whnf
  exact ⟨.tup [.d (.int .i64 0), .d (.bool true)], _, SV.le_tup ⟨SV.le_int rfl, SV.le_bool rfl, trivial⟩, ⟨rfl, rfl⟩, Res.le_refl _, Res.le_refl _, Res.le_refl _, trivial⟩
-- shift.Plan, of the try
set_option maxHeartbeats 8000000 in
theorem s27t : FSpec Tryz.prog 119 [.d (neds tN), .d (roas tR)] [] (fun y r => y = .tup [.d (movs [⟨[97], [98], 1⟩]), .d (.int .i64 0)] ∧ r = []) := by
  refine spec_of hT (C := []) Tryz.func119 rfl Tryz.call119 rfl rfl rfl ?_
  conv => whnf
  repeat' (first
    | (refine CallX.exact (s113t) rfl rfl ?_; rotate_right; conv => whnf)
    | (refine CallX.of s114t [(20, 24), (15, 1000), (18, 1001), (88, 1002)] rfl ⟨SV.le_refl _, SV.le_refl _, trivial⟩ trivial rfl rfl ?_; rintro x rout ⟨rfl, rfl⟩; refine ⟨rfl, ?_⟩; conv => whnf)
    | (refine CallX.of s115a [(1000000, 24), (1000001, 1000), (1000002, 1001), (1000003, 1002)] rfl ⟨SV.le_refl _, trivial⟩ ⟨Res.le_refl _, Res.le_refl _, Res.le_refl _, Res.le_refl _, trivial⟩ rfl rfl ?_; rintro x rout ⟨rfl, rfl⟩; refine ⟨rfl, ?_⟩; conv => whnf)
    | (refine br_intro (fun hb => ?_) (fun hb => ?_) <;> (try simp only [decide_eq_true_eq, decide_eq_false_iff_not, Bool.not_eq_true', Bool.not_eq_false', Bool.and_eq_true, Bool.or_eq_true, beq_iff_eq, not_and, Int.not_le, Int.not_lt, Int.toNat_natCast, beq_eq_false_iff_ne, ne_eq, eq_self, not_true_eq_false, not_false_eq_true] at hb) <;> (conv => whnf))
    | (refine RegX.rule (id := 13) hT rfl [] [(0, []), (1, [0]), (2, [0]), (3, [0]), (4, [0]), (5, [0, 1, 2, 3, 4]), (6, [0, 1, 2, 3, 4]), (7, [0]), (8, [0]), (9, [0, 1, 2, 3, 4, 5, 6, 7, 8]), (10, [0, 1, 2, 3, 4, 5, 6, 7, 8]), (11, [0, 1, 2, 3, 4, 5, 6, 7, 8]), (12, [0, 1, 2, 3, 4, 5, 6, 7, 8]), (13, [0, 1, 2, 3, 4, 5, 6, 7, 8, 9, 10, 11, 12]), (14, [0, 1, 2, 3, 4, 5, 6, 7, 8, 9, 10, 11, 12]), (15, [0, 1, 2, 3, 4, 5, 6, 7, 8]), (16, [0, 1, 2, 3, 4, 5, 6, 7, 8]), (17, [0]), (18, [])] (by decide +kernel) ?_; conv => whnf)
    | (refine RegX.rule (id := 19) hT rfl [] [(0, []), (1, [0]), (2, [0, 1]), (3, [0, 1]), (4, [0]), (5, [0]), (6, [0]), (7, [0, 1, 2, 3, 4, 5, 6]), (8, [0, 1, 2, 3, 4, 5, 6, 7]), (9, [0, 1, 2, 3, 4, 5, 6, 7]), (10, [0, 1, 2, 3, 4, 5, 6]), (11, [0, 1, 2, 3, 4, 5, 6]), (12, [0, 1, 2, 3, 4, 5, 6]), (13, [0, 1, 2, 3, 4, 5, 6, 7, 8, 9, 10, 11, 12]), (14, [0]), (15, [0]), (16, []), (17, [])] (by decide +kernel) ?_; conv => whnf)
    | omega
    | (refine And.intro ?_ ?_; ((try dsimp only); first | omega | (refine ⟨by omega, by omega, Int.le_trans (Int.mul_le_mul_of_nonneg_right (Int.ofNat_le.2 (Nat.le_of_ble_eq_true (rfl : Nat.ble _ 1024 = true))) (by omega)) (by omega), by omega⟩) | (refine Nat.le_trans (Nat.mul_le_mul_left _ (Nat.le_of_ble_eq_true (rfl : Nat.ble _ 1024 = true))) ?_; omega) | (unfold inI64; omega) | (constructor <;> omega) | (simp only [inI64, List.length_cons, List.length_append, List.length_nil, List.length_set] at *; omega) | decide | (unfold inI64; decide)); conv => whnf)
    | omega | decide | assumption)
  refine LoopX.freeze 1002 242 4 1 _ rfl ?_
  repeat' (first
    | (refine CallX.of s116t [(1000000, 24), (1000001, 1000), (1000002, 1001), (1000003, 1002), (30, 1100), (16, 1101), (21, 1102)] rfl ⟨SV.le_refl _, SV.le_int rfl, SV.le_int rfl, SV.le_int rfl, SV.le_int rfl, trivial⟩ ⟨Res.le_refl _, Res.le_refl _, Res.le_refl _, Res.le_fro rfl (fun i hi => by (have : i = 0 := by simp at hi; omega); subst this; rfl), trivial⟩ rfl rfl ?_; rintro x rout ⟨rfl, rfl⟩; refine ⟨rfl, ?_⟩; conv => whnf)
    | (refine CallX.of s116t [(1000000, 24), (1000001, 1000), (1000002, 1001), (1000003, 1002), (30, 1200), (16, 1201), (21, 1202)] rfl ⟨SV.le_refl _, SV.le_int rfl, SV.le_int rfl, SV.le_int rfl, SV.le_int rfl, trivial⟩ ⟨Res.le_refl _, Res.le_refl _, Res.le_refl _, Res.le_fro rfl (fun i hi => by (have : i = 0 := by simp at hi; omega); subst this; rfl), trivial⟩ rfl rfl ?_; rintro x rout ⟨rfl, rfl⟩; refine ⟨rfl, ?_⟩; conv => whnf)
    | (refine CallX.of s115b [(1000000, 1100), (1000001, 1101), (1000002, 1102)] rfl ⟨SV.le_refl _, trivial⟩ ⟨Res.le_refl _, Res.le_refl _, Res.le_refl _, trivial⟩ rfl rfl ?_; rintro x rout ⟨rfl, rfl⟩; refine ⟨rfl, ?_⟩; conv => whnf)
    | (refine LoopX.run hT (C := []) 18 rfl [0, 7, 8, 10] [] (fun _ _ h => h) (fun _ h => h) ?_; conv => whnf)
    | (refine LoopX.run hT (C := []) 26 rfl [0, 7, 8, 10, 11, 12, 13] [] (fun _ _ h => h) (fun _ h => h) ?_; conv => whnf)
    | (refine br_intro (fun hb => ?_) (fun hb => ?_) <;> (try simp only [decide_eq_true_eq, decide_eq_false_iff_not, Bool.not_eq_true', Bool.not_eq_false', Bool.and_eq_true, Bool.or_eq_true, beq_iff_eq, not_and, Int.not_le, Int.not_lt, Int.toNat_natCast, beq_eq_false_iff_ne, ne_eq, eq_self, not_true_eq_false, not_false_eq_true] at hb) <;> (conv => whnf))
    | (refine RegX.rule (id := 13) hT rfl [] [(0, []), (1, [0]), (2, [0]), (3, [0]), (4, [0]), (5, [0, 1, 2, 3, 4]), (6, [0, 1, 2, 3, 4]), (7, [0]), (8, [0]), (9, [0, 1, 2, 3, 4, 5, 6, 7, 8]), (10, [0, 1, 2, 3, 4, 5, 6, 7, 8]), (11, [0, 1, 2, 3, 4, 5, 6, 7, 8]), (12, [0, 1, 2, 3, 4, 5, 6, 7, 8]), (13, [0, 1, 2, 3, 4, 5, 6, 7, 8, 9, 10, 11, 12]), (14, [0, 1, 2, 3, 4, 5, 6, 7, 8, 9, 10, 11, 12]), (15, [0, 1, 2, 3, 4, 5, 6, 7, 8]), (16, [0, 1, 2, 3, 4, 5, 6, 7, 8]), (17, [0]), (18, [])] (by decide +kernel) ?_; conv => whnf)
    | (refine RegX.rule (id := 19) hT rfl [] [(0, []), (1, [0]), (2, [0, 1]), (3, [0, 1]), (4, [0]), (5, [0]), (6, [0]), (7, [0, 1, 2, 3, 4, 5, 6]), (8, [0, 1, 2, 3, 4, 5, 6, 7]), (9, [0, 1, 2, 3, 4, 5, 6, 7]), (10, [0, 1, 2, 3, 4, 5, 6]), (11, [0, 1, 2, 3, 4, 5, 6]), (12, [0, 1, 2, 3, 4, 5, 6]), (13, [0, 1, 2, 3, 4, 5, 6, 7, 8, 9, 10, 11, 12]), (14, [0]), (15, [0]), (16, []), (17, [])] (by decide +kernel) ?_; conv => whnf)
    | omega
    | (refine And.intro ?_ ?_; ((try dsimp only); first | omega | (refine ⟨by omega, by omega, Int.le_trans (Int.mul_le_mul_of_nonneg_right (Int.ofNat_le.2 (Nat.le_of_ble_eq_true (rfl : Nat.ble _ 1024 = true))) (by omega)) (by omega), by omega⟩) | (refine Nat.le_trans (Nat.mul_le_mul_left _ (Nat.le_of_ble_eq_true (rfl : Nat.ble _ 1024 = true))) ?_; omega) | (unfold inI64; omega) | (constructor <;> omega) | (simp only [inI64, List.length_cons, List.length_append, List.length_nil, List.length_set] at *; omega) | decide | (unfold inI64; decide)); conv => whnf)
    | omega | decide | assumption)
  refine .freeze _ 106 66 3 _ _ rfl (.weak _ ?_)
  conv => whnf
  exact ⟨.tup [.d (movs [⟨[97], [98], 1⟩]), .d (.int .i64 0)], _, SV.le_tup ⟨SV.le_ro rfl (fun i hi => by (have : i = 0 := by simp at hi; omega); subst this; rfl), SV.le_int rfl, trivial⟩, ⟨rfl, rfl⟩, trivial⟩
theorem mov_eq {a b : Mov} : a = b ↔ a.a = b.a ∧ a.b = b.b ∧ a.many = b.many := by cases a; cases b; simp
instance : DecidableEq Mov := fun _ _ => decidable_of_iff _ mov_eq.symm
-- slices.Equal of moves
theorem s31 (l m : List Mov) (hl : l.length ≤ 2^40) : FSpec Tryz.prog 120 [.d (movs l), .d (movs m)] [] (fun x r => x = .d (.bool (decide (l = m))) ∧ r = []) := by
  refine spec_of hT (C := []) Tryz.func120 rfl Tryz.call120 rfl rfl rfl ?_
  conv => whnf
  repeat' (first
    | (refine br_intro (fun hb => ?_) (fun hb => ?_) <;> (try simp only [decide_eq_true_eq, decide_eq_false_iff_not, Bool.not_eq_true', Bool.not_eq_false', Bool.and_eq_true, Bool.or_eq_true, beq_iff_eq, not_and, Int.not_le, Int.not_lt, Int.toNat_natCast, beq_eq_false_iff_ne, ne_eq, eq_self, not_true_eq_false, not_false_eq_true] at hb) <;> (conv => whnf))
    | (refine RegX.rule (id := 6) hT rfl [] [(0, []), (1, [0]), (2, []), (3, []), (4, [0, 1, 2, 3]), (5, [0, 1, 2, 3, 4]), (6, [0, 1, 2, 3]), (7, [0, 1, 2, 3]), (8, [])] (by decide +kernel) ?_; conv => whnf)
    | omega
    | (refine And.intro ?_ ?_; ((try dsimp only); first | omega | (refine ⟨by omega, by omega, Int.le_trans (Int.mul_le_mul_of_nonneg_right (Int.ofNat_le.2 (Nat.le_of_ble_eq_true (rfl : Nat.ble _ 1024 = true))) (by omega)) (by omega), by omega⟩) | (refine Nat.le_trans (Nat.mul_le_mul_left _ (Nat.le_of_ble_eq_true (rfl : Nat.ble _ 1024 = true))) ?_; omega) | (unfold inI64; omega) | (constructor <;> omega) | (simp only [inI64, List.length_cons, List.length_append, List.length_nil, List.length_set] at *; omega) | decide | (unfold inI64; decide)); conv => whnf)
    | omega | decide | assumption)
  · refine .ret _ ?_
    conv => whnf
    refine ⟨[], ⟨?_, rfl⟩, trivial⟩
    conv => lhs; whnf
    have : ¬ l = m := fun q => by subst q; simp at hb
    simp [this]
  have hlen : l.length = m.length := by
    omega
  refine LoopX.rule hT (C := []) (ι := Nat) (fun i => i ≤ l.length ∧ ∀ j, j < i → l.getD j mv0 = m.getD j mv0) (fun i => mkSt [(0, .d (movs l)), (1, .d (movs m)), (12, .d (.int .i64 l.length)), (13, .d (.int .i64 i))] []) (fun i => l.length - i) 0 ⟨by omega, by omega⟩ (by refine Entails.mk' [] rfl rfl ?_ ?_ <;> repeat' (first | exact True.intro | exact SV.le_refl _ | exact Res.le_refl _ | exact SV.le_int (by omega) | exact SV.le_any _ | refine And.intro ?_ ?_)) ?_
  rintro i ⟨p1, p2⟩
  have e1 : (i : Int).toNat = i := Int.toNat_natCast i
  conv => whnf
  repeat' (first
    | (refine br_intro (fun hb => ?_) (fun hb => ?_) <;> (try simp only [decide_eq_true_eq, decide_eq_false_iff_not, Bool.not_eq_true', Bool.not_eq_false', Bool.and_eq_true, Bool.or_eq_true, beq_iff_eq, not_and, Int.not_le, Int.not_lt, Int.toNat_natCast, beq_eq_false_iff_ne, ne_eq, eq_self, not_true_eq_false, not_false_eq_true] at hb) <;> (conv => whnf))
    | (refine RegX.rule (id := 6) hT rfl [] [(0, []), (1, [0]), (2, []), (3, []), (4, [0, 1, 2, 3]), (5, [0, 1, 2, 3, 4]), (6, [0, 1, 2, 3]), (7, [0, 1, 2, 3]), (8, [])] (by decide +kernel) ?_; conv => whnf)
    | omega
    | (refine And.intro ?_ ?_; ((try dsimp only); first | omega | (refine ⟨by omega, by omega, Int.le_trans (Int.mul_le_mul_of_nonneg_right (Int.ofNat_le.2 (Nat.le_of_ble_eq_true (rfl : Nat.ble _ 1024 = true))) (by omega)) (by omega), by omega⟩) | (refine Nat.le_trans (Nat.mul_le_mul_left _ (Nat.le_of_ble_eq_true (rfl : Nat.ble _ 1024 = true))) ?_; omega) | (unfold inI64; omega) | (constructor <;> omega) | (simp only [inI64, List.length_cons, List.length_append, List.length_nil, List.length_set] at *; omega) | decide | (unfold inI64; decide)); conv => whnf)
    | omega | decide | assumption)
  · refine .ret _ ?_
    conv => whnf
    refine ⟨[], ⟨?_, rfl⟩, trivial⟩
    conv => lhs; whnf
    have : ¬ l = m := fun q => by subst q; simp at hb
    simp [this]
  · exact ⟨i + 1, ⟨by omega, all_step p2 (by rw [mov_eq]; simpa [and_assoc] using hb)⟩, by omega, (by refine Entails.mk' [] rfl rfl ?_ ?_ <;> repeat' (first | exact True.intro | exact SV.le_refl _ | exact Res.le_refl _ | exact SV.le_int (by omega) | exact SV.le_any _ | refine And.intro ?_ ?_))⟩
  · refine .ret _ ?_
    conv => whnf
    refine ⟨[], ⟨?_, rfl⟩, trivial⟩
    conv => lhs; whnf
    have : i = l.length := by omega
    subst this
    simp [eq_of_getD mv0 hlen p2]
-- shifted
theorem s32 : FSpec Tryz.prog 29 [] [] (fun x r => x = .d (.bool true) ∧ r = []) := by
  have h31 := s31 [⟨[97], [98], 1⟩] [⟨[97], [98], 1⟩] (by simp)
  rw [decide_eq_true rfl] at h31
  refine spec_of hT (C := []) Tryz.func29 rfl Tryz.call29 rfl rfl rfl ?_
  conv => whnf
  repeat' (first
    | (refine CallX.pure s27t ⟨SV.le_lit rfl rfl, SV.le_lit rfl rfl, trivial⟩ rfl ?_; conv => whnf)
    | (refine CallX.pure h31 ⟨SV.le_refl _, SV.le_lit rfl rfl, trivial⟩ rfl ?_; conv => whnf)
    | (refine br_intro (fun hb => ?_) (fun hb => ?_) <;> (try simp only [decide_eq_true_eq, decide_eq_false_iff_not, Bool.not_eq_true', Bool.not_eq_false', Bool.and_eq_true, Bool.or_eq_true, beq_iff_eq, not_and, Int.not_le, Int.not_lt, Int.toNat_natCast, beq_eq_false_iff_ne, ne_eq, eq_self, not_true_eq_false, not_false_eq_true] at hb) <;> (conv => whnf))
    | omega
    | (refine And.intro ?_ ?_; ((try dsimp only); first | omega | (refine ⟨by omega, by omega, Int.le_trans (Int.mul_le_mul_of_nonneg_right (Int.ofNat_le.2 (Nat.le_of_ble_eq_true (rfl : Nat.ble _ 1024 = true))) (by omega)) (by omega), by omega⟩) | (refine Nat.le_trans (Nat.mul_le_mul_left _ (Nat.le_of_ble_eq_true (rfl : Nat.ble _ 1024 = true))) ?_; omega) | (unfold inI64; omega) | (constructor <;> omega) | (simp only [inI64, List.length_cons, List.length_append, List.length_nil, List.length_set] at *; omega) | decide | (unfold inI64; decide)); conv => whnf)
    | omega | decide | assumption)
  refine .ret _ ?_
  conv => whnf
  refine ⟨[], ⟨?_, rfl⟩, trivial⟩
  conv => lhs; whnf
end Go.Proofs.YtnkdlkgannnfhaaGreatDoor
set_option maxRecDepth 20000
namespace Go.Proofs.YtnkdlkgannnfhaaGreatDoor
open Go Go.Eng
structure Pnl where
  key : List UInt8
  w : Int
  h : Int
  pr : Int
def pnF : Pnl → List DV := fun p => [.str p.key, .int .i64 p.w, .int .i64 p.h, .int .i64 p.pr]
def pn0 : Pnl := ⟨[], 0, 0, 0⟩
abbrev pnls (l : List Pnl) : DV := seqD 4 pnF pn0 l
structure Mrk where
  pan : List UInt8
  kind : Int
  x : Int
  y : Int
  size : Int
def mkF : Mrk → List DV := fun m => [.str m.pan, .int .i64 m.kind, .int .i64 m.x, .int .i64 m.y, .int .i64 m.size]
def mk0 : Mrk := ⟨[], 0, 0, 0, 0⟩
abbrev mrks (l : List Mrk) : DV := seqD 5 mkF mk0 l
structure Rul where
  near : Int
  slack : Int
  join : Int
  part : Int
def ruF : Rul → List DV := fun r => [.int .i64 r.near, .int .i64 r.slack, .int .i64 r.join, .int .i64 r.part]
def panE (l : List Pnl) (i : Nat) : Int :=
  let x := l.getD i pn0
  if isKeyB x.key = false then 5 else if 0 < i ∧ strLe x.key (l.getD (i - 1) pn0).key = true then 7 else if ¬ ((1 ≤ x.w ∧ x.w ≤ 5000) ∧ (1 ≤ x.h ∧ x.h ≤ 5000) ∧ (0 ≤ x.pr ∧ x.pr ≤ 1000000)) then 1 else 0
def pansE (l : List Pnl) : Int := if 40 < l.length then 2 else firstAt (panE l) l.length
def mrkCmp (a b : Mrk) : Int := firstE [cmpS a.pan b.pan, cmpI a.kind b.kind, cmpI a.x b.x, cmpI a.y b.y, cmpI a.size b.size]
def mrkE (l : List Mrk) (i : Nat) : Int :=
  let x := l.getD i mk0
  if isKeyB x.pan = false then 5 else if ¬ (1 ≤ x.kind ∧ x.kind ≤ 4) then 4 else if ¬ ((0 ≤ x.x ∧ x.x ≤ 5000) ∧ (0 ≤ x.y ∧ x.y ≤ 5000) ∧ (1 ≤ x.size ∧ x.size ≤ 2000)) then 1 else if 0 < i ∧ 0 ≤ mrkCmp (l.getD (i - 1) mk0) x then 7 else 0
def mrksE (l : List Mrk) : Int := if 60 < l.length then 2 else firstAt (mrkE l) l.length
def panIx (p : List Pnl) (key : List UInt8) : Int := ixF (fun i => (p.getD i pn0).key == key) p.length
def onE (p : List Pnl) (l : List Mrk) (i : Nat) : Int :=
  let m := l.getD i mk0
  let k := panIx p m.pan
  if k < 0 then 8 else if (p.getD k.toNat pn0).w ≤ m.x ∨ (p.getD k.toNat pn0).h ≤ m.y then 1 else 0
def sameM (a b : Mrk) : Bool := a.pan == b.pan && decide (a.kind = b.kind)
/-- How many of the first n marks are of a mark's panel and kind. -/
def cntM (l : List Mrk) (m : Mrk) : Nat → Nat
  | 0 => 0
  | n + 1 => cntM l m n + (if sameM (l.getD n mk0) m then 1 else 0)
/-- The marks of one panel and kind that end at a place. -/
def runM (l : List Mrk) : Nat → Nat
  | 0 => 1
  | n + 1 => if sameM (l.getD (n + 1) mk0) (l.getD n mk0) then runM l n + 1 else 1
def fullE (l : List Mrk) (i : Nat) : Int := if 6 < runM l i then 12 else 0
def full2E (l : List Mrk) (i : Nat) : Int := if 6 < cntM l (l.getD i mk0) l.length then 12 else 0
def onPE (p : List Pnl) (l : List Mrk) : Int := if mrksE l ≠ 0 then mrksE l else if firstAt (onE p l) l.length ≠ 0 then firstAt (onE p l) l.length else firstAt (fullE l) l.length
theorem less_trans : ∀ {a b c : List UInt8}, Op.bytesLess a b = true → Op.bytesLess b c = true → Op.bytesLess a c = true := by
  intro a
  induction a with
  | nil => intro b c h1 h2; cases b <;> cases c <;> simp_all [Op.bytesLess]
  | cons x a ih =>
    intro b c h1 h2
    cases b with
    | nil => simp [Op.bytesLess] at h1
    | cons y b =>
      cases c with
      | nil => simp [Op.bytesLess] at h2
      | cons z c =>
        simp only [Op.bytesLess] at h1 h2 ⊢
        grind [UInt8.lt_trans]
theorem less_irr : ∀ (a : List UInt8), Op.bytesLess a a = false := by
  intro a
  induction a with
  | nil => rfl
  | cons x a ih => simp [Op.bytesLess, ih]
/-- By panel, then by kind. -/
def kle (a b : Mrk) : Prop := Op.bytesLess a.pan b.pan = true ∨ (a.pan = b.pan ∧ a.kind ≤ b.kind)
theorem kle_trans {a b c : Mrk} (h : kle a b) (k : kle b c) : kle a c := by
  unfold kle at *
  rcases h with h | ⟨h1, h2⟩ <;> rcases k with k | ⟨k1, k2⟩
  · exact .inl (less_trans h k)
  · exact .inl (k1 ▸ h)
  · exact .inl (h1 ▸ k)
  · exact .inr ⟨h1.trans k1, by omega⟩
theorem kle_anti {a b : Mrk} (h : kle a b) (k : kle b a) : sameM a b = true := by
  unfold kle at *
  rcases h with h | ⟨h1, h2⟩ <;> rcases k with k | ⟨k1, k2⟩
  · have := less_trans h k; rw [less_irr] at this; cases this
  · rw [k1, less_irr] at h; cases h
  · rw [h1, less_irr] at k; cases k
  · simp [sameM, h1]; omega
theorem cmp_kle {a b : Mrk} (h : mrkCmp a b < 0) : kle a b := by
  unfold mrkCmp at h
  simp only [firstE, cmpS, cmpI] at h
  unfold kle
  by_cases q : Op.bytesLess a.pan b.pan = true
  · exact .inl q
  · have q' : Op.bytesLess a.pan b.pan = false := by simpa using q
    by_cases e : a.pan = b.pan
    · refine .inr ⟨e, ?_⟩
      have q2 : Op.bytesLess b.pan a.pan = false := by rw [e]; exact less_irr _
      simp only [q', q2] at h
      grind
    · have := less_tri _ _ q' e
      simp [q', this] at h
def incM (l : List Mrk) : Prop := ∀ i, i + 1 < l.length → kle (l.getD i mk0) (l.getD (i + 1) mk0)
theorem inc_le {l : List Mrk} (h : incM l) : ∀ {j i : Nat}, i ≤ j → j < l.length → kle (l.getD i mk0) (l.getD j mk0) := by
  intro j
  induction j with
  | zero => intro i hi _; obtain rfl : i = 0 := by omega
            exact .inr ⟨rfl, Int.le_refl _⟩
  | succ j ih =>
    intro i hi hj
    by_cases q : i = j + 1
    · subst q; exact .inr ⟨rfl, Int.le_refl _⟩
    · exact kle_trans (ih (by omega) (by omega)) (h j hj)
theorem sameM_symm {a b : Mrk} (h : sameM a b = true) : sameM b a = true := by
  simp [sameM] at *; exact ⟨h.1.symm, h.2.symm⟩
theorem sameM_trans {a b c : Mrk} (h : sameM a b = true) (k : sameM b c = true) : sameM a c = true := by
  simp [sameM] at *; exact ⟨h.1.trans k.1, h.2.trans k.2⟩
theorem cnt_same {l : List Mrk} {a b : Mrk} (h : sameM a b = true) : ∀ n, cntM l a n = cntM l b n := by
  intro n
  induction n with
  | zero => rfl
  | succ n ih =>
    have : sameM (l.getD n mk0) a = sameM (l.getD n mk0) b := by
      rw [Bool.eq_iff_iff]; exact ⟨fun q => sameM_trans q h, fun q => sameM_trans q (sameM_symm h)⟩
    simp only [cntM, ih, this]
theorem cnt_none {l : List Mrk} {m : Mrk} : ∀ n, (∀ j, j < n → sameM (l.getD j mk0) m = false) → cntM l m n = 0 := by
  intro n
  induction n with
  | zero => intro _; rfl
  | succ n ih => intro h; simp only [cntM]; rw [ih (fun j hj => h j (by omega)), h n (by omega)]; rfl
theorem sameM_refl (a : Mrk) : sameM a a = true := by simp [sameM]
theorem run_cnt {l : List Mrk} (h : incM l) : ∀ i, i < l.length → runM l i = cntM l (l.getD i mk0) (i + 1) := by
  intro i
  induction i with
  | zero => intro _; simp [runM, cntM, sameM_refl]
  | succ i ih =>
    intro hi
    rw [cntM, sameM_refl, if_pos rfl, runM]
    split
    · rename_i q
      rw [ih (by omega), cnt_same (sameM_symm q)]
    · rename_i q
      rw [cnt_none]
      intro j hj
      rw [← Bool.not_eq_true]
      intro hs
      refine q (sameM_symm (kle_anti (h i (by omega)) ?_))
      have h1 := inc_le h (i := j) (j := i) (by omega) (by omega)
      have h2 : kle (l.getD (i + 1) mk0) (l.getD j mk0) := by
        have := sameM_symm hs
        simp [sameM] at this
        exact .inr ⟨by simpa using this.1, by simpa using Int.le_of_eq this.2⟩
      exact kle_trans h2 h1
theorem cnt_mono {l : List Mrk} {m : Mrk} : ∀ {n k : Nat}, n ≤ k → cntM l m n ≤ cntM l m k := by
  intro n k
  induction k with
  | zero => intro h; obtain rfl : n = 0 := by omega
            exact Nat.le_refl _
  | succ k ih =>
    intro h
    by_cases q : n = k + 1
    · subst q; exact Nat.le_refl _
    · have := ih (by omega)
      rw [cntM]; omega
/-- The last of a kind has them all behind it. -/
theorem cnt_last {l : List Mrk} {m : Mrk} : ∀ {n : Nat}, 0 < cntM l m n → ∃ i, i < n ∧ sameM (l.getD i mk0) m = true ∧ cntM l m (i + 1) = cntM l m n := by
  intro n
  induction n with
  | zero => intro h; simp [cntM] at h
  | succ n ih =>
    intro h
    by_cases q : sameM (l.getD n mk0) m = true
    · exact ⟨n, by omega, q, rfl⟩
    · have e : cntM l m (n + 1) = cntM l m n := by rw [cntM, if_neg q]; omega
      rw [e] at h ⊢
      obtain ⟨i, h1, h2, h3⟩ := ih h
      exact ⟨i, by omega, h2, h3⟩
theorem firstAt_const {f : Nat → Int} {n : Nat} {e : Int} (h : ∀ i, i < n → f i = 0 ∨ f i = e) : firstAt f n = 0 ∨ firstAt f n = e := by
  induction n with
  | zero => exact .inl rfl
  | succ n ih =>
    rw [firstAt]
    have := ih fun i hi => h i (by omega)
    split
    · exact h n (by omega)
    · exact this
theorem full_eq {l : List Mrk} (h : incM l) : firstAt (full2E l) l.length = firstAt (fullE l) l.length := by
  have c1 := firstAt_const (f := fullE l) (n := l.length) (e := 12) (fun i _ => by unfold fullE; split <;> simp)
  have c2 := firstAt_const (f := full2E l) (n := l.length) (e := 12) (fun i _ => by unfold full2E; split <;> simp)
  rcases c1 with c1 | c1 <;> rcases c2 with c2 | c2
  · rw [c1, c2]
  · exfalso
    have h1 := firstAt_all c1
    have : firstAt (full2E l) l.length = 0 := by
      refine firstAt_zero (fun i hi => ?_)
      unfold full2E
      rw [if_neg]
      intro q
      obtain ⟨k, k1, k2, k3⟩ := cnt_last (n := l.length) (by omega : 0 < cntM l (l.getD i mk0) l.length)
      have := h1 k k1
      unfold fullE at this
      rw [run_cnt h k k1, cnt_same k2, k3, if_pos q] at this
      cases this
    omega
  · exfalso
    have h1 := firstAt_all c2
    have : firstAt (fullE l) l.length = 0 := by
      refine firstAt_zero (fun i hi => ?_)
      unfold fullE
      rw [if_neg]
      intro q
      have := h1 i hi
      unfold full2E at this
      rw [if_pos] at this
      · cases this
      · rw [run_cnt h i hi] at q
        have := cnt_mono (l := l) (m := l.getD i mk0) (n := i + 1) (k := l.length) (by omega)
        omega
    omega
  · rw [c1, c2]
theorem mrks_inc {l : List Mrk} (h : mrksE l = 0) : incM l := by
  unfold mrksE at h
  split at h
  · cases h
  intro i hi
  have := firstAt_all h (i + 1) hi
  unfold mrkE at this
  simp only at this
  refine cmp_kle ?_
  grind
end Go.Proofs.YtnkdlkgannnfhaaGreatDoor
set_option maxRecDepth 20000
namespace Go.Proofs.YtnkdlkgannnfhaaGreatDoor
open Go Go.Eng
theorem getD_app_lt {α : Type} {l m : List α} {i : Nat} {z : α} (h : i < l.length) : (l ++ m).getD i z = l.getD i z := by
  rw [List.getD_eq_getElem?_getD, List.getD_eq_getElem?_getD, List.getElem?_append_left h]
end Go.Proofs.YtnkdlkgannnfhaaGreatDoor
set_option maxRecDepth 20000
namespace Go.Proofs.YtnkdlkgannnfhaaGreatDoor
open Go Go.Eng
def onRd (l : List Roa) (a b : List UInt8) (i : Nat) : Bool := (l.getD i rd0).a == a && (l.getD i rd0).b == b
/-- The number of a road, or -1. -/
def roadX (l : List Roa) (a b : List UInt8) : Int := ixF (onRd l a b) l.length
theorem rds_all {l : List Roa} (h : rdsE l = 0) : l.length ≤ 2500 ∧ ∀ i, i < l.length → rdE l i = 0 := by
  unfold rdsE at h
  split at h
  · cases h
  · exact ⟨by omega, firstAt_all h⟩
def endLt (a b c d : List UInt8) : Prop := Op.bytesLess a c = true ∨ (a = c ∧ Op.bytesLess b d = true)
theorem endLt_of {a b c d : List UInt8} (h : endsC a b c d < 0) : endLt a b c d := by
  unfold endsC at h
  simp only [firstE, cmpS] at h
  unfold endLt
  by_cases q : Op.bytesLess a c = true
  · exact .inl q
  · have q' : Op.bytesLess a c = false := by simpa using q
    by_cases e : a = c
    · subst e
      refine .inr ⟨rfl, ?_⟩
      simp only [less_irr] at h
      grind
    · have := less_tri _ _ q' e
      simp [q', this] at h
theorem endLt_trans {a b c d e f : List UInt8} (h : endLt a b c d) (k : endLt c d e f) : endLt a b e f := by
  unfold endLt at *
  rcases h with h | ⟨rfl, h⟩ <;> rcases k with k | ⟨rfl, k⟩
  · exact .inl (less_trans h k)
  · exact .inl h
  · exact .inl k
  · exact .inr ⟨rfl, less_trans h k⟩
theorem endLt_irr {a b : List UInt8} : ¬ endLt a b a b := by
  unfold endLt; simp [less_irr]
theorem rds_inc {l : List Roa} (h : rdsE l = 0) : ∀ {j i : Nat}, i < j → j < l.length → endLt (l.getD i rd0).a (l.getD i rd0).b (l.getD j rd0).a (l.getD j rd0).b := by
  obtain ⟨_, h2⟩ := rds_all h
  have step : ∀ j, j + 1 < l.length → endLt (l.getD j rd0).a (l.getD j rd0).b (l.getD (j + 1) rd0).a (l.getD (j + 1) rd0).b := fun j hj => by
    have := h2 (j + 1) hj
    unfold rdE at this
    simp only [Nat.add_sub_cancel] at this
    refine endLt_of ?_
    grind
  intro j
  induction j with
  | zero => intro i h; omega
  | succ j ih =>
    intro i hi hj
    by_cases q : i = j
    · subst q; exact step i hj
    · exact endLt_trans (ih (by omega) (by omega)) (step j hj)
theorem rd_inj {l : List Roa} (h : rdsE l = 0) {i j : Nat} {a b : List UInt8} (hi : i < l.length) (hj : j < l.length) (h1 : onRd l a b i = true) (h2 : onRd l a b j = true) : i = j := by
  simp [onRd] at h1 h2
  rcases Nat.lt_trichotomy i j with q | q | q
  · have := rds_inc h q hj
    simp only [List.getD_eq_getElem?_getD] at this
    rw [h1.1, h1.2, h2.1, h2.2] at this
    exact absurd this endLt_irr
  · exact q
  · have := rds_inc h q hi
    simp only [List.getD_eq_getElem?_getD] at this
    rw [h1.1, h1.2, h2.1, h2.2] at this
    exact absurd this endLt_irr
theorem rd_bd {l : List Roa} (h : rdsE l = 0) {i : Nat} (hi : i < l.length) : (0 ≤ (l.getD i rd0).car ∧ (l.getD i rd0).car ≤ 1000000) ∧ 0 ≤ (l.getD i rd0).ride ∧ (l.getD i rd0).ride ≤ 1000000 := by
  have := (rds_all h).2 i hi
  unfold rdE at this
  simp only at this
  grind
theorem ixF_pos {p : Nat → Bool} {n k : Nat} (hk : k < n) (h : p k = true) : 0 ≤ ixF p n := by
  have hb := ixF_bd (p := p) (n := n)
  rcases Int.lt_or_le (ixF p n) 0 with q | q
  · exfalso
    have hn : ∀ m, ixF p m < 0 → ∀ j, j < m → p j = false := by
      intro m
      induction m with
      | zero => intro _ j hj; omega
      | succ m ih =>
        intro hm j hj
        rw [ixF] at hm
        split at hm
        · rename_i hz
          by_cases hjm : j = m
          · subst hjm
            split at hm
            · omega
            · rename_i hf; simpa using hf
          · exact ih (by omega) j (by omega)
        · rename_i hz; have := (ixF_bd (p := p) (n := m)).1; omega
    rw [hn n q k hk] at h
    cases h
  · exact q
theorem roadX_bd (l : List Roa) (a b : List UInt8) : -1 ≤ roadX l a b ∧ roadX l a b < l.length ∧ (0 ≤ roadX l a b → onRd l a b (roadX l a b).toNat = true) := ixF_bd
def roadO (l : List Roa) (a b : List UInt8) : Option Roa := if 0 ≤ roadX l a b then some (l.getD (roadX l a b).toNat rd0) else none
theorem roadO_bd {l : List Roa} (h : rdsE l = 0) {a b : List UInt8} {x : Roa} (hx : roadO l a b = some x) : (0 ≤ x.car ∧ x.car ≤ 1000000) ∧ 0 ≤ x.ride ∧ x.ride ≤ 1000000 := by
  unfold roadO at hx
  have := roadX_bd l a b
  split at hx
  · cases hx
    exact rd_bd h (by omega)
  · cases hx
theorem keyRd (l : List Roa) (a b : List UInt8) (n : Nat) : keyEq [.str a, .str b] [.str (l.getD n rd0).a, .str (l.getD n rd0).b] = onRd l a b n := by
  simp only [keyEq, keyEq1, onRd, Bool.and_true]
  generalize l.getD n rd0 = x
  rw [Bool.beq_comm (a := a), Bool.beq_comm (a := b)]
theorem nHas_eq (l : List Roa) (a b : List UInt8) : ∀ n, nHas l n [.str a, .str b] = true ↔ ∃ i, i < n ∧ onRd l a b i = true := by
  intro n
  induction n with
  | zero => simp [nHas]
  | succ n ih =>
    rw [nHas, Bool.or_eq_true, ih]
    have e : keyEq [.str a, .str b] [.str (l.getD n rd0).a, .str (l.getD n rd0).b] = onRd l a b n := by
      exact keyRd l a b n
    rw [e]
    constructor
    · rintro (q | ⟨i, q1, q2⟩)
      · exact ⟨n, by omega, q⟩
      · exact ⟨i, by omega, q2⟩
    · rintro ⟨i, q1, q2⟩
      by_cases q : i = n
      · subst q; exact .inl q2
      · exact .inr ⟨i, by omega, q2⟩
theorem net_has {l : List Roa} (a b : List UInt8) : nHas l l.length [.str a, .str b] = (roadO l a b).isSome := by
  have hb := roadX_bd l a b
  rw [Bool.eq_iff_iff, nHas_eq]
  unfold roadO
  constructor
  · rintro ⟨i, h1, h2⟩
    have : 0 ≤ roadX l a b := ixF_pos h1 h2
    rw [if_pos this]; rfl
  · intro q
    split at q
    · rename_i h0; exact ⟨(roadX l a b).toNat, by omega, hb.2.2 h0⟩
    · cases q
theorem nVal_eq {l : List Roa} (h : rdsE l = 0) (a b : List UInt8) : ∀ n, n ≤ l.length → (∀ i, i < n → onRd l a b i = true → nVal l n [.str a, .str b] = rdF (l.getD i rd0)) ∧ ((∀ i, i < n → onRd l a b i = false) → nVal l n [.str a, .str b] = rdF rd0) := by
  intro n
  induction n with
  | zero => intro _; exact ⟨fun i hi => by omega, fun _ => rfl⟩
  | succ n ih =>
    intro hn
    have e : keyEq [.str a, .str b] [.str (l.getD n rd0).a, .str (l.getD n rd0).b] = onRd l a b n := by
      exact keyRd l a b n
    obtain ⟨i1, i2⟩ := ih (by omega)
    refine ⟨fun i hi h1 => ?_, fun hn => ?_⟩
    · show (bif keyEq [.str a, .str b] [.str (l.getD n rd0).a, .str (l.getD n rd0).b] then rdF (l.getD n rd0) else nVal l n [.str a, .str b]) = _
      rw [e]
      cases q : onRd l a b n
      · have : i ≠ n := fun q2 => by subst q2; rw [q] at h1; cases h1
        exact i1 i (by omega) h1
      · have := rd_inj h (by omega) (by omega) h1 q
        subst this; rfl
    · show (bif keyEq [.str a, .str b] [.str (l.getD n rd0).a, .str (l.getD n rd0).b] then rdF (l.getD n rd0) else nVal l n [.str a, .str b]) = _
      rw [e, hn n (by omega)]
      exact i2 (fun i hi => hn i (by omega))
theorem net_val {l : List Roa} (h : rdsE l = 0) (a b : List UInt8) : nVal l l.length [.str a, .str b] = rdF ((roadO l a b).getD rd0) := by
  have hb := roadX_bd l a b
  obtain ⟨h1, h2⟩ := nVal_eq h a b l.length (Nat.le_refl _)
  unfold roadO
  split
  · rename_i h0; exact h1 _ (by omega) (hb.2.2 h0)
  · rename_i h0
    refine h2 (fun i hi => ?_)
    rw [← Bool.not_eq_true]
    intro q
    exact h0 (ixF_pos hi q)
def rideO (l : List Roa) (a b : List UInt8) : Option Int := if a = b then some 0 else (roadO l a b).map (·.ride)
def makeO (l : List Roa) (a : List UInt8) (m : Mov) : Option Int := (rideO l a m.a).bind fun n => (roadO l m.a m.b).map fun r => n + r.car
theorem rideO_bd {l : List Roa} (h : rdsE l = 0) {a b : List UInt8} {n : Int} (hn : rideO l a b = some n) : 0 ≤ n ∧ n ≤ 1000000 := by
  unfold rideO at hn
  split at hn
  · cases hn; omega
  · cases q : roadO l a b with
    | none => rw [q] at hn; cases hn
    | some x => rw [q] at hn; cases hn; exact (roadO_bd h q).2
theorem makeO_bd {l : List Roa} (h : rdsE l = 0) {a : List UInt8} {m : Mov} {n : Int} (hn : makeO l a m = some n) : 0 ≤ n ∧ n ≤ 2000000 := by
  unfold makeO at hn
  cases q : rideO l a m.a with
  | none => rw [q] at hn; cases hn
  | some k =>
    cases q2 : roadO l m.a m.b with
    | none => rw [q, q2] at hn; cases hn
    | some x =>
      rw [q, q2] at hn
      cases hn
      have := rideO_bd h q
      have := (roadO_bd h q2).1
      show 0 ≤ k + x.car ∧ k + x.car ≤ _
      omega
abbrev RPt := Option (List UInt8 × Int)
def stepR (l : List Roa) (m : List Mov) (st : RPt) (k : Int) : RPt := st.bind fun p => (makeO l p.1 (m.getD k.toNat mv0)).map fun n => ((m.getD k.toNat mv0).b, p.2 + n)
def partR (l : List Roa) (start : List UInt8) (m : List Mov) (o : List Int) : RPt := o.foldl (stepR l m) (some (start, 0))
def roundO (l : List Roa) (start : List UInt8) (m : List Mov) (o : List Int) : Option Int := (partR l start m o).bind fun p => (rideO l p.1 start).map fun n => p.2 + n
theorem partR_snoc (l : List Roa) (start : List UInt8) (m : List Mov) (o : List Int) (k : Int) : partR l start m (o ++ [k]) = stepR l m (partR l start m o) k := by
  unfold partR; rw [List.foldl_append]; rfl
theorem foldl_none (l : List Roa) (m : List Mov) : ∀ o : List Int, o.foldl (stepR l m) none = none := by
  intro o
  induction o with
  | nil => rfl
  | cons x o ih => exact ih
theorem partR_bd {l : List Roa} (h : rdsE l = 0) {start : List UInt8} {m : List Mov} : ∀ (o : List Int) (c : List UInt8 × Int) (p : List UInt8 × Int), o.foldl (stepR l m) (some c) = some p → c.2 ≤ p.2 ∧ p.2 ≤ c.2 + 2000000 * o.length := by
  intro o
  induction o with
  | nil => intro c p hp; cases hp; simp
  | cons x o ih =>
    intro c p hp
    rw [List.foldl_cons] at hp
    cases q : makeO l c.1 (m.getD x.toNat mv0) with
    | none =>
      have : stepR l m (some c) x = none := by unfold stepR; rw [Option.bind_some, q]; rfl
      rw [this, foldl_none] at hp; cases hp
    | some n =>
      have : stepR l m (some c) x = some ((m.getD x.toNat mv0).b, c.2 + n) := by unfold stepR; rw [Option.bind_some, q]; rfl
      rw [this] at hp
      have h1 := ih _ p hp
      have h2 := makeO_bd h q
      simp only [List.length_cons] at h1 ⊢
      omega
abbrev RSt := List Int × Int
/-- All orders that begin with o: the state is the best one and its cost, or -1. -/
def rs (l : List Roa) (start : List UInt8) (m : List Mov) : Nat → List Int → RSt → RSt
  | 0, o, st => match roundO l start m o with
    | some n => if 0 ≤ st.2 ∧ st.2 ≤ n then st else (o, n)
    | none => st
  | d + 1, o, st => (List.range m.length).foldl (fun (st : RSt) (k : Nat) => if o.contains (k : Int) then st else rs l start m d (o ++ [(k : Int)]) st) st
end Go.Proofs.YtnkdlkgannnfhaaGreatDoor
set_option maxRecDepth 20000
namespace Go.Proofs.YtnkdlkgannnfhaaGreatDoor
open Go Go.Eng
def netH (l : List Roa) : List DV → Bool
  | [.str a, .str b] => (roadO l a b).isSome
  | _ => false
def netV (l : List Roa) : List DV → List DV
  | [.str a, .str b] => rdF ((roadO l a b).getD rd0)
  | _ => rdF rd0
abbrev netG (l : List Roa) : Res := .map true true [.str, .str] [.str [], .str [], .int .i64 0, .int .i64 0] (netH l) (netV l)
theorem wk_two {key : List DV} (h : wk [.str, .str] key = true) : ∃ a b, key = [.str a, .str b] := by
  cases key with
  | nil => simp [wk] at h
  | cons x key =>
    cases key with
    | nil => simp [wk] at h
    | cons y key =>
      cases key with
      | cons z key => simp [wk] at h
      | nil =>
        simp only [wk, Bool.and_true, Bool.and_eq_true] at h
        cases x <;> simp [wk1] at h
        cases y <;> simp at h
        exact ⟨_, _, rfl⟩
-- shift.netOf
theorem z117 (l : List Roa) (hl : rdsE l = 0) : FSpec Tryz.prog 117 [.d (roas l)] [] (fun y r => y = .mp 3 ∧ r = [(3, netG l)]) := by
  have hl2 := (rds_all hl).1
  refine spec_of hT (C := []) Tryz.func117 rfl Tryz.call117 rfl rfl rfl ?_
  conv => whnf
  refine LoopX.rule hT (C := []) (ι := Nat) (fun i => i ≤ l.length) (fun i => mkSt [(3, .mp 3), (7, .d (roas l)), (8, .d (.int .i64 l.length)), (9, .d (.int .i64 i))] [(3, netR l i)]) (fun i => l.length - i) 0 (by omega) ?_ ?_
  · exact Entails.mk' [(3, 6)] rfl rfl ⟨SV.le_refl _, SV.le_refl _, SV.le_refl _, SV.le_refl _, trivial⟩ ⟨Res.le_refl _, trivial⟩
  rintro i p1
  conv => whnf
  repeat' (first
    | (refine br_intro (fun hb => ?_) (fun hb => ?_) <;> (try simp only [decide_eq_true_eq, decide_eq_false_iff_not, Bool.not_eq_true', Bool.not_eq_false', Bool.and_eq_true, Bool.or_eq_true, beq_iff_eq, not_and, Int.not_le, Int.not_lt, Int.toNat_natCast, beq_eq_false_iff_ne, ne_eq, eq_self, not_true_eq_false, not_false_eq_true] at hb) <;> (conv => whnf))
    | omega
    | (refine And.intro ?_ ?_; ((try dsimp only); first | omega | (refine ⟨by omega, by omega, Int.le_trans (Int.mul_le_mul_of_nonneg_right (Int.ofNat_le.2 (Nat.le_of_ble_eq_true (rfl : Nat.ble _ 1024 = true))) (by omega)) (by omega), by omega⟩) | (refine Nat.le_trans (Nat.mul_le_mul_left _ (Nat.le_of_ble_eq_true (rfl : Nat.ble _ 1024 = true))) ?_; omega) | (unfold inI64; omega) | (constructor <;> omega) | (simp only [inI64, List.length_cons, List.length_append, List.length_nil, List.length_set] at *; omega) | decide | (unfold inI64; decide)); conv => whnf)
    | omega | decide | assumption)
  · exact ⟨i + 1, by omega, by omega, Entails.mk' [(3, 3)] rfl rfl ⟨SV.le_refl _, SV.le_refl _, SV.le_refl _, SV.le_refl _, trivial⟩ ⟨Res.le_refl _, trivial⟩⟩
  · have : i = l.length := by omega
    subst this
    refine .ret _ ?_
    conv => whnf
    refine ⟨_, ⟨rfl, rfl⟩, Res.le_map (fun key hk => ?_), trivial⟩
    obtain ⟨a, b, rfl⟩ := wk_two hk
    exact ⟨net_has a b, net_val hl a b⟩
def rideV (l : List Roa) (a b : List UInt8) : Int := (rideO l a b).getD 0
def makeV (l : List Roa) (a : List UInt8) (m : Mov) : Int := rideV l a m.a + ((roadO l m.a m.b).getD rd0).car
theorem rideV_eq (l : List Roa) {a b : List UInt8} (h : ¬ a = b) : rideV l a b = ((roadO l a b).getD rd0).ride ∧ (rideO l a b).isSome = (roadO l a b).isSome := by
  unfold rideV rideO
  rw [if_neg h]
  cases roadO l a b <;> exact ⟨rfl, rfl⟩
theorem rideV_bd {l : List Roa} (h : rdsE l = 0) (a b : List UInt8) : 0 ≤ rideV l a b ∧ rideV l a b ≤ 1000000 := by
  unfold rideV
  cases q : rideO l a b with
  | none => simp
  | some n => exact rideO_bd h q
theorem roadC_bd {l : List Roa} (h : rdsE l = 0) (a b : List UInt8) : 0 ≤ ((roadO l a b).getD rd0).car ∧ ((roadO l a b).getD rd0).car ≤ 1000000 := by
  cases q : roadO l a b with
  | none => simp [rd0]
  | some n => exact (roadO_bd h q).1
theorem makeO_eq (l : List Roa) (a : List UInt8) (m : Mov) : (makeO l a m).isSome = ((rideO l a m.a).isSome && (roadO l m.a m.b).isSome) ∧ ∀ n, makeO l a m = some n → makeV l a m = n := by
  unfold makeO makeV rideV
  cases rideO l a m.a <;> cases roadO l m.a m.b <;> simp
-- ride
theorem z154 (l : List Roa) (a b : List UInt8) : FSpec Tryz.prog 154 [.mp 1000001, .d (.str a), .d (.str b)] [(1000001, netG l)] (fun y r => y = .tup [.d (.int .i64 (rideV l a b)), .d (.bool (rideO l a b).isSome)] ∧ r = [(1000001, netG l)]) := by
  refine spec_of hT (C := []) Tryz.func154 rfl Tryz.call154 rfl rfl rfl ?_
  conv => whnf
  repeat' (first
    | (refine br_intro (fun hb => ?_) (fun hb => ?_) <;> (try simp only [decide_eq_true_eq, decide_eq_false_iff_not, Bool.not_eq_true', Bool.not_eq_false', Bool.and_eq_true, Bool.or_eq_true, beq_iff_eq, not_and, Int.not_le, Int.not_lt, Int.toNat_natCast, beq_eq_false_iff_ne, ne_eq, eq_self, not_true_eq_false, not_false_eq_true] at hb) <;> (conv => whnf))
    | omega
    | (refine And.intro ?_ ?_; ((try dsimp only); first | omega | (refine ⟨by omega, by omega, Int.le_trans (Int.mul_le_mul_of_nonneg_right (Int.ofNat_le.2 (Nat.le_of_ble_eq_true (rfl : Nat.ble _ 1024 = true))) (by omega)) (by omega), by omega⟩) | (refine Nat.le_trans (Nat.mul_le_mul_left _ (Nat.le_of_ble_eq_true (rfl : Nat.ble _ 1024 = true))) ?_; omega) | (unfold inI64; omega) | (constructor <;> omega) | (simp only [inI64, List.length_cons, List.length_append, List.length_nil, List.length_set] at *; omega) | decide | (unfold inI64; decide)); conv => whnf)
    | omega | decide | assumption)
  · refine .ret _ ?_
    conv => whnf
    refine ⟨_, ⟨?_, rfl⟩, Res.le_refl _, trivial⟩
    conv => lhs; whnf
    have : rideO l a b = some 0 := by unfold rideO; rw [if_pos hb]
    unfold rideV
    rw [this]; rfl
  · refine .ret _ ?_
    conv => whnf
    refine ⟨_, ⟨?_, rfl⟩, Res.le_refl _, trivial⟩
    conv => lhs; whnf
    obtain ⟨h1, h2⟩ := rideV_eq l (by simpa using hb)
    rw [h1, h2]; rfl
-- make
theorem z153 (l : List Roa) (hl : rdsE l = 0) (a : List UInt8) (m : Mov) : FSpec Tryz.prog 153 [.mp 1000001, .d (.str a), .agg ((mvF m).map .d)] [(1000001, netG l)] (fun y r => y = .tup [.d (.int .i64 (makeV l a m)), .d (.bool (makeO l a m).isSome)] ∧ r = [(1000001, netG l)]) := by
  have h1 := rideV_bd hl a m.a
  have h2 := roadC_bd hl m.a m.b
  refine spec_of hT (C := []) Tryz.func153 rfl Tryz.call153 rfl rfl rfl ?_
  conv => whnf
  repeat' (first
    | (refine CallX.of (z154 l a m.a) [(1000001, 1000001)] rfl ⟨SV.le_refl _, SV.le_refl _, SV.le_refl _, trivial⟩ ⟨Res.le_refl _, trivial⟩ rfl rfl ?_; rintro x rout ⟨rfl, rfl⟩; refine ⟨rfl, ?_⟩; conv => whnf)
    | (refine br_intro (fun hb => ?_) (fun hb => ?_) <;> (try simp only [decide_eq_true_eq, decide_eq_false_iff_not, Bool.not_eq_true', Bool.not_eq_false', Bool.and_eq_true, Bool.or_eq_true, beq_iff_eq, not_and, Int.not_le, Int.not_lt, Int.toNat_natCast, beq_eq_false_iff_ne, ne_eq, eq_self, not_true_eq_false, not_false_eq_true] at hb) <;> (conv => whnf))
    | omega
    | (refine And.intro ?_ ?_; ((try dsimp only); first | omega | (refine ⟨by omega, by omega, Int.le_trans (Int.mul_le_mul_of_nonneg_right (Int.ofNat_le.2 (Nat.le_of_ble_eq_true (rfl : Nat.ble _ 1024 = true))) (by omega)) (by omega), by omega⟩) | (refine Nat.le_trans (Nat.mul_le_mul_left _ (Nat.le_of_ble_eq_true (rfl : Nat.ble _ 1024 = true))) ?_; omega) | (unfold inI64; omega) | (constructor <;> omega) | (simp only [inI64, List.length_cons, List.length_append, List.length_nil, List.length_set] at *; omega) | decide | (unfold inI64; decide)); conv => whnf)
    | omega | decide | assumption)
  all_goals
    refine .ret _ ?_
    (conv => whnf)
    refine ⟨_, ⟨?_, rfl⟩, Res.le_refl _, trivial⟩
    conv => lhs; whnf
    rw [(makeO_eq l a m).1]
    simp only [*]
    rfl
-- road
theorem z113 (l : List Roa) (hl : l.length ≤ 2^40) (a b : List UInt8) : FSpec Tryz.prog 113 [.d (roas l), .d (.str a), .d (.str b)] [] (fun y r => y = .tup [.agg ((rdF ((roadO l a b).getD rd0)).map .d), .d (.bool (roadO l a b).isSome)] ∧ r = []) := by
  refine spec_of hT (C := []) Tryz.func113 rfl Tryz.call113 rfl rfl rfl ?_
  conv => whnf
  refine LoopX.rule hT (C := []) (ι := Nat) (fun i => i ≤ l.length ∧ ∀ j, j < i → onRd l a b j = false) (fun i => mkSt [(1, .d (.str a)), (2, .d (.str b)), (6, .ptr 6 0), (10, .d (roas l)), (11, .d (.int .i64 l.length)), (12, .d (.int .i64 i))] [(6, .cells 146 ((rdF rd0).map .d))]) (fun i => l.length - i) 0 ⟨by omega, by omega⟩ (by refine Entails.mk' [(6, 6)] rfl rfl ?_ ?_ <;> repeat' (first | exact True.intro | exact SV.le_refl _ | exact Res.le_refl _ | exact SV.le_int (by omega) | exact SV.le_any _ | refine And.intro ?_ ?_)) ?_
  rintro i ⟨p1, p2⟩
  have e1 : (i : Int).toNat = i := Int.toNat_natCast i
  conv => whnf
  repeat' (first
    | (refine br_intro (fun hb => ?_) (fun hb => ?_) <;> (try simp only [decide_eq_true_eq, decide_eq_false_iff_not, Bool.not_eq_true', Bool.not_eq_false', Bool.and_eq_true, Bool.or_eq_true, beq_iff_eq, not_and, Int.not_le, Int.not_lt, Int.toNat_natCast, beq_eq_false_iff_ne, ne_eq, eq_self, not_true_eq_false, not_false_eq_true] at hb) <;> (conv => whnf))
    | omega
    | (refine And.intro ?_ ?_; ((try dsimp only); first | omega | (refine ⟨by omega, by omega, Int.le_trans (Int.mul_le_mul_of_nonneg_right (Int.ofNat_le.2 (Nat.le_of_ble_eq_true (rfl : Nat.ble _ 1024 = true))) (by omega)) (by omega), by omega⟩) | (refine Nat.le_trans (Nat.mul_le_mul_left _ (Nat.le_of_ble_eq_true (rfl : Nat.ble _ 1024 = true))) ?_; omega) | (unfold inI64; omega) | (constructor <;> omega) | (simp only [inI64, List.length_cons, List.length_append, List.length_nil, List.length_set] at *; omega) | decide | (unfold inI64; decide)); conv => whnf)
    | omega | decide | assumption)
  all_goals first
    | exact ⟨i + 1, ⟨by omega, all_step p2 (by clear p2; unfold onRd; grind)⟩, by omega, (by refine Entails.mk' [(6, 6)] rfl rfl ?_ ?_ <;> repeat' (first | exact True.intro | exact SV.le_refl _ | exact Res.le_refl _ | exact SV.le_int (by omega) | exact SV.le_any _ | refine And.intro ?_ ?_))⟩
    | (have h1 : roadX l a b = i := ixF_hit (by omega) p2 (by clear p2; unfold onRd; grind)
       have h2 : roadO l a b = some (l.getD i rd0) := by unfold roadO; rw [if_pos (by omega), h1]; rfl
       refine .ret _ ?_
       (conv => whnf)
       refine ⟨_, ⟨?_, rfl⟩, trivial⟩
       conv => lhs; whnf
       rw [h2]; rfl)
    | (have : i = l.length := by omega
       subst this
       have h1 : roadX l a b = -1 := ixF_none p2
       have h2 : roadO l a b = none := by unfold roadO; rw [if_neg (by omega)]
       refine .ret _ ?_
       (conv => whnf)
       refine ⟨_, ⟨?_, rfl⟩, trivial⟩
       conv => lhs; whnf
       rw [h2]; rfl)
-- ride, of the reference
theorem z156 (l : List Roa) (hl : l.length ≤ 2^40) (a b : List UInt8) : FSpec Tryz.prog 156 [.d (roas l), .d (.str a), .d (.str b)] [] (fun y r => y = .tup [.d (.int .i64 (rideV l a b)), .d (.bool (rideO l a b).isSome)] ∧ r = []) := by
  refine spec_of hT (C := []) Tryz.func156 rfl Tryz.call156 rfl rfl rfl ?_
  conv => whnf
  repeat' (first
    | (refine CallX.exact (z113 l hl a b) rfl rfl ?_; rotate_right; conv => whnf)
    | (refine br_intro (fun hb => ?_) (fun hb => ?_) <;> (try simp only [decide_eq_true_eq, decide_eq_false_iff_not, Bool.not_eq_true', Bool.not_eq_false', Bool.and_eq_true, Bool.or_eq_true, beq_iff_eq, not_and, Int.not_le, Int.not_lt, Int.toNat_natCast, beq_eq_false_iff_ne, ne_eq, eq_self, not_true_eq_false, not_false_eq_true] at hb) <;> (conv => whnf))
    | omega
    | (refine And.intro ?_ ?_; ((try dsimp only); first | omega | (refine ⟨by omega, by omega, Int.le_trans (Int.mul_le_mul_of_nonneg_right (Int.ofNat_le.2 (Nat.le_of_ble_eq_true (rfl : Nat.ble _ 1024 = true))) (by omega)) (by omega), by omega⟩) | (refine Nat.le_trans (Nat.mul_le_mul_left _ (Nat.le_of_ble_eq_true (rfl : Nat.ble _ 1024 = true))) ?_; omega) | (unfold inI64; omega) | (constructor <;> omega) | (simp only [inI64, List.length_cons, List.length_append, List.length_nil, List.length_set] at *; omega) | decide | (unfold inI64; decide)); conv => whnf)
    | omega | decide | assumption)
  · have h0 : rideO l a b = some 0 := by unfold rideO; rw [if_pos hb]
    refine .ret _ ?_
    conv => whnf
    refine ⟨_, ⟨?_, rfl⟩, trivial⟩
    conv => lhs; whnf
    unfold rideV
    rw [h0]; rfl
  · obtain ⟨h1, h2⟩ := rideV_eq l (a := a) (b := b) (by simpa using hb)
    refine .ret _ ?_
    conv => whnf
    refine ⟨_, ⟨?_, rfl⟩, trivial⟩
    conv => lhs; whnf
    rw [h1, h2]; rfl
end Go.Proofs.YtnkdlkgannnfhaaGreatDoor
set_option maxRecDepth 20000
namespace Go.Proofs.YtnkdlkgannnfhaaGreatDoor
open Go Go.Eng
def intX (l : List Int) (v : Int) : Int := ixF (fun i => decide (v = l.getD i 0)) l.length
theorem intX_has (l : List Int) (v : Int) : decide (0 ≤ intX l v) = l.contains v := by
  have hb := ixF_bd (p := fun i => decide (v = l.getD i 0)) (n := l.length)
  rw [Bool.eq_iff_iff, decide_eq_true_eq, List.contains_iff_mem]
  constructor
  · intro h
    have h1 := hb.2.2 h
    rw [of_decide_eq_true h1]
    exact getD_mem (by unfold intX at h; omega)
  · intro h
    obtain ⟨i, hi, rfl⟩ := List.mem_iff_getElem.1 h
    exact ixF_pos hi (by simp [List.getD_eq_getElem?_getD, hi])
abbrev inB (l : List Int) : Res := seqB 3 1 iF 0 l
-- slices.Index of numbers
theorem z155n (l : List Int) (hl : l.length ≤ 2^40) (v : Int) : FSpec Tryz.prog 155 [.d (ints l), .d (.int .i64 v)] [] (fun y r => y = .d (.int .i64 (intX l v)) ∧ r = []) := by
  refine spec_of hT (C := []) Tryz.func155 rfl Tryz.call155 rfl rfl rfl ?_
  conv => whnf
  refine LoopX.rule hT (C := []) (ι := Nat) (fun i => i ≤ l.length ∧ ∀ j, j < i → decide (v = l.getD j 0) = false) (fun i => mkSt [(0, .d (ints l)), (1, .d (.int .i64 v)), (7, .d (.int .i64 l.length)), (8, .d (.int .i64 i))] []) (fun i => l.length - i) 0 ⟨by omega, by omega⟩ (by (refine Entails.mk' [] rfl rfl ?_ ?_ <;> repeat' (first | exact True.intro | exact SV.le_refl _ | exact Res.le_refl _ | exact SV.le_int (by omega) | exact SV.le_any _ | refine And.intro ?_ ?_)); done) ?_
  rintro i ⟨p1, p2⟩
  have e1 : (i : Int).toNat = i := Int.toNat_natCast i
  conv => whnf
  repeat' (first
    | (refine br_intro (fun hb => ?_) (fun hb => ?_) <;> (try simp only [decide_eq_true_eq, decide_eq_false_iff_not, Bool.not_eq_true', Bool.not_eq_false', Bool.and_eq_true, Bool.or_eq_true, beq_iff_eq, not_and, Int.not_le, Int.not_lt, Int.toNat_natCast, beq_eq_false_iff_ne, ne_eq, eq_self, not_true_eq_false, not_false_eq_true] at hb) <;> (conv => whnf))
    | omega
    | (refine And.intro ?_ ?_; ((try dsimp only); first | omega | (refine ⟨by omega, by omega, Int.le_trans (Int.mul_le_mul_of_nonneg_right (Int.ofNat_le.2 (Nat.le_of_ble_eq_true (rfl : Nat.ble _ 1024 = true))) (by omega)) (by omega), by omega⟩) | (refine Nat.le_trans (Nat.mul_le_mul_left _ (Nat.le_of_ble_eq_true (rfl : Nat.ble _ 1024 = true))) ?_; omega) | (unfold inI64; omega) | (constructor <;> omega) | (simp only [inI64, List.length_cons, List.length_append, List.length_nil, List.length_set] at *; omega) | decide | (unfold inI64; decide)); conv => whnf)
    | omega | decide | assumption)
  · refine .ret _ ?_
    conv => whnf
    refine ⟨_, ⟨?_, rfl⟩, trivial⟩
    conv => lhs; whnf
    congr 2
    exact (ixF_hit (by omega) p2 (by simpa using hb)).symm
  · exact ⟨i + 1, ⟨by omega, all_step p2 (by simpa using hb)⟩, by omega, (by (refine Entails.mk' [] rfl rfl ?_ ?_ <;> repeat' (first | exact True.intro | exact SV.le_refl _ | exact Res.le_refl _ | exact SV.le_int (by omega) | exact SV.le_any _ | refine And.intro ?_ ?_)); done)⟩
  · refine .ret _ ?_
    conv => whnf
    refine ⟨_, ⟨?_, rfl⟩, trivial⟩
    conv => lhs; whnf
    congr 2
    have : i = l.length := by omega
    subst this
    exact (ixF_none p2).symm
-- slices.Index of numbers
theorem z155o (l : List Int) (hl : l.length ≤ 2^40) (v : Int) : FSpec Tryz.prog 155 [.buf 1000001, .d (.int .i64 v)] [(1000001, inB l)] (fun y r => y = .d (.int .i64 (intX l v)) ∧ r = [(1000001, inB l)]) := by
  refine spec_of hT (C := []) Tryz.func155 rfl Tryz.call155 rfl rfl rfl ?_
  conv => whnf
  refine LoopX.rule hT (C := []) (ι := Nat) (fun i => i ≤ l.length ∧ ∀ j, j < i → decide (v = l.getD j 0) = false) (fun i => mkSt [(0, .buf 1000001), (1, .d (.int .i64 v)), (7, .d (.int .i64 l.length)), (8, .d (.int .i64 i))] [(1000001, inB l)]) (fun i => l.length - i) 0 ⟨by omega, by omega⟩ (by (refine Entails.mk' [(1000001, 1000001)] rfl rfl ?_ ?_ <;> repeat' (first | exact True.intro | exact SV.le_refl _ | exact Res.le_refl _ | exact SV.le_int (by omega) | exact SV.le_any _ | refine And.intro ?_ ?_)); done) ?_
  rintro i ⟨p1, p2⟩
  have e1 : (i : Int).toNat = i := Int.toNat_natCast i
  conv => whnf
  repeat' (first
    | (refine br_intro (fun hb => ?_) (fun hb => ?_) <;> (try simp only [decide_eq_true_eq, decide_eq_false_iff_not, Bool.not_eq_true', Bool.not_eq_false', Bool.and_eq_true, Bool.or_eq_true, beq_iff_eq, not_and, Int.not_le, Int.not_lt, Int.toNat_natCast, beq_eq_false_iff_ne, ne_eq, eq_self, not_true_eq_false, not_false_eq_true] at hb) <;> (conv => whnf))
    | omega
    | (refine And.intro ?_ ?_; ((try dsimp only); first | omega | (refine ⟨by omega, by omega, Int.le_trans (Int.mul_le_mul_of_nonneg_right (Int.ofNat_le.2 (Nat.le_of_ble_eq_true (rfl : Nat.ble _ 1024 = true))) (by omega)) (by omega), by omega⟩) | (refine Nat.le_trans (Nat.mul_le_mul_left _ (Nat.le_of_ble_eq_true (rfl : Nat.ble _ 1024 = true))) ?_; omega) | (unfold inI64; omega) | (constructor <;> omega) | (simp only [inI64, List.length_cons, List.length_append, List.length_nil, List.length_set] at *; omega) | decide | (unfold inI64; decide)); conv => whnf)
    | omega | decide | assumption)
  · refine .ret _ ?_
    conv => whnf
    refine ⟨_, ⟨?_, rfl⟩, Res.le_refl _, trivial⟩
    conv => lhs; whnf
    congr 2
    exact (ixF_hit (by omega) p2 (by simpa using hb)).symm
  · exact ⟨i + 1, ⟨by omega, all_step p2 (by simpa using hb)⟩, by omega, (by (refine Entails.mk' [(1000001, 1000001)] rfl rfl ?_ ?_ <;> repeat' (first | exact True.intro | exact SV.le_refl _ | exact Res.le_refl _ | exact SV.le_int (by omega) | exact SV.le_any _ | refine And.intro ?_ ?_)); done)⟩
  · refine .ret _ ?_
    conv => whnf
    refine ⟨_, ⟨?_, rfl⟩, Res.le_refl _, trivial⟩
    conv => lhs; whnf
    congr 2
    have : i = l.length := by omega
    subst this
    exact (ixF_none p2).symm
-- slices.Contains of numbers
theorem z57 (l : List Int) (hl : l.length ≤ 2^40) (v : Int) : FSpec Tryz.prog 57 [.d (ints l), .d (.int .i64 v)] [] (fun y r => y = .d (.bool (l.contains v)) ∧ r = []) := by
  refine spec_of hT (C := []) Tryz.func57 rfl Tryz.call57 rfl rfl rfl ?_
  conv => whnf
  repeat' (first
    | (refine CallX.exact (z155n l hl v) rfl rfl ?_; rotate_right; conv => whnf)
    | (refine br_intro (fun hb => ?_) (fun hb => ?_) <;> (try simp only [decide_eq_true_eq, decide_eq_false_iff_not, Bool.not_eq_true', Bool.not_eq_false', Bool.and_eq_true, Bool.or_eq_true, beq_iff_eq, not_and, Int.not_le, Int.not_lt, Int.toNat_natCast, beq_eq_false_iff_ne, ne_eq, eq_self, not_true_eq_false, not_false_eq_true] at hb) <;> (conv => whnf))
    | omega
    | (refine And.intro ?_ ?_; ((try dsimp only); first | omega | (refine ⟨by omega, by omega, Int.le_trans (Int.mul_le_mul_of_nonneg_right (Int.ofNat_le.2 (Nat.le_of_ble_eq_true (rfl : Nat.ble _ 1024 = true))) (by omega)) (by omega), by omega⟩) | (refine Nat.le_trans (Nat.mul_le_mul_left _ (Nat.le_of_ble_eq_true (rfl : Nat.ble _ 1024 = true))) ?_; omega) | (unfold inI64; omega) | (constructor <;> omega) | (simp only [inI64, List.length_cons, List.length_append, List.length_nil, List.length_set] at *; omega) | decide | (unfold inI64; decide)); conv => whnf)
    | omega | decide | assumption)
  refine .ret _ ?_
  conv => whnf
  refine ⟨[], ⟨?_, rfl⟩, trivial⟩
  conv => lhs; whnf
  rw [← intX_has]
theorem z57o (l : List Int) (hl : l.length ≤ 2^40) (v : Int) : FSpec Tryz.prog 57 [.buf 1000001, .d (.int .i64 v)] [(1000001, inB l)] (fun y r => y = .d (.bool (l.contains v)) ∧ r = [(1000001, inB l)]) := by
  refine spec_of hT (C := []) Tryz.func57 rfl Tryz.call57 rfl rfl rfl ?_
  conv => whnf
  repeat' (first
    | (refine CallX.of (z155o l hl v) [(1000001, 1000001)] rfl ⟨SV.le_refl _, SV.le_refl _, trivial⟩ ⟨Res.le_refl _, trivial⟩ rfl rfl ?_; rintro x rout ⟨rfl, rfl⟩; refine ⟨rfl, ?_⟩; conv => whnf)
    | (refine br_intro (fun hb => ?_) (fun hb => ?_) <;> (try simp only [decide_eq_true_eq, decide_eq_false_iff_not, Bool.not_eq_true', Bool.not_eq_false', Bool.and_eq_true, Bool.or_eq_true, beq_iff_eq, not_and, Int.not_le, Int.not_lt, Int.toNat_natCast, beq_eq_false_iff_ne, ne_eq, eq_self, not_true_eq_false, not_false_eq_true] at hb) <;> (conv => whnf))
    | omega
    | (refine And.intro ?_ ?_; ((try dsimp only); first | omega | (refine ⟨by omega, by omega, Int.le_trans (Int.mul_le_mul_of_nonneg_right (Int.ofNat_le.2 (Nat.le_of_ble_eq_true (rfl : Nat.ble _ 1024 = true))) (by omega)) (by omega), by omega⟩) | (refine Nat.le_trans (Nat.mul_le_mul_left _ (Nat.le_of_ble_eq_true (rfl : Nat.ble _ 1024 = true))) ?_; omega) | (unfold inI64; omega) | (constructor <;> omega) | (simp only [inI64, List.length_cons, List.length_append, List.length_nil, List.length_set] at *; omega) | decide | (unfold inI64; decide)); conv => whnf)
    | omega | decide | assumption)
  refine .ret _ ?_
  conv => whnf
  refine ⟨_, ⟨?_, rfl⟩, Res.le_refl _, trivial⟩
  conv => lhs; whnf
  rw [← intX_has]
-- slices.Clone of numbers, of an own row: what it gives back is changed no more
theorem z139 (l : List Int) (hl : l.length ≤ 2^20) : FSpec Tryz.prog 139 [.buf 1000001] [(1000001, inB l)] (fun y r => y = .d (ints l) ∧ r = [(1000001, inB l)]) := by
  refine spec_of hT (C := [5]) Tryz.func139 rfl Tryz.call139 rfl rfl rfl ?_
  conv => whnf
  rintro b hbn
  conv => whnf
  repeat' (first
    | (refine br_intro (fun hb => ?_) (fun hb => ?_) <;> (try simp only [decide_eq_true_eq, decide_eq_false_iff_not, Bool.not_eq_true', Bool.not_eq_false', Bool.and_eq_true, Bool.or_eq_true, beq_iff_eq, not_and, Int.not_le, Int.not_lt, Int.toNat_natCast, beq_eq_false_iff_ne, ne_eq, eq_self, not_true_eq_false, not_false_eq_true] at hb) <;> (conv => whnf))
    | omega
    | (refine And.intro ?_ ?_; ((try dsimp only); first | omega | (refine ⟨by omega, by omega, Int.le_trans (Int.mul_le_mul_of_nonneg_right (Int.ofNat_le.2 (Nat.le_of_ble_eq_true (rfl : Nat.ble _ 1024 = true))) (by omega)) (by omega), by omega⟩) | (refine Nat.le_trans (Nat.mul_le_mul_left _ (Nat.le_of_ble_eq_true (rfl : Nat.ble _ 1024 = true))) ?_; omega) | (unfold inI64; omega) | (constructor <;> omega) | (simp only [inI64, List.length_cons, List.length_append, List.length_nil, List.length_set] at *; omega) | decide | (unfold inI64; decide)); conv => whnf)
    | omega | decide | assumption)
  · have : l = [] := List.eq_nil_of_length_eq_zero (hbn (by assumption))
    subst this
    refine .weak _ ?_
    (conv => whnf)
    exact ⟨_, _, SV.le_nilS, ⟨rfl, rfl⟩, Res.le_refl _, trivial⟩
  · refine .freeze _ 7 3 1 _ _ rfl (.weak _ ?_)
    (conv => whnf)
    exact ⟨_, _, SV.le_ro (by simp) (fun i hi => by rw [appGet_ge (by omega)]; rfl), ⟨rfl, rfl⟩, Res.le_refl _, trivial⟩
def ordOk (n : Nat) (o : List Int) : Prop := ∀ x ∈ o, 0 ≤ x ∧ x < n
-- RoundOf
set_option maxHeartbeats 2000000 in
theorem z58 (l : List Roa) (hl : rdsE l = 0) (start : List UInt8) (m : List Mov) (hm : m.length ≤ 2^40) (o : List Int) (ho : ordOk m.length o) (hol : o.length ≤ 1000) :
    FSpec Tryz.prog 58 [.d (roas l), .d (.str start), .d (movs m), .d (ints o)] [] (fun y r => (∃ v, y = .tup [.d (.int .i64 v), .d (.bool (roundO l start m o).isSome)] ∧ ∀ n, roundO l start m o = some n → v = n) ∧ r = []) := by
  have hl2 := (rds_all hl).1
  refine spec_of hT (C := []) Tryz.func58 rfl Tryz.call58 rfl rfl rfl ?_
  conv => whnf
  refine LoopX.rule hT (C := []) (ι := Nat × List UInt8 × Int) (fun (i, c, s) => i ≤ o.length ∧ partR l start m (o.take i) = some (c, s))
    (fun (i, c, s) => mkSt [(0, .d (roas l)), (1, .d (.str start)), (2, .d (movs m)), (10, .d (.str c)), (11, .d (.int .i64 s)), (21, .d (ints o)), (22, .d (.int .i64 o.length)), (23, .d (.int .i64 i))] []) (fun (i, _, _) => o.length - i) (0, start, 0) ⟨by simp, by simp [partR]⟩ (by (refine Entails.mk' [] rfl rfl ?_ ?_ <;> repeat' (first | exact True.intro | exact SV.le_refl _ | exact Res.le_refl _ | exact SV.le_int (by omega) | exact SV.le_any _ | refine And.intro ?_ ?_)); done) ?_
  rintro ⟨i, c, s⟩ ⟨p1, p2⟩
  have e1 : (i : Int).toNat = i := Int.toNat_natCast i
  have hsb := partR_bd (start := start) hl _ _ _ p2
  simp only [List.length_take] at hsb
  have hk := fun (h : i < o.length) => ho (o.getD i 0) (getD_mem h)
  have hnext : i < o.length → partR l start m (o.take (i + 1)) = (makeO l c (m.getD (o.getD i 0).toNat mv0)).map fun n => ((m.getD (o.getD i 0).toNat mv0).b, s + n) := fun h => by
    rw [List.take_add_one, List.getElem?_eq_getElem h]
    simp only [Option.toList]
    rw [partR_snoc, p2]
    have : o.getD i 0 = o[i] := by rw [List.getD_eq_getElem?_getD, List.getElem?_eq_getElem h]; rfl
    rw [this]
    rfl
  have hdead : i < o.length → makeO l c (m.getD (o.getD i 0).toNat mv0) = none → roundO l start m o = none := fun h hq => by
    have h1 := hnext h
    rw [hq] at h1
    have : partR l start m o = none := by
      conv => lhs; rw [← List.take_append_drop (i + 1) o]
      unfold partR at h1 ⊢
      rw [List.foldl_append]
      simp only [Option.map_none] at h1
      rw [h1, foldl_none]
    unfold roundO; rw [this]; rfl
  by_cases hi : i < o.length
  · have hk := hk hi
    have hk2 : 0 ≤ o.getD (i : Int).toNat 0 ∧ o.getD (i : Int).toNat 0 < (m.length : Int) := hk
    have hb1 := rideV_bd hl c (m.getD (o.getD (i : Int).toNat 0).toNat mv0).a
    have hb2 := roadC_bd hl (m.getD (o.getD (i : Int).toNat 0).toNat mv0).a (m.getD (o.getD (i : Int).toNat 0).toNat mv0).b
    have hmk := makeO_eq l c (m.getD (o.getD i 0).toNat mv0)
    have hn := hnext hi
    have hd := hdead hi
    have h156 := z156 l (by omega) c (m.getD (o.getD (i : Int).toNat 0).toNat mv0).a
    have h113 := z113 l (by omega) (m.getD (o.getD (i : Int).toNat 0).toNat mv0).a (m.getD (o.getD (i : Int).toNat 0).toNat mv0).b
    have hmv : makeV l c (m.getD (o.getD i 0).toNat mv0) = rideV l c (m.getD (o.getD (i : Int).toNat 0).toNat mv0).a + ((roadO l (m.getD (o.getD (i : Int).toNat 0).toNat mv0).a (m.getD (o.getD (i : Int).toNat 0).toNat mv0).b).getD rd0).car := rfl
    have hms : (makeO l c (m.getD (o.getD i 0).toNat mv0)).isSome = ((rideO l c (m.getD (o.getD (i : Int).toNat 0).toNat mv0).a).isSome && (roadO l (m.getD (o.getD (i : Int).toNat 0).toNat mv0).a (m.getD (o.getD (i : Int).toNat 0).toNat mv0).b).isSome) := hmk.1
    have hmw := hmk.2
    clear hmk hnext hdead
    generalize hM : makeO l c (m.getD (o.getD i 0).toNat mv0) = M at hms hmw hn hd
    generalize hR : (rideO l c (m.getD (o.getD (i : Int).toNat 0).toNat mv0).a).isSome = R at hms h156
    generalize hW : (roadO l (m.getD (o.getD (i : Int).toNat 0).toNat mv0).a (m.getD (o.getD (i : Int).toNat 0).toNat mv0).b).isSome = W at hms h113
    by_cases hM0 : M = none
    · have hd2 := hd hM0
      clear hd
      subst hM0
      have hRW : (R && W) = false := hms.symm
      conv => whnf
      repeat' (first
        | (refine CallX.exact (h156) rfl rfl ?_; rotate_right; conv => whnf)
        | (refine CallX.exact (h113) rfl rfl ?_; rotate_right; conv => whnf)
        | (refine br_intro (fun hb => ?_) (fun hb => ?_) <;> (try simp only [decide_eq_true_eq, decide_eq_false_iff_not, Bool.not_eq_true', Bool.not_eq_false', Bool.and_eq_true, Bool.or_eq_true, beq_iff_eq, not_and, Int.not_le, Int.not_lt, Int.toNat_natCast, beq_eq_false_iff_ne, ne_eq, eq_self, not_true_eq_false, not_false_eq_true] at hb) <;> (conv => whnf))
        | (refine RegX.rule (id := 6) hT rfl [] [(0, []), (1, [0]), (2, [0, 1]), (3, [0]), (4, [0]), (5, [0]), (6, [0, 1, 2, 3, 4, 5]), (7, [0, 1, 2, 3, 4, 5, 6]), (8, [0, 1, 2, 3, 4, 5]), (9, [0, 1, 2, 3, 4, 5]), (10, [0, 1, 2, 3, 4, 5]), (15, [0, 1, 2, 3, 4, 5, 6, 7, 8, 9, 10]), (11, [15]), (12, [15]), (13, [15]), (14, [15, 13]), (16, [14]), (17, [])] (by decide +kernel) ?_; conv => whnf)
        | (refine RegX.rule (id := 9) hT rfl [] [(0, []), (1, [0]), (2, []), (3, []), (4, []), (5, [0, 1, 2, 3, 4]), (6, [0, 1, 2, 3, 4, 5]), (7, [0, 1, 2, 3, 4]), (8, [0, 1, 2, 3, 4, 5, 6, 7]), (9, [0, 1, 2, 3, 4, 5, 6, 7]), (10, [0, 1, 2, 3, 4]), (11, [5, 6, 7, 8, 9, 10]), (12, [])] (by decide +kernel) ?_; conv => whnf)
        | omega
        | (refine And.intro ?_ ?_; ((try dsimp only); first | omega | (refine ⟨by omega, by omega, Int.le_trans (Int.mul_le_mul_of_nonneg_right (Int.ofNat_le.2 (Nat.le_of_ble_eq_true (rfl : Nat.ble _ 1024 = true))) (by omega)) (by omega), by omega⟩) | (refine Nat.le_trans (Nat.mul_le_mul_left _ (Nat.le_of_ble_eq_true (rfl : Nat.ble _ 1024 = true))) ?_; omega) | (unfold inI64; omega) | (constructor <;> omega) | (simp only [inI64, List.length_cons, List.length_append, List.length_nil, List.length_set] at *; omega) | decide | (unfold inI64; decide)); conv => whnf)
        | omega | decide | assumption)
      all_goals first
        | (refine .ret _ ?_
           conv => whnf
           exact ⟨[], ⟨⟨0, by rw [hd2]; rfl, by rw [hd2]; intro n h; cases h⟩, rfl⟩, trivial⟩)
        | (exfalso; grind)
    · obtain ⟨v, rfl⟩ := Option.ne_none_iff_exists'.1 hM0
      have hv := hmw v rfl
      have hRW : (R && W) = true := hms.symm
      conv => whnf
      repeat' (first
        | (refine CallX.exact (h156) rfl rfl ?_; rotate_right; conv => whnf)
        | (refine CallX.exact (h113) rfl rfl ?_; rotate_right; conv => whnf)
        | (refine br_intro (fun hb => ?_) (fun hb => ?_) <;> (try simp only [decide_eq_true_eq, decide_eq_false_iff_not, Bool.not_eq_true', Bool.not_eq_false', Bool.and_eq_true, Bool.or_eq_true, beq_iff_eq, not_and, Int.not_le, Int.not_lt, Int.toNat_natCast, beq_eq_false_iff_ne, ne_eq, eq_self, not_true_eq_false, not_false_eq_true] at hb) <;> (conv => whnf))
        | (refine RegX.rule (id := 6) hT rfl [] [(0, []), (1, [0]), (2, [0, 1]), (3, [0]), (4, [0]), (5, [0]), (6, [0, 1, 2, 3, 4, 5]), (7, [0, 1, 2, 3, 4, 5, 6]), (8, [0, 1, 2, 3, 4, 5]), (9, [0, 1, 2, 3, 4, 5]), (10, [0, 1, 2, 3, 4, 5]), (15, [0, 1, 2, 3, 4, 5, 6, 7, 8, 9, 10]), (11, [15]), (12, [15]), (13, [15]), (14, [15, 13]), (16, [14]), (17, [])] (by decide +kernel) ?_; conv => whnf)
        | (refine RegX.rule (id := 9) hT rfl [] [(0, []), (1, [0]), (2, []), (3, []), (4, []), (5, [0, 1, 2, 3, 4]), (6, [0, 1, 2, 3, 4, 5]), (7, [0, 1, 2, 3, 4]), (8, [0, 1, 2, 3, 4, 5, 6, 7]), (9, [0, 1, 2, 3, 4, 5, 6, 7]), (10, [0, 1, 2, 3, 4]), (11, [5, 6, 7, 8, 9, 10]), (12, [])] (by decide +kernel) ?_; conv => whnf)
        | omega
        | (refine And.intro ?_ ?_; ((try dsimp only); first | omega | (refine ⟨by omega, by omega, Int.le_trans (Int.mul_le_mul_of_nonneg_right (Int.ofNat_le.2 (Nat.le_of_ble_eq_true (rfl : Nat.ble _ 1024 = true))) (by omega)) (by omega), by omega⟩) | (refine Nat.le_trans (Nat.mul_le_mul_left _ (Nat.le_of_ble_eq_true (rfl : Nat.ble _ 1024 = true))) ?_; omega) | (unfold inI64; omega) | (constructor <;> omega) | (simp only [inI64, List.length_cons, List.length_append, List.length_nil, List.length_set] at *; omega) | decide | (unfold inI64; decide)); conv => whnf)
        | omega | decide | assumption)
      all_goals first
        | (refine ⟨(i + 1, (m.getD (o.getD i 0).toNat mv0).b, s + v), ⟨by omega, hn⟩, (show o.length - (i + 1) < o.length - i by omega), Entails.mk' [] rfl rfl ⟨SV.le_refl _, SV.le_refl _, SV.le_refl _, SV.le_refl _, SV.le_int (by omega), SV.le_refl _, SV.le_refl _, SV.le_refl _, trivial⟩ trivial⟩)
        | (exfalso; grind)
  · obtain rfl : i = o.length := by omega
    rw [List.take_length] at p2
    have hro : roundO l start m o = (rideO l c start).map fun n => s + n := by unfold roundO; rw [p2]; rfl
    have hb1 := rideV_bd hl c start
    have h156 := z156 l (by omega) c start
    have hval : ∀ n, roundO l start m o = some n → s + rideV l c start = n := fun n h => by
      rw [hro] at h
      obtain ⟨w, hw, rfl⟩ := Option.map_eq_some_iff.1 h
      unfold rideV; rw [hw]; rfl
    have hiss : (roundO l start m o).isSome = (rideO l c start).isSome := by rw [hro, Option.isSome_map]
    conv => whnf
    repeat' (first
      | (refine CallX.exact (h156) rfl rfl ?_; rotate_right; conv => whnf)
      | (refine br_intro (fun hb => ?_) (fun hb => ?_) <;> (try simp only [decide_eq_true_eq, decide_eq_false_iff_not, Bool.not_eq_true', Bool.not_eq_false', Bool.and_eq_true, Bool.or_eq_true, beq_iff_eq, not_and, Int.not_le, Int.not_lt, Int.toNat_natCast, beq_eq_false_iff_ne, ne_eq, eq_self, not_true_eq_false, not_false_eq_true] at hb) <;> (conv => whnf))
      | (refine RegX.rule (id := 6) hT rfl [] [(0, []), (1, [0]), (2, [0, 1]), (3, [0]), (4, [0]), (5, [0]), (6, [0, 1, 2, 3, 4, 5]), (7, [0, 1, 2, 3, 4, 5, 6]), (8, [0, 1, 2, 3, 4, 5]), (9, [0, 1, 2, 3, 4, 5]), (10, [0, 1, 2, 3, 4, 5]), (15, [0, 1, 2, 3, 4, 5, 6, 7, 8, 9, 10]), (11, [15]), (12, [15]), (13, [15]), (14, [15, 13]), (16, [14]), (17, [])] (by decide +kernel) ?_; conv => whnf)
      | (refine RegX.rule (id := 9) hT rfl [] [(0, []), (1, [0]), (2, []), (3, []), (4, []), (5, [0, 1, 2, 3, 4]), (6, [0, 1, 2, 3, 4, 5]), (7, [0, 1, 2, 3, 4]), (8, [0, 1, 2, 3, 4, 5, 6, 7]), (9, [0, 1, 2, 3, 4, 5, 6, 7]), (10, [0, 1, 2, 3, 4]), (11, [5, 6, 7, 8, 9, 10]), (12, [])] (by decide +kernel) ?_; conv => whnf)
      | omega
      | (refine And.intro ?_ ?_; ((try dsimp only); first | omega | (refine ⟨by omega, by omega, Int.le_trans (Int.mul_le_mul_of_nonneg_right (Int.ofNat_le.2 (Nat.le_of_ble_eq_true (rfl : Nat.ble _ 1024 = true))) (by omega)) (by omega), by omega⟩) | (refine Nat.le_trans (Nat.mul_le_mul_left _ (Nat.le_of_ble_eq_true (rfl : Nat.ble _ 1024 = true))) ?_; omega) | (unfold inI64; omega) | (constructor <;> omega) | (simp only [inI64, List.length_cons, List.length_append, List.length_nil, List.length_set] at *; omega) | decide | (unfold inI64; decide)); conv => whnf)
      | omega | decide | assumption)
    refine .ret _ ?_
    conv => whnf
    exact ⟨[], ⟨⟨_, by rw [hiss]; rfl, hval⟩, rfl⟩, trivial⟩
end Go.Proofs.YtnkdlkgannnfhaaGreatDoor
set_option maxRecDepth 20000
namespace Go.Proofs.YtnkdlkgannnfhaaGreatDoor
open Go Go.Eng
/-- The nearest move that is left, of the first i: its number and its ride. -/
def nxN (l : List Roa) (m : List Mov) (c : List UInt8) (o : List Int) : Nat → Int × Int
  | 0 => (-1, 0)
  | i + 1 => if (rideO l c (m.getD i mv0).a).isSome = true ∧ o.contains (i : Int) = false ∧ ((nxN l m c o i).1 < 0 ∨ rideV l c (m.getD i mv0).a < (nxN l m c o i).2) then ((i : Int), rideV l c (m.getD i mv0).a) else nxN l m c o i
theorem nxN_bd (l : List Roa) (m : List Mov) (c : List UInt8) (o : List Int) : ∀ i, (nxN l m c o i).1 < 0 ∨ (0 ≤ (nxN l m c o i).1 ∧ (nxN l m c o i).1 < i ∧ o.contains (nxN l m c o i).1 = false ∧ (rideO l c (m.getD (nxN l m c o i).1.toNat mv0).a).isSome = true) := by
  intro i
  induction i with
  | zero => left; simp [nxN]
  | succ i ih =>
    rw [nxN]
    split
    · rename_i h
      right
      exact ⟨by show (0 : Int) ≤ (i : Int); omega, by show (i : Int) < ((i + 1 : Nat) : Int); omega, h.2.1, h.1⟩
    · rcases ih with h | ⟨h1, h2, h3⟩
      · exact .inl h
      · exact .inr ⟨h1, by omega, h3⟩
/-- The order so far: where it stands, and the numbers. -/
def nrS (l : List Roa) (start : List UInt8) (m : List Mov) : Nat → Option (List UInt8 × List Int)
  | 0 => some (start, [])
  | j + 1 => (nrS l start m j).bind fun p => if (nxN l m p.1 p.2 m.length).1 < 0 then none else some ((m.getD (nxN l m p.1 p.2 m.length).1.toNat mv0).b, p.2 ++ [(nxN l m p.1 p.2 m.length).1])
def nearO (l : List Roa) (start : List UInt8) (m : List Mov) : Option (List Int × Int) := (nrS l start m m.length).bind fun p => (roundO l start m p.2).map fun v => (p.2, v)
theorem nrS_ok {l : List Roa} {start : List UInt8} {m : List Mov} : ∀ {j : Nat} {p : List UInt8 × List Int}, nrS l start m j = some p → p.2.length = j ∧ ordOk m.length p.2 := by
  intro j
  induction j with
  | zero => intro p h; cases h; exact ⟨rfl, fun x hx => by cases hx⟩
  | succ j ih =>
    intro p h
    rw [nrS] at h
    obtain ⟨q, hq, h⟩ := Option.bind_eq_some_iff.1 h
    have hi := ih hq
    split at h
    · cases h
    · rename_i h0
      cases h
      refine ⟨by rw [List.length_append, hi.1]; rfl, fun x hx => ?_⟩
      rcases List.mem_append.1 hx with w | w
      · exact hi.2 x w
      · rw [List.mem_singleton] at w
        rw [w]
        rcases nxN_bd l m q.1 q.2 m.length with b | b
        · exact absurd b h0
        · exact ⟨b.1, b.2.1⟩
theorem nrS_none {l : List Roa} {start : List UInt8} {m : List Mov} {j : Nat} (h : nrS l start m j = none) : ∀ d, nrS l start m (j + d) = none := by
  intro d
  induction d with
  | zero => exact h
  | succ d ih => rw [← Nat.add_assoc, nrS, ih]; rfl
theorem nrS_ext {l : List Roa} {start : List UInt8} {m : List Mov} {j : Nat} {p : List UInt8 × List Int} (h : nrS l start m j = some p) : ∀ d q, nrS l start m (j + d) = some q → ∃ t, q.2 = p.2 ++ t := by
  intro d
  induction d with
  | zero => intro q hq; rw [Nat.add_zero, h] at hq; cases hq; exact ⟨[], by simp⟩
  | succ d ih =>
    intro q hq
    rw [← Nat.add_assoc, nrS] at hq
    obtain ⟨w, hw, hq⟩ := Option.bind_eq_some_iff.1 hq
    obtain ⟨t, ht⟩ := ih w hw
    split at hq
    · cases hq
    · cases hq
      exact ⟨t ++ [_], by show w.2 ++ _ = _; rw [ht, List.append_assoc]⟩
theorem partR_app {l : List Roa} {start : List UInt8} {m : List Mov} {o t : List Int} (h : partR l start m o = none) : partR l start m (o ++ t) = none := by
  unfold partR at h ⊢
  rw [List.foldl_append, h, foldl_none]
/-- A dead order stays dead. -/
theorem near_dead {l : List Roa} {start : List UInt8} {m : List Mov} {j : Nat} {p : List UInt8 × List Int} (h : nrS l start m j = some p) (hj : j ≤ m.length) (hd : partR l start m p.2 = none) : nearO l start m = none := by
  unfold nearO
  cases hq : nrS l start m m.length with
  | none => rfl
  | some q =>
    obtain ⟨t, ht⟩ := nrS_ext h (m.length - j) q (by rw [show j + (m.length - j) = m.length by omega]; exact hq)
    show (roundO l start m q.2).map _ = none
    have : roundO l start m q.2 = none := by
      unfold roundO; rw [ht, partR_app hd]; rfl
    rw [this]; rfl
theorem near_stuck {l : List Roa} {start : List UInt8} {m : List Mov} {j : Nat} {p : List UInt8 × List Int} (h : nrS l start m j = some p) (hj : j < m.length) (hd : (nxN l m p.1 p.2 m.length).1 < 0) : nearO l start m = none := by
  have h1 : nrS l start m (j + 1) = none := by rw [nrS, h]; show (if _ then _ else _) = _; rw [if_pos hd]
  have h2 := nrS_none h1 (m.length - (j + 1))
  rw [show j + 1 + (m.length - (j + 1)) = m.length by omega] at h2
  unfold nearO; rw [h2]; rfl
theorem nrS_next {l : List Roa} {start : List UInt8} {m : List Mov} {j : Nat} {p : List UInt8 × List Int} (h : nrS l start m j = some p) (hd : ¬ (nxN l m p.1 p.2 m.length).1 < 0) : nrS l start m (j + 1) = some ((m.getD (nxN l m p.1 p.2 m.length).1.toNat mv0).b, p.2 ++ [(nxN l m p.1 p.2 m.length).1]) := by
  rw [nrS, h]; show (if _ then _ else _) = _; rw [if_neg hd]
def nearV (l : List Roa) (start : List UInt8) (m : List Mov) : List Int × Int × Bool := match nearO l start m with
  | some p => (p.1, p.2, true)
  | none => ([], 0, false)
-- NearestOf
set_option maxHeartbeats 2000000 in
theorem z59 (l : List Roa) (hl : rdsE l = 0) (start : List UInt8) (m : List Mov) (hm : m.length ≤ 1000) :
    FSpec Tryz.prog 59 [.d (roas l), .d (.str start), .d (movs m)] [] (fun y r => y = .tup [.d (ints (nearV l start m).1), .d (.int .i64 (nearV l start m).2.1), .d (.bool (nearV l start m).2.2)] ∧ r = []) := by
  have hl2 := (rds_all hl).1
  refine spec_of hT (C := []) Tryz.func59 rfl Tryz.call59 rfl rfl rfl ?_
  conv => whnf
  refine LoopX.rule hT (C := []) (ι := List UInt8 × List Int) (fun (c, o) => nrS l start m o.length = some (c, o) ∧ o.length ≤ m.length)
    (fun (c, o) => mkSt [(0, .d (roas l)), (1, .d (.str start)), (2, .d (movs m)), (9, .d (.str c)), (10, .buf 10)] [(10, inB o)]) (fun (_, o) => m.length - o.length) (start, []) ⟨rfl, by simp⟩ ?_ ?_
  · exact (Entails.nil 10 10 3 1 (rowF iF 0 []) rfl rfl (by decide)).trans (by refine Entails.mk' [(10, 10)] rfl rfl ?_ ?_ <;> repeat' (first | exact True.intro | exact SV.le_refl _ | exact Res.le_refl _ | exact SV.le_int (by omega) | exact SV.le_any _ | refine And.intro ?_ ?_))
  rintro ⟨c, o⟩ ⟨p1, p2⟩
  have p2 : o.length ≤ m.length := p2
  have hok := nrS_ok p1
  by_cases hi : o.length < m.length
  · conv => whnf
    repeat' (first
      | (refine br_intro (fun hb => ?_) (fun hb => ?_) <;> (try simp only [decide_eq_true_eq, decide_eq_false_iff_not, Bool.not_eq_true', Bool.not_eq_false', Bool.and_eq_true, Bool.or_eq_true, beq_iff_eq, not_and, Int.not_le, Int.not_lt, Int.toNat_natCast, beq_eq_false_iff_ne, ne_eq, eq_self, not_true_eq_false, not_false_eq_true] at hb) <;> (conv => whnf))
      | (refine RegX.rule (id := 14) hT rfl [] [(0, []), (1, [0]), (2, [0]), (4, [0, 1, 2]), (5, [0, 1, 2, 4]), (6, [0, 1, 2]), (7, [0, 1, 2]), (8, [0, 1, 2]), (3, [4, 5, 6, 7, 8]), (9, [4, 5, 6, 7, 8]), (10, [])] (by decide +kernel) ?_; conv => whnf)
      | omega
      | (refine And.intro ?_ ?_; ((try dsimp only); first | omega | (refine ⟨by omega, by omega, Int.le_trans (Int.mul_le_mul_of_nonneg_right (Int.ofNat_le.2 (Nat.le_of_ble_eq_true (rfl : Nat.ble _ 1024 = true))) (by omega)) (by omega), by omega⟩) | (refine Nat.le_trans (Nat.mul_le_mul_left _ (Nat.le_of_ble_eq_true (rfl : Nat.ble _ 1024 = true))) ?_; omega) | (unfold inI64; omega) | (constructor <;> omega) | (simp only [inI64, List.length_cons, List.length_append, List.length_nil, List.length_set] at *; omega) | decide | (unfold inI64; decide)); conv => whnf)
      | omega | decide | assumption)
    refine LoopX.rule hT (C := []) (ι := Nat) (fun i => i ≤ m.length)
      (fun i => mkSt [(0, .d (roas l)), (1, .d (.str start)), (2, .d (movs m)), (9, .d (.str c)), (10, .buf 10), (11, .d (.int .i64 (nxN l m c o i).1)), (12, .d (.int .i64 (nxN l m c o i).2)), (25, .d (movs m)), (26, .d (.int .i64 m.length)), (27, .d (.int .i64 i))] [(10, inB o)]) (fun i => m.length - i) 0 (by omega) (by refine Entails.mk' [(10, 10)] rfl rfl ?_ ?_ <;> repeat' (first | exact True.intro | exact SV.le_refl _ | exact Res.le_refl _ | exact SV.le_int (by omega) | exact SV.le_any _ | refine And.intro ?_ ?_)) ?_
    rintro i i1
    have e1 : (i : Int).toNat = i := Int.toNat_natCast i
    have h156 := z156 l (by omega) c (m.getD (i : Int).toNat mv0).a
    have h57 := z57o o (by omega) (i : Int)
    have hs : nxN l m c o (i + 1) = if (rideO l c (m.getD (i : Int).toNat mv0).a).isSome = true ∧ o.contains (i : Int) = false ∧ ((nxN l m c o i).1 < 0 ∨ rideV l c (m.getD (i : Int).toNat mv0).a < (nxN l m c o i).2) then ((i : Int), rideV l c (m.getD (i : Int).toNat mv0).a) else nxN l m c o i := rfl
    have hnb := nxN_bd l m c o i
    generalize hR : (rideO l c (m.getD (i : Int).toNat mv0).a).isSome = R at hs h156
    generalize hC : o.contains (i : Int) = C at hs h57
    generalize hV : rideV l c (m.getD (i : Int).toNat mv0).a = V at hs h156
    by_cases hi2 : i < m.length
    · conv => whnf
      repeat' (first
        | (refine CallX.exact (h156) rfl rfl ?_; rotate_right; conv => whnf)
        | (refine CallX.of h57 [(1000001, 10)] rfl ⟨SV.le_refl _, SV.le_refl _, trivial⟩ ⟨Res.le_refl _, trivial⟩ rfl rfl ?_; rintro x rout ⟨rfl, rfl⟩; refine ⟨rfl, ?_⟩; conv => whnf)
        | (refine br_intro (fun hb => ?_) (fun hb => ?_) <;> (try simp only [decide_eq_true_eq, decide_eq_false_iff_not, Bool.not_eq_true', Bool.not_eq_false', Bool.and_eq_true, Bool.or_eq_true, beq_iff_eq, not_and, Int.not_le, Int.not_lt, Int.toNat_natCast, beq_eq_false_iff_ne, ne_eq, eq_self, not_true_eq_false, not_false_eq_true] at hb) <;> (conv => whnf))
        | (refine RegX.rule (id := 14) hT rfl [] [(0, []), (1, [0]), (2, [0]), (4, [0, 1, 2]), (5, [0, 1, 2, 4]), (6, [0, 1, 2]), (7, [0, 1, 2]), (8, [0, 1, 2]), (3, [4, 5, 6, 7, 8]), (9, [4, 5, 6, 7, 8]), (10, [])] (by decide +kernel) ?_; conv => whnf)
        | omega
        | (refine And.intro ?_ ?_; ((try dsimp only); first | omega | (refine ⟨by omega, by omega, Int.le_trans (Int.mul_le_mul_of_nonneg_right (Int.ofNat_le.2 (Nat.le_of_ble_eq_true (rfl : Nat.ble _ 1024 = true))) (by omega)) (by omega), by omega⟩) | (refine Nat.le_trans (Nat.mul_le_mul_left _ (Nat.le_of_ble_eq_true (rfl : Nat.ble _ 1024 = true))) ?_; omega) | (unfold inI64; omega) | (constructor <;> omega) | (simp only [inI64, List.length_cons, List.length_append, List.length_nil, List.length_set] at *; omega) | decide | (unfold inI64; decide)); conv => whnf)
        | omega | decide | assumption)
      all_goals first
        | (refine ⟨i + 1, by omega, by omega, ?_⟩
           rw [hs, if_pos (by clear hs hnb; grind)]
           exact Entails.mk' [(10, 10)] rfl rfl ⟨SV.le_refl _, SV.le_refl _, SV.le_refl _, SV.le_refl _, SV.le_refl _, SV.le_refl _, SV.le_refl _, SV.le_refl _, SV.le_refl _, SV.le_refl _, trivial⟩ ⟨Res.le_refl _, trivial⟩)
        | (refine ⟨i + 1, by omega, by omega, ?_⟩
           rw [hs, if_neg (by clear hs hnb; grind)]
           exact Entails.mk' [(10, 10)] rfl rfl ⟨SV.le_refl _, SV.le_refl _, SV.le_refl _, SV.le_refl _, SV.le_refl _, SV.le_refl _, SV.le_refl _, SV.le_refl _, SV.le_refl _, SV.le_refl _, trivial⟩ ⟨Res.le_refl _, trivial⟩)
    · obtain rfl : i = m.length := by omega
      have hstuck := near_stuck p1 hi
      have hnext := nrS_next p1
      generalize nxN l m c o m.length = q at hnb hstuck hnext
      by_cases hq : q.1 < 0
      · have hnv : nearV l start m = ([], 0, false) := by unfold nearV; rw [hstuck hq]
        rw [hnv]
        conv => whnf
        repeat' (first
          | (refine br_intro (fun hb => ?_) (fun hb => ?_) <;> (try simp only [decide_eq_true_eq, decide_eq_false_iff_not, Bool.not_eq_true', Bool.not_eq_false', Bool.and_eq_true, Bool.or_eq_true, beq_iff_eq, not_and, Int.not_le, Int.not_lt, Int.toNat_natCast, beq_eq_false_iff_ne, ne_eq, eq_self, not_true_eq_false, not_false_eq_true] at hb) <;> (conv => whnf))
          | (refine RegX.rule (id := 14) hT rfl [] [(0, []), (1, [0]), (2, [0]), (4, [0, 1, 2]), (5, [0, 1, 2, 4]), (6, [0, 1, 2]), (7, [0, 1, 2]), (8, [0, 1, 2]), (3, [4, 5, 6, 7, 8]), (9, [4, 5, 6, 7, 8]), (10, [])] (by decide +kernel) ?_; conv => whnf)
          | omega
          | (refine And.intro ?_ ?_; ((try dsimp only); first | omega | (refine ⟨by omega, by omega, Int.le_trans (Int.mul_le_mul_of_nonneg_right (Int.ofNat_le.2 (Nat.le_of_ble_eq_true (rfl : Nat.ble _ 1024 = true))) (by omega)) (by omega), by omega⟩) | (refine Nat.le_trans (Nat.mul_le_mul_left _ (Nat.le_of_ble_eq_true (rfl : Nat.ble _ 1024 = true))) ?_; omega) | (unfold inI64; omega) | (constructor <;> omega) | (simp only [inI64, List.length_cons, List.length_append, List.length_nil, List.length_set] at *; omega) | decide | (unfold inI64; decide)); conv => whnf)
          | omega | decide | assumption)
        all_goals first
          | (exfalso; omega)
          | (refine .ret _ ?_
             conv => whnf
             exact ⟨[], ⟨rfl, rfl⟩, trivial⟩)
          | (refine .weak _ ?_
             conv => whnf
             exact ⟨_, [], SV.le_tup (m := [_, _, _]) ⟨SV.le_nilS, SV.le_refl _, SV.le_refl _, trivial⟩, ⟨rfl, rfl⟩, trivial⟩)
      · have hnb2 : 0 ≤ q.1 ∧ q.1 < (m.length : Int) := by omega
        have hn := hnext hq
        conv => whnf
        repeat' (first
          | (refine br_intro (fun hb => ?_) (fun hb => ?_) <;> (try simp only [decide_eq_true_eq, decide_eq_false_iff_not, Bool.not_eq_true', Bool.not_eq_false', Bool.and_eq_true, Bool.or_eq_true, beq_iff_eq, not_and, Int.not_le, Int.not_lt, Int.toNat_natCast, beq_eq_false_iff_ne, ne_eq, eq_self, not_true_eq_false, not_false_eq_true] at hb) <;> (conv => whnf))
          | (refine RegX.rule (id := 14) hT rfl [] [(0, []), (1, [0]), (2, [0]), (4, [0, 1, 2]), (5, [0, 1, 2, 4]), (6, [0, 1, 2]), (7, [0, 1, 2]), (8, [0, 1, 2]), (3, [4, 5, 6, 7, 8]), (9, [4, 5, 6, 7, 8]), (10, [])] (by decide +kernel) ?_; conv => whnf)
          | omega
          | (refine And.intro ?_ ?_; ((try dsimp only); first | omega | (refine ⟨by omega, by omega, Int.le_trans (Int.mul_le_mul_of_nonneg_right (Int.ofNat_le.2 (Nat.le_of_ble_eq_true (rfl : Nat.ble _ 1024 = true))) (by omega)) (by omega), by omega⟩) | (refine Nat.le_trans (Nat.mul_le_mul_left _ (Nat.le_of_ble_eq_true (rfl : Nat.ble _ 1024 = true))) ?_; omega) | (unfold inI64; omega) | (constructor <;> omega) | (simp only [inI64, List.length_cons, List.length_append, List.length_nil, List.length_set] at *; omega) | decide | (unfold inI64; decide)); conv => whnf)
          | omega | decide | assumption)
        all_goals first
          | (exfalso; omega)
          | (refine ⟨((m.getD q.1.toNat mv0).b, o ++ [q.1]), ⟨by rw [List.length_append]; exact hn, by rw [List.length_append]; simp; omega⟩, (show m.length - (o ++ [q.1]).length < m.length - o.length by rw [List.length_append]; simp; omega), Entails.mk' [(10, 64)] rfl rfl ⟨SV.le_refl _, SV.le_refl _, SV.le_refl _, SV.le_refl _, SV.le_refl _, trivial⟩ ⟨Res.le_snocF rfl, trivial⟩⟩)
  · have hlen : o.length = m.length := by omega
    rw [hlen] at p1
    have hno : nearO l start m = (roundO l start m o).map fun v => (o, v) := by unfold nearO; rw [p1]; rfl
    have h58 := z58 l hl start m (by omega) o hok.2 (by omega)
    have hnv1 : ∀ v, roundO l start m o = some v → nearV l start m = (o, v, true) := fun v h => by unfold nearV; rw [hno, h]; rfl
    have hnv2 : roundO l start m o = none → nearV l start m = ([], 0, false) := fun h => by unfold nearV; rw [hno, h]; rfl
    by_cases hr : roundO l start m o = none
    · rw [hnv2 hr]
      rw [hr] at h58
      conv => whnf
      repeat' (first
        | (refine CallX.freeze _ _ _ _ 10 3 1 _ _ rfl rfl ?_; refine CallX.of h58 [] rfl ⟨SV.le_refl _, SV.le_refl _, SV.le_refl _, SV.le_refl _, trivial⟩ trivial rfl rfl ?_; rintro x rout ⟨⟨v, rfl, hv⟩, rfl⟩; refine ⟨rfl, ?_⟩; conv => whnf)
        | (refine br_intro (fun hb => ?_) (fun hb => ?_) <;> (try simp only [decide_eq_true_eq, decide_eq_false_iff_not, Bool.not_eq_true', Bool.not_eq_false', Bool.and_eq_true, Bool.or_eq_true, beq_iff_eq, not_and, Int.not_le, Int.not_lt, Int.toNat_natCast, beq_eq_false_iff_ne, ne_eq, eq_self, not_true_eq_false, not_false_eq_true] at hb) <;> (conv => whnf))
        | (refine RegX.rule (id := 14) hT rfl [] [(0, []), (1, [0]), (2, [0]), (4, [0, 1, 2]), (5, [0, 1, 2, 4]), (6, [0, 1, 2]), (7, [0, 1, 2]), (8, [0, 1, 2]), (3, [4, 5, 6, 7, 8]), (9, [4, 5, 6, 7, 8]), (10, [])] (by decide +kernel) ?_; conv => whnf)
        | omega
        | (refine And.intro ?_ ?_; ((try dsimp only); first | omega | (refine ⟨by omega, by omega, Int.le_trans (Int.mul_le_mul_of_nonneg_right (Int.ofNat_le.2 (Nat.le_of_ble_eq_true (rfl : Nat.ble _ 1024 = true))) (by omega)) (by omega), by omega⟩) | (refine Nat.le_trans (Nat.mul_le_mul_left _ (Nat.le_of_ble_eq_true (rfl : Nat.ble _ 1024 = true))) ?_; omega) | (unfold inI64; omega) | (constructor <;> omega) | (simp only [inI64, List.length_cons, List.length_append, List.length_nil, List.length_set] at *; omega) | decide | (unfold inI64; decide)); conv => whnf)
        | omega | decide | assumption)
      all_goals first
        | (refine .ret _ ?_
           conv => whnf
           exact ⟨[], ⟨rfl, rfl⟩, trivial⟩)
        | (refine .weak _ ?_
           conv => whnf
           exact ⟨_, [], SV.le_tup (m := [_, _, _]) ⟨SV.le_nilS, SV.le_refl _, SV.le_refl _, trivial⟩, ⟨rfl, rfl⟩, trivial⟩)
    · obtain ⟨w, hw⟩ := Option.ne_none_iff_exists'.1 hr
      rw [hnv1 w hw]
      rw [hw] at h58
      conv => whnf
      repeat' (first
        | (refine CallX.freeze _ _ _ _ 10 3 1 _ _ rfl rfl ?_; refine CallX.of h58 [] rfl ⟨SV.le_refl _, SV.le_refl _, SV.le_refl _, SV.le_refl _, trivial⟩ trivial rfl rfl ?_; rintro x rout ⟨⟨v, rfl, hv⟩, rfl⟩; obtain rfl := hv w rfl; refine ⟨rfl, ?_⟩; conv => whnf)
        | (refine br_intro (fun hb => ?_) (fun hb => ?_) <;> (try simp only [decide_eq_true_eq, decide_eq_false_iff_not, Bool.not_eq_true', Bool.not_eq_false', Bool.and_eq_true, Bool.or_eq_true, beq_iff_eq, not_and, Int.not_le, Int.not_lt, Int.toNat_natCast, beq_eq_false_iff_ne, ne_eq, eq_self, not_true_eq_false, not_false_eq_true] at hb) <;> (conv => whnf))
        | (refine RegX.rule (id := 14) hT rfl [] [(0, []), (1, [0]), (2, [0]), (4, [0, 1, 2]), (5, [0, 1, 2, 4]), (6, [0, 1, 2]), (7, [0, 1, 2]), (8, [0, 1, 2]), (3, [4, 5, 6, 7, 8]), (9, [4, 5, 6, 7, 8]), (10, [])] (by decide +kernel) ?_; conv => whnf)
        | omega
        | (refine And.intro ?_ ?_; ((try dsimp only); first | omega | (refine ⟨by omega, by omega, Int.le_trans (Int.mul_le_mul_of_nonneg_right (Int.ofNat_le.2 (Nat.le_of_ble_eq_true (rfl : Nat.ble _ 1024 = true))) (by omega)) (by omega), by omega⟩) | (refine Nat.le_trans (Nat.mul_le_mul_left _ (Nat.le_of_ble_eq_true (rfl : Nat.ble _ 1024 = true))) ?_; omega) | (unfold inI64; omega) | (constructor <;> omega) | (simp only [inI64, List.length_cons, List.length_append, List.length_nil, List.length_set] at *; omega) | decide | (unfold inI64; decide)); conv => whnf)
        | omega | decide | assumption)
      all_goals first
        | (refine .ret _ ?_
           conv => whnf
           exact ⟨[], ⟨rfl, rfl⟩, trivial⟩)
end Go.Proofs.YtnkdlkgannnfhaaGreatDoor
namespace Go.Proofs
open Go.Shelf
def Tryz.lays106_ren : Go.Shelf.Ren := ⟨fun | 106 => 101 | 213 => 202 | 265 => 259 | n => n, fun | 9 => 9 | 3 => 3 | n => n, fun | n => n⟩
theorem Tryz.lays106 : Go.Proofs.Lays.n106 Tryz.prog Tryz.lays106_ren := {
  mixed := by kernel_rfl
  f106 := Tryz.func101.trans (congrArg some (by kernel_rfl))
  f213 := Tryz.func202.trans (congrArg some (by kernel_rfl))
  f265 := Tryz.func259.trans (congrArg some (by kernel_rfl))
  t3 := Tryz.underlying3
  a3 := Tryz.isAgg3
  z3 := Tryz.sizeOf3
  v3 := Tryz.zeroValue3
  t9 := Tryz.underlying9
  a9 := Tryz.isAgg9
  z9 := Tryz.sizeOf9
  v9 := Tryz.zeroValue9 }
end Go.Proofs
set_option maxRecDepth 20000
namespace Go.Proofs.YtnkdlkgannnfhaaGreatDoor
open Go Go.Eng Go.RowKit
def pnK (p : Pnl) : Prop := p.key.length ≤ 2^40
def pnOk (l : List Pnl) : Prop := l.length ≤ 2^40 ∧ ∀ p ∈ l, pnK p
def mkK (m : Mrk) : Prop := m.pan.length ≤ 2^40
def mkOk (l : List Mrk) : Prop := l.length ≤ 2^40 ∧ ∀ m ∈ l, mkK m
-- PanelsFault
theorem s99 (l : List Pnl) (hk : pnOk l) : FSpec Tryz.prog 161 [.d (pnls l)] [] (fun x r => x = .d (.int .i64 (pansE l)) ∧ r = []) := by
  refine spec_of hT (C := []) Tryz.func161 rfl Tryz.call161 rfl rfl rfl ?_
  conv => whnf
  refine br_intro (fun h0 => ?_) (fun h0 => ?_)
  · simp at h0
    conv => whnf
    refine .ret _ ?_
    conv => whnf
    refine ⟨[], ⟨?_, rfl⟩, trivial⟩
    conv => lhs; whnf
    unfold pansE; rw [if_pos (by omega)]
  simp at h0
  conv => whnf
  refine LoopX.rule hT (C := []) (ι := Nat) (fun i => i ≤ l.length ∧ ∀ j, j < i → panE l j = 0) (fun i => mkSt [(3, .d (.str (if i = 0 then [] else (l.getD (i - 1) pn0).key))), (9, .d (pnls l)), (10, .d (.int .i64 l.length)), (11, .d (.int .i64 i))] []) (fun i => l.length - i) 0 ⟨by omega, by omega⟩ (by refine Entails.mk' [] rfl rfl ?_ ?_ <;> repeat' (first | exact True.intro | exact SV.le_refl _ | exact Res.le_refl _ | exact SV.le_int (by omega) | exact SV.le_any _ | refine And.intro ?_ ?_)) ?_
  rintro i ⟨p1, p2⟩
  have hx : (i : Int) < l.length → pnK (l.getD (i : Int).toNat pn0) := fun hi => hk.2 _ (getD_mem (by omega))
  have e1 : (i : Int).toNat = i := Int.toNat_natCast i
  have hbad : ∀ e : Int, i < l.length → e ≠ 0 → panE l i = e → pansE l = e := fun e h h1 h2 => by
    unfold pansE; rw [if_neg (by omega)]
    exact firstAt_eq h p2 h1 h2
  conv => whnf
  repeat' (first
    | (refine CallX.exact (s21 _ (hx (by omega))) rfl rfl ?_; rotate_right; conv => whnf)
    | (refine CallX.exact (s109 _ _ _) rfl rfl ?_; rotate_right; conv => whnf)
    | (refine br_intro (fun hb => ?_) (fun hb => ?_) <;> (try simp only [decide_eq_true_eq, decide_eq_false_iff_not, Bool.not_eq_true', Bool.not_eq_false', Bool.and_eq_true, Bool.or_eq_true, beq_iff_eq, not_and, Int.not_le, Int.not_lt, Int.toNat_natCast, beq_eq_false_iff_ne, ne_eq, eq_self, not_true_eq_false, not_false_eq_true] at hb) <;> (conv => whnf))
    | omega
    | (refine And.intro ?_ ?_; ((try dsimp only); first | omega | (refine ⟨by omega, by omega, Int.le_trans (Int.mul_le_mul_of_nonneg_right (Int.ofNat_le.2 (Nat.le_of_ble_eq_true (rfl : Nat.ble _ 1024 = true))) (by omega)) (by omega), by omega⟩) | (refine Nat.le_trans (Nat.mul_le_mul_left _ (Nat.le_of_ble_eq_true (rfl : Nat.ble _ 1024 = true))) ?_; omega) | (unfold inI64; omega) | (constructor <;> omega) | (simp only [inI64, List.length_cons, List.length_append, List.length_nil, List.length_set] at *; omega) | decide | (unfold inI64; decide)); conv => whnf)
    | omega | decide | assumption)
  all_goals first
    | (refine ⟨i + 1, ⟨by omega, first_step p2 (by clear p2 hbad hk hx; simp only [e1] at *; unfold panE strLe; grind)⟩, by omega, Entails.mk' [] rfl rfl ⟨(by rw [show (if i + 1 = 0 then ([] : List UInt8) else (l.getD (i + 1 - 1) pn0).key) = (l.getD (i : Int).toNat pn0).key from by rw [if_neg (by omega), e1, Nat.add_sub_cancel]]; exact SV.le_refl _), SV.le_refl _, SV.le_refl _, SV.le_refl _, trivial⟩ trivial⟩)
    | (refine .ret _ ?_
       conv => whnf
       refine ⟨[], ⟨?_, rfl⟩, trivial⟩
       conv => lhs; whnf
       congr 2
       first
         | exact (hbad _ (by omega) (by decide) (by clear p2 hbad hk hx; simp only [e1] at *; unfold panE strLe; grind [isKey_nil, less_nil])).symm
         | (have : i = l.length := by omega
            subst this
            unfold pansE; rw [if_neg (by omega), firstAt_zero p2]))
def rulE (r : Rul) : Int := if (0 ≤ r.near ∧ r.near ≤ 5000) ∧ (0 ≤ r.join ∧ r.join ≤ 5000) ∧ (0 ≤ r.slack ∧ r.slack ≤ 2000) ∧ (0 ≤ r.part ∧ r.part ≤ 1000) then 0 else 1
-- RulesFault
theorem s103 (r : Rul) : FSpec Tryz.prog 68 [.agg ((ruF r).map .d)] [] (fun x o => x = .d (.int .i64 (rulE r)) ∧ o = []) := by
  refine spec_of hT (C := []) Tryz.func68 rfl Tryz.call68 rfl rfl rfl ?_
  conv => whnf
  repeat' (first
    | (refine CallX.exact (s109 _ _ _) rfl rfl ?_; rotate_right; conv => whnf)
    | (refine br_intro (fun hb => ?_) (fun hb => ?_) <;> (try simp only [decide_eq_true_eq, decide_eq_false_iff_not, Bool.not_eq_true', Bool.not_eq_false', Bool.and_eq_true, Bool.or_eq_true, beq_iff_eq, not_and, Int.not_le, Int.not_lt, Int.toNat_natCast, beq_eq_false_iff_ne, ne_eq, eq_self, not_true_eq_false, not_false_eq_true] at hb) <;> (conv => whnf))
    | omega
    | (refine And.intro ?_ ?_; ((try dsimp only); first | omega | (refine ⟨by omega, by omega, Int.le_trans (Int.mul_le_mul_of_nonneg_right (Int.ofNat_le.2 (Nat.le_of_ble_eq_true (rfl : Nat.ble _ 1024 = true))) (by omega)) (by omega), by omega⟩) | (refine Nat.le_trans (Nat.mul_le_mul_left _ (Nat.le_of_ble_eq_true (rfl : Nat.ble _ 1024 = true))) ?_; omega) | (unfold inI64; omega) | (constructor <;> omega) | (simp only [inI64, List.length_cons, List.length_append, List.length_nil, List.length_set] at *; omega) | decide | (unfold inI64; decide)); conv => whnf)
    | omega | decide | assumption)
  all_goals
    refine .ret _ ?_
    conv => whnf
    refine ⟨[], ⟨?_, rfl⟩, trivial⟩
    conv => lhs; whnf
    congr 2
    unfold rulE; grind
theorem cmpB_S : ∀ (a b : List UInt8), Lib.compareBytes a b = cmpS a b := by
  intro a
  induction a with
  | nil => intro b; cases b <;> simp [Lib.compareBytes, cmpS, Op.bytesLess]
  | cons x a ih =>
    intro b
    cases b with
    | nil => simp [Lib.compareBytes, cmpS, Op.bytesLess]
    | cons y b =>
      have := ih b
      unfold cmpS at this ⊢
      simp only [Lib.compareBytes, Op.bytesLess]
      grind
-- strings.Compare
theorem s190 (a b : List UInt8) : FSpec Tryz.prog 101 [.d (.str a), .d (.str b)] [] (fun x r => x = .d (.int .i64 (cmpS a b)) ∧ r = []) := by
  refine FSpec.ofBelow Tryz.call101 (fun G β w vs _ hl hd => ?_)
  match vs, hl with
  | [u, v], _ =>
    have hu := hd 0 _ _ rfl rfl
    have hv := hd 1 _ _ rfl rfl
    cases hu with | d _ _ hu => cases hu with | str _ =>
    cases hv with | d _ _ hv => cases hv with | str _ =>
    refine ⟨.int .i64 (Lib.compareBytes a b), fun G β => ?_, (Go.Proofs.Any.strings_Compare Go.Proofs.Tryz.lays106 ⟨a.toArray⟩ ⟨b.toArray⟩ w).mono ?_⟩
    · rw [← cmpB_S]; exact .d _ _ (.int _ _)
    · rintro e w' ⟨he, rfl⟩
      exact ⟨he, Below.refl _ _⟩
end Go.Proofs.YtnkdlkgannnfhaaGreatDoor
set_option maxRecDepth 20000
namespace Go.Proofs.YtnkdlkgannnfhaaGreatDoor
open Go Go.Eng
def mcell (m : Mrk) : Res := .cells 133 ((mkF m).map .d)
theorem s196 (p : Pnl) (m : Mrk) : FSpec Tryz.prog 234 [.agg ((pnF p).map .d), .ptr 1000001 0] [(1000001, mcell m)] (fun x r => x = .d (.bool (p.key == m.pan)) ∧ r = [(1000001, mcell m)]) := by
  refine spec_of hT (C := []) Tryz.func234 rfl Tryz.call234 rfl rfl rfl ?_
  conv => whnf
  refine .ret _ ?_
  conv => whnf
  exact ⟨[(1000001, mcell m)], ⟨rfl, rfl⟩, Res.le_refl _, trivial⟩
-- slices.IndexFunc of panels
theorem s193 (g : FuncId) (l : List Pnl) (hl : l.length ≤ 2^40) (m : Mrk)
    (hg : ∀ p, FSpec Tryz.prog g [.agg ((pnF p).map .d), .ptr 1000001 0] [(1000001, mcell m)] (fun x r => x = .d (.bool (p.key == m.pan)) ∧ r = [(1000001, mcell m)])) :
    FSpec Tryz.prog 193 [.d (pnls l), .fn g [.ptr 1000001 0]] [(1000001, mcell m)] (fun x r => x = .d (.int .i64 (panIx l m.pan)) ∧ r = [(1000001, mcell m)]) := by
  refine spec_of hT (C := []) Tryz.func193 rfl Tryz.call193 rfl rfl rfl ?_
  conv => whnf
  refine LoopX.rule hT (C := []) (ι := Nat) (fun i => i ≤ l.length ∧ ∀ j, j < i → ((l.getD j pn0).key == m.pan) = false) (fun i => mkSt [(0, .d (pnls l)), (1, .fn g [.ptr 1000001 0]), (7, .d (.int .i64 l.length)), (8, .d (.int .i64 i))] [(1000001, mcell m)]) (fun i => l.length - i) 0 ⟨by omega, by omega⟩ (by refine Entails.mk' [(1000001, 1000001)] rfl rfl ?_ ?_ <;> repeat' (first | exact True.intro | exact SV.le_refl _ | exact Res.le_refl _ | exact SV.le_int (by omega) | exact SV.le_any _ | refine And.intro ?_ ?_)) ?_
  rintro i ⟨p1, p2⟩
  have e1 : (i : Int).toNat = i := Int.toNat_natCast i
  conv => whnf
  repeat' (first
    | (refine CallX.of (hg (l.getD (i : Int).toNat pn0)) [(1000001, 1000001)] rfl ⟨SV.le_refl _, SV.le_refl _, trivial⟩ ⟨Res.le_refl _, trivial⟩ rfl rfl ?_; rintro x rout ⟨rfl, rfl⟩; refine ⟨rfl, ?_⟩; conv => whnf)
    | (refine br_intro (fun hb => ?_) (fun hb => ?_) <;> (try simp only [decide_eq_true_eq, decide_eq_false_iff_not, Bool.not_eq_true', Bool.not_eq_false', Bool.and_eq_true, Bool.or_eq_true, beq_iff_eq, not_and, Int.not_le, Int.not_lt, Int.toNat_natCast, beq_eq_false_iff_ne, ne_eq, eq_self, not_true_eq_false, not_false_eq_true] at hb) <;> (conv => whnf))
    | omega
    | (refine And.intro ?_ ?_; ((try dsimp only); first | omega | (refine ⟨by omega, by omega, Int.le_trans (Int.mul_le_mul_of_nonneg_right (Int.ofNat_le.2 (Nat.le_of_ble_eq_true (rfl : Nat.ble _ 1024 = true))) (by omega)) (by omega), by omega⟩) | (refine Nat.le_trans (Nat.mul_le_mul_left _ (Nat.le_of_ble_eq_true (rfl : Nat.ble _ 1024 = true))) ?_; omega) | (unfold inI64; omega) | (constructor <;> omega) | (simp only [inI64, List.length_cons, List.length_append, List.length_nil, List.length_set] at *; omega) | decide | (unfold inI64; decide)); conv => whnf)
    | omega | decide | assumption)
  · refine .ret _ ?_
    conv => whnf
    refine ⟨[(1000001, mcell m)], ⟨?_, rfl⟩, Res.le_refl _, trivial⟩
    conv => lhs; whnf
    congr 2
    exact (ixF_hit (by omega) p2 (by simpa using hb)).symm
  · exact ⟨i + 1, ⟨by omega, all_step p2 (by simpa using hb)⟩, by omega, (by refine Entails.mk' [(1000001, 1000001)] rfl rfl ?_ ?_ <;> repeat' (first | exact True.intro | exact SV.le_refl _ | exact Res.le_refl _ | exact SV.le_int (by omega) | exact SV.le_any _ | refine And.intro ?_ ?_))⟩
  · refine .ret _ ?_
    conv => whnf
    refine ⟨[(1000001, mcell m)], ⟨?_, rfl⟩, Res.le_refl _, trivial⟩
    conv => lhs; whnf
    congr 2
    have : i = l.length := by omega
    subst this
    exact (ixF_none p2).symm
theorem panIx_lt (p : List Pnl) (key : List UInt8) : panIx p key < p.length := (ixF_bd (p := fun i => (p.getD i pn0).key == key) (n := p.length)).2.1
end Go.Proofs.YtnkdlkgannnfhaaGreatDoor
