/- PlacesLeast is proved: for every input the law returns true, and its argument reads afterwards as it read before. Conditions: those of the given row alone. -/
import Derived.Test.YtellmmmohdjpeaaDoorPlEngTwo
import Derived.Test.YtellmmmohdjpeaaDoorProg
set_option linter.unusedVariables false
set_option linter.unusedSimpArgs false
set_option maxRecDepth 20000
namespace Go.Proofs.YtellmmmohdjpeaaDoor
open Go Go.Eng
/-- The structs that are compared. -/
def eqTab : List Nat := [43, 59, 78, 98, 130, 140, 247, 257, 274]
theorem eqTab_ok : eqTab.all (eqFits Tryd.prog) = true := by decide +kernel
noncomputable def T : Tab := tiOf Tryd.prog (mem eqTab)
theorem hT : TabOk Tryd.prog T := ⟨mem eqTab, fun _ _ h => h, fun t ht => List.all_eq_true.1 eqTab_ok t ((mem_iff _ _).1 ht)⟩
abbrev i64 (n : Int) : DV := .int .i64 n
def strm (n : Nat) (L : Nat → Int) (at' : Int) : Res := .cells 25 [.d (.ro 1 n fun i => [.int .i64 (L i)]), .d (.int .i64 at')]
def Rok (n : Nat) (L : Nat → Int) : Prop := n ≤ maxLen ∧ ∀ i, -2^63 ≤ L i ∧ L i < 2^63
theorem s148 (x n : Int) (hn : n ≤ 2^40) : FSpec Tryd.prog 148 [.d (.int .i64 x), .d (.int .i64 n)] [] (fun y r => (∃ m : Int, 0 ≤ m ∧ (1 ≤ n → m < n) ∧ (n < 1 → m = 0) ∧ y = .d (.int .i64 m)) ∧ r = []) := by
  refine spec_of hT (C := []) Tryd.func148 rfl Tryd.call148 rfl rfl rfl ?_
  conv => whnf
  refine br_intro (fun h => ?_) (fun h => ?_)
  · conv => whnf
    refine .ret _ ?_
    conv => whnf
    refine ⟨[], ⟨⟨_, ?_, ?_, ?_, rfl⟩, rfl⟩, trivial⟩
    all_goals (simp at h; omega)
  · conv => whnf
    refine ⟨?_, ?_⟩
    · simp at h; omega
    conv => whnf
    simp at h
    have h1 := Int.tmod_lt_of_pos x (b := n) (by omega)
    have h2 := Int.lt_tmod_of_pos x (b := n) (by omega)
    refine br_intro (fun h2 => ?_) (fun h2 => ?_)
    · conv => whnf
      simp at h2
      refine ⟨?_, ?_⟩
      · unfold inI64; omega
      · conv => whnf
        refine .ret _ ?_
        conv => whnf
        refine ⟨[], ⟨⟨_, ?_, ?_, ?_, rfl⟩, rfl⟩, trivial⟩
        all_goals omega
    · conv => whnf
      simp at h2
      refine .ret _ ?_
      conv => whnf
      refine ⟨[], ⟨⟨_, ?_, ?_, ?_, rfl⟩, rfl⟩, trivial⟩
      all_goals omega
theorem nextB {a n : Int} (h0 : 0 ≤ a) (hn : 1 ≤ n) : 0 ≤ a.tdiv n ∧ a.tdiv n ≤ a ∧ 0 ≤ a.tmod n ∧ a.tmod n < n ∧ 0 ≤ a.tdiv n * a.tmod n ∧ a.tdiv n * a.tmod n ≤ a ∧ a.tmod n ≤ a := by
  have h1 : 0 ≤ a.tdiv n := Int.tdiv_nonneg h0 (by omega)
  have h2 : 0 ≤ a.tmod n := Int.tmod_nonneg _ h0
  have h3 : a.tmod n < n := Int.tmod_lt_of_pos _ (by omega)
  have h4 := Int.tmod_add_mul_tdiv a n
  have h5 : a.tdiv n * 1 ≤ a.tdiv n * n := Int.mul_le_mul_of_nonneg_left hn h1
  have h6 : a.tdiv n * a.tmod n ≤ a.tdiv n * n := Int.mul_le_mul_of_nonneg_left (by omega) h1
  have h7 : 0 ≤ a.tdiv n * a.tmod n := Int.mul_nonneg h1 h2
  rw [Int.mul_comm] at h4
  have h8 : 0 ≤ a.tdiv n * n := Int.mul_nonneg h1 (by omega)
  refine ⟨h1, ?_, h2, h3, h7, ?_, ?_⟩ <;> omega
theorem s86 (n : Nat) (L : Nat → Int) (hL : Rok n L) (a : Int) (h0 : 0 ≤ a) (ha : a ≤ 2^40) (m : Int) (hm : m ≤ 2^40) :
    FSpec Tryd.prog 86 [.ptr 1000000 0, .d (.int .i64 m)] [(1000000, strm n L a)] (fun y r => (∃ j : Int, 0 ≤ j ∧ (1 ≤ m → j < m) ∧ (m < 1 → j = 0) ∧ y = .d (.int .i64 j)) ∧ r = [(1000000, strm n L (a + 1))]) := by
  refine spec_of hT (C := []) Tryd.func86 rfl Tryd.call86 rfl rfl rfl ?_
  conv => whnf
  refine ⟨by unfold inI64; omega, ?_⟩
  conv => whnf
  refine br_intro (fun h => ?_) (fun h => ?_)
  · conv => whnf
    refine ⟨by unfold inI64; omega, ?_⟩
    conv => whnf
    refine CallX.of (s148 _ _ hm) [] rfl ⟨SV.le_refl _, SV.le_refl _, trivial⟩ trivial rfl rfl ?_
    rintro x rout ⟨⟨j, j1, j2, j3, rfl⟩, rfl⟩
    refine ⟨rfl, ?_⟩
    conv => whnf
    refine .ret _ ?_
    conv => whnf
    exact ⟨[(1000000, strm n L (a + 1))], ⟨⟨_, j1, j2, j3, rfl⟩, rfl⟩, Res.le_refl _, trivial⟩
  · conv => whnf
    simp at h
    have hnp : (1:Int) ≤ n := by omega
    refine RegX.rule hT rfl [] [(0, []), (1, []), (2, []), (3, []), (4, []), (5, [0, 1, 2, 3, 4]), (6, [0, 1, 2, 3, 4]), (7, [0, 1, 2, 3, 4]), (8, [0, 1, 2, 3, 4]), (9, [0, 1, 2, 3, 4]), (10, []), (11, [])] (by decide +kernel) ?_
    conv => whnf
    refine ⟨by unfold inI64; omega, ?_⟩
    conv => whnf
    refine ⟨by omega, ?_⟩
    conv => whnf
    have ea : a + 1 - 1 = a := by omega
    obtain ⟨b1, b2, b3, b4, b5, b6, b7⟩ := nextB h0 hnp
    refine RegX.rule hT rfl [] [(0, []), (1, []), (2, []), (3, []), (4, []), (5, [0, 1, 2, 3, 4]), (6, [0, 1, 2, 3, 4]), (7, [0, 1, 2, 3, 4]), (8, [0, 1, 2, 3, 4]), (9, [0, 1, 2, 3, 4]), (10, []), (11, [])] (by decide +kernel) ?_
    conv => whnf
    refine ⟨by unfold inI64; omega, ?_⟩
    conv => whnf
    refine ⟨by omega, ?_⟩
    conv => whnf
    refine ⟨by unfold inI64; rw [ea]; omega, ?_⟩
    conv => whnf
    rw [ea]
    refine ⟨⟨b3, b4⟩, ?_⟩
    conv => whnf
    refine CallX.of (s148 _ _ (by omega)) [] rfl ⟨SV.le_refl _, SV.le_refl _, trivial⟩ trivial rfl rfl ?_
    rintro x rout ⟨⟨j, j1, j2, j3, rfl⟩, rfl⟩
    refine ⟨rfl, ?_⟩
    conv => whnf
    refine ⟨by unfold inI64; omega, ?_⟩
    conv => whnf
    have e2 : a.tdiv n * (7919 + a.tmod n) = 7919 * a.tdiv n + a.tdiv n * a.tmod n := by rw [Int.mul_add, Int.mul_comm _ 7919]
    rw [e2]
    refine ⟨by unfold inI64; omega, ?_⟩
    conv => whnf
    refine ⟨by unfold inI64; omega, ?_⟩
    conv => whnf
    refine CallX.of (s148 _ _ hm) [] rfl ⟨SV.le_refl _, SV.le_refl _, trivial⟩ trivial rfl rfl ?_
    rintro x rout ⟨⟨j, k1, k2, k3, rfl⟩, rfl⟩
    refine ⟨rfl, ?_⟩
    conv => whnf
    refine .ret _ ?_
    conv => whnf
    exact ⟨[(1000000, strm n L (a + 1))], ⟨⟨_, k1, k2, k3, rfl⟩, rfl⟩, Res.le_refl _, trivial⟩
/-- What a maker leaves of the stream: it moved on by at most 'c'. -/
def Moved (n : Nat) (L : Nat → Int) (a : Int) (c : Int) (r : List (Nat × Res)) : Prop := ∃ b, a ≤ b ∧ b ≤ a + c ∧ r = [(1000000, strm n L b)]
-- Range
theorem s64 (n : Nat) (L : Nat → Int) (hL : Rok n L) (a : Int) (h0 : 0 ≤ a) (ha : a ≤ 2^40) (lo hi : Int) (h1 : -2^41 ≤ lo) (h2 : hi ≤ lo + 2^40 - 1) (h3 : lo ≤ 2^41) (h4 : lo ≤ hi) :
    FSpec Tryd.prog 64 [.ptr 1000000 0, .d (.int .i64 lo), .d (.int .i64 hi)] [(1000000, strm n L a)] (fun y r => (∃ j : Int, lo ≤ j ∧ j ≤ hi ∧ y = .d (.int .i64 j)) ∧ Moved n L a 1 r) := by
  refine spec_of hT (C := []) Tryd.func64 rfl Tryd.call64 rfl rfl rfl ?_
  conv => whnf
  refine br_intro (fun h => ?_) (fun h => ?_)
  · simp at h; omega
  conv => whnf
  refine ⟨by unfold inI64; omega, ?_⟩
  conv => whnf
  refine ⟨by unfold inI64; omega, ?_⟩
  conv => whnf
  refine CallX.of (s86 n L hL a h0 ha _ (by omega)) [(1000000, 1000000)] rfl ⟨SV.le_refl _, SV.le_refl _, trivial⟩ ⟨Res.le_refl _, trivial⟩ rfl rfl ?_
  rintro x rout ⟨⟨j, k1, k2, k3, rfl⟩, rfl⟩
  refine ⟨rfl, ?_⟩
  conv => whnf
  refine ⟨by unfold inI64; omega, ?_⟩
  conv => whnf
  refine .ret _ ?_
  conv => whnf
  exact ⟨[(1000000, strm n L (a + 1))], ⟨⟨_, by omega, by omega, rfl⟩, a + 1, by omega, by omega, rfl⟩, Res.le_refl _, trivial⟩
-- Flip
theorem s84 (n : Nat) (L : Nat → Int) (hL : Rok n L) (a : Int) (h0 : 0 ≤ a) (ha : a ≤ 2^40) (m : Int) (hm : m ≤ 2^40) :
    FSpec Tryd.prog 84 [.ptr 1000000 0, .d (.int .i64 m)] [(1000000, strm n L a)] (fun y r => (∃ b : Bool, y = .d (.bool b)) ∧ Moved n L a 1 r) := by
  refine spec_of hT (C := []) Tryd.func84 rfl Tryd.call84 rfl rfl rfl ?_
  conv => whnf
  refine CallX.of (s86 n L hL a h0 ha _ (by omega)) [(1000000, 1000000)] rfl ⟨SV.le_refl _, SV.le_refl _, trivial⟩ ⟨Res.le_refl _, trivial⟩ rfl rfl ?_
  rintro x rout ⟨⟨j, k1, k2, k3, rfl⟩, rfl⟩
  refine ⟨rfl, ?_⟩
  conv => whnf
  refine .ret _ ?_
  conv => whnf
  exact ⟨[(1000000, strm n L (a + 1))], ⟨⟨_, rfl⟩, a + 1, by omega, by omega, rfl⟩, Res.le_refl _, trivial⟩
-- Pick
theorem s33 (n : Nat) (L : Nat → Int) (hL : Rok n L) (a : Int) (h0 : 0 ≤ a) (ha : a ≤ 2^40) (l : List Int) (hl : 1 ≤ l.length) (hl2 : l.length ≤ 2^40) :
    FSpec Tryd.prog 33 [.ptr 1000000 0, .d (ints l)] [(1000000, strm n L a)] (fun y r => (∃ x ∈ l, y = .d (.int .i64 x)) ∧ Moved n L a 1 r) := by
  refine spec_of hT (C := []) Tryd.func33 rfl Tryd.call33 rfl rfl rfl ?_
  conv => whnf
  refine CallX.of (s86 n L hL a h0 ha l.length (by omega)) [(1000000, 1000000)] rfl ⟨SV.le_refl _, SV.le_refl _, trivial⟩ ⟨Res.le_refl _, trivial⟩ rfl rfl ?_
  rintro x rout ⟨⟨j, k1, k2, k3, rfl⟩, rfl⟩
  refine ⟨rfl, ?_⟩
  conv => whnf
  refine ⟨⟨k1, by omega⟩, ?_⟩
  conv => whnf
  refine .ret _ ?_
  conv => whnf
  exact ⟨[(1000000, strm n L (a + 1))], ⟨⟨_, getD_mem (by omega), rfl⟩, a + 1, by omega, by omega, rfl⟩, Res.le_refl _, trivial⟩
-- Some
theorem s15 (n : Nat) (L : Nat → Int) (hL : Rok n L) (a : Int) (h0 : 0 ≤ a) (ha : a ≤ 2^40) (l : List (List UInt8)) (hl : 1 ≤ l.length) (hl2 : l.length ≤ 2^40) :
    FSpec Tryd.prog 15 [.ptr 1000000 0, .d (strs l)] [(1000000, strm n L a)] (fun y r => (∃ x ∈ l, y = .d (.str x)) ∧ Moved n L a 1 r) := by
  refine spec_of hT (C := []) Tryd.func15 rfl Tryd.call15 rfl rfl rfl ?_
  conv => whnf
  refine CallX.of (s86 n L hL a h0 ha l.length (by omega)) [(1000000, 1000000)] rfl ⟨SV.le_refl _, SV.le_refl _, trivial⟩ ⟨Res.le_refl _, trivial⟩ rfl rfl ?_
  rintro x rout ⟨⟨j, k1, k2, k3, rfl⟩, rfl⟩
  refine ⟨rfl, ?_⟩
  conv => whnf
  refine ⟨⟨k1, by omega⟩, ?_⟩
  conv => whnf
  refine .ret _ ?_
  conv => whnf
  exact ⟨[(1000000, strm n L (a + 1))], ⟨⟨_, getD_mem (by omega), rfl⟩, a + 1, by omega, by omega, rfl⟩, Res.le_refl _, trivial⟩
theorem Moved.trans {n : Nat} {L : Nat → Int} {a c : Int} {r : List (Nat × Res)} {b d : Int} (h1 : a ≤ b) (h2 : b + d ≤ a + c) (h : Moved n L b d r) : Moved n L a c r := by
  obtain ⟨e, q1, q2, rfl⟩ := h
  exact ⟨e, by omega, by omega, rfl⟩
-- Odd
theorem s104 (n : Nat) (L : Nat → Int) (hL : Rok n L) (a : Int) (h0 : 0 ≤ a) (ha : a ≤ 2^39) (lo hi : Int) (h1 : -2^38 ≤ lo) (h2 : lo ≤ hi) (h3 : hi ≤ 2^39) :
    FSpec Tryd.prog 104 [.ptr 1000000 0, .d (.int .i64 lo), .d (.int .i64 hi)] [(1000000, strm n L a)] (fun y r => (∃ j : Int, -2^40 ≤ j ∧ j ≤ 2^40 ∧ y = .d (.int .i64 j)) ∧ Moved n L a 2 r) := by
  refine spec_of hT (C := []) Tryd.func104 rfl Tryd.call104 rfl rfl rfl ?_
  conv => whnf
  refine CallX.of (s84 n L hL a h0 (by omega) 12 (by omega)) [(1000000, 1000000)] rfl ⟨SV.le_refl _, SV.le_refl _, trivial⟩ ⟨Res.le_refl _, trivial⟩ rfl rfl ?_
  rintro x rout ⟨⟨f, rfl⟩, ⟨b, b1, b2, rfl⟩⟩
  refine ⟨rfl, ?_⟩
  conv => whnf
  refine br_intro (fun hf => ?_) (fun hf => ?_)
  · conv => whnf
    refine ⟨by unfold inI64; omega, ?_⟩
    conv => whnf
    refine ⟨by unfold inI64; omega, ?_⟩
    conv => whnf
    refine CallX.of (s33 n L hL b (by omega) (by omega) [lo - 1, hi + 1, lo, hi, -1099511627776, 1099511627776] (by simp) (by simp)) [(1000000, 1000000)] rfl ⟨SV.le_refl _, SV.le_lit (by rfl) (by rfl), trivial⟩ ⟨Res.le_refl _, trivial⟩ rfl rfl ?_
    rintro x rout ⟨⟨j, hj, rfl⟩, ⟨c, c1, c2, rfl⟩⟩
    refine ⟨rfl, ?_⟩
    conv => whnf
    refine .ret _ ?_
    conv => whnf
    exact ⟨[(1000000, strm n L c)], ⟨⟨j, by simp at hj; omega, by simp at hj; omega, rfl⟩, c, by omega, by omega, rfl⟩, Res.le_refl _, trivial⟩
  · conv => whnf
    refine CallX.of (s64 n L hL b (by omega) (by omega) lo hi (by omega) (by omega) (by omega) h2) [(1000000, 1000000)] rfl ⟨SV.le_refl _, SV.le_refl _, SV.le_refl _, trivial⟩ ⟨Res.le_refl _, trivial⟩ rfl rfl ?_
    rintro x rout ⟨⟨j, j1, j2, rfl⟩, ⟨c, c1, c2, rfl⟩⟩
    refine ⟨rfl, ?_⟩
    conv => whnf
    refine .ret _ ?_
    conv => whnf
    exact ⟨[(1000000, strm n L c)], ⟨⟨j, by omega, by omega, rfl⟩, c, by omega, by omega, rfl⟩, Res.le_refl _, trivial⟩
end Go.Proofs.YtellmmmohdjpeaaDoor
set_option maxRecDepth 20000
namespace Go.Proofs.YtellmmmohdjpeaaDoor
open Go Go.Eng
def wOk (x : Int) : Prop := -2^40 ≤ x ∧ x ≤ 2^40
def stW (n : Nat) (L : Nat → Int) (k : Int) (p : Int × List Int) : St :=
  mkSt [(0, .ptr 1000000 0), (3, .buf 3), (5, .d (.int .i64 k)), (6, .d (.int .i64 p.2.length))] [(1000000, strm n L p.1), (3, seqB 3 1 iF 0 p.2)]
-- Weights
theorem s34 (n : Nat) (L : Nat → Int) (hL : Rok n L) (a : Int) (h0 : 0 ≤ a) (ha : a ≤ 2^38) :
    FSpec Tryd.prog 34 [.ptr 1000000 0] [(1000000, strm n L a)] (fun y r => (∃ l : List Int, 1 ≤ l.length ∧ l.length ≤ 6 ∧ (∀ x ∈ l, wOk x) ∧ y = .d (ints l)) ∧ Moved n L a 10 r) := by
  refine spec_of hT (C := []) Tryd.func34 rfl Tryd.call34 rfl rfl rfl ?_
  conv => whnf
  refine CallX.of (s64 n L hL a h0 (by omega) 1 6 (by omega) (by omega) (by omega) (by omega)) [(1000000, 1000000)] rfl ⟨SV.le_refl _, SV.le_refl _, SV.le_refl _, trivial⟩ ⟨Res.le_refl _, trivial⟩ rfl rfl ?_
  rintro x rout ⟨⟨k, k1, k2, rfl⟩, ⟨b, b1, b2, rfl⟩⟩
  refine ⟨rfl, ?_⟩
  conv => whnf
  refine LoopX.rule hT (C := []) (ι := Int × List Int) (fun p => a ≤ p.1 ∧ p.1 ≤ a + 1 + p.2.length ∧ p.2.length ≤ k ∧ ∀ x ∈ p.2, wOk x) (stW n L k) (fun p => k.toNat - p.2.length) (b, []) ⟨by simpa using b1, by simpa using b2, by simp; omega, by simp⟩ ?_ ?_
  · refine (Entails.nil 3 3 3 1 (rowF iF 0 []) rfl rfl (by decide)).trans (Entails.mk' [(1000000, 1000000), (3, 3)] rfl rfl ?_ ?_)
    · exact ⟨SV.le_refl _, SV.le_refl _, SV.le_refl _, SV.le_refl _, trivial⟩
    · exact ⟨Res.le_refl _, Res.le_refl _, trivial⟩
  rintro ⟨b, l⟩ ⟨p1, p2, p3, p4⟩
  simp only at p1 p2 p3 p4
  conv => whnf
  refine br_intro (fun h => ?_) (fun h => ?_)
  · simp only [decide_eq_true_eq] at h
    conv => whnf
    refine CallX.of (s33 n L hL b (by omega) (by omega) [0, 1, 1, 2, 3, 7, 100, 5761440] (by simp) (by simp)) [(1000000, 1000000)] rfl ⟨SV.le_refl _, SV.le_lit (by rfl) (by rfl), trivial⟩ ⟨Res.le_refl _, trivial⟩ rfl rfl ?_
    rintro x rout ⟨⟨j, hj, rfl⟩, ⟨c, c1, c2, rfl⟩⟩
    refine ⟨rfl, ?_⟩
    conv => whnf
    refine ⟨by show (l.length + 1) * 8 ≤ 140737488355328; omega, ?_⟩
    conv => whnf
    refine ⟨by unfold inI64; simp only; omega, ?_⟩
    conv => whnf
    refine ⟨(c, l ++ [j]), ⟨by simp only; omega, by simp only [List.length_append, List.length_singleton]; omega, by simp only [List.length_append, List.length_singleton]; omega, fun x hx => ?_⟩, by simp only [List.length_append, List.length_singleton]; omega, ?_⟩
    · rcases List.mem_append.1 hx with q | q
      · exact p4 x q
      · simp at q hj; subst q; unfold wOk; omega
    refine Entails.mk' [(1000000, 1000000), (3, 13)] rfl rfl ?_ ?_
    · exact ⟨SV.le_refl _, SV.le_refl _, SV.le_refl _, SV.le_int (by simp), trivial⟩
    · exact ⟨Res.le_refl _, Res.le_snocF (by rfl), trivial⟩
  · simp only [decide_eq_false_iff_not] at h
    conv => whnf
    have hlen : l.length = k := by omega
    refine CallX.of (s84 n L hL b (by omega) (by omega) 20 (by omega)) [(1000000, 1000000)] rfl ⟨SV.le_refl _, SV.le_refl _, trivial⟩ ⟨Res.le_refl _, trivial⟩ rfl rfl ?_
    rintro x rout ⟨⟨f, rfl⟩, ⟨c, c1, c2, rfl⟩⟩
    refine ⟨rfl, ?_⟩
    conv => whnf
    refine br_intro (fun hf => ?_) (fun hf => ?_)
    · conv => whnf
      refine CallX.of (s104 n L hL c (by omega) (by omega) 0 5761440 (by omega) (by omega) (by omega)) [(1000000, 1000000)] rfl ⟨SV.le_refl _, SV.le_refl _, SV.le_refl _, trivial⟩ ⟨Res.le_refl _, trivial⟩ rfl rfl ?_
      rintro x rout ⟨⟨j, j1, j2, rfl⟩, ⟨d, d1, d2, rfl⟩⟩
      refine ⟨rfl, ?_⟩
      conv => whnf
      refine ⟨⟨by omega, by simp only; omega⟩, ?_⟩
      refine ⟨by simp only; omega, ?_⟩
      conv => whnf
      refine .freeze _ 3 3 1 _ _ rfl ?_
      refine .weak _ ?_
      conv => whnf
      refine ⟨.d (ints (l.set 0 j)), [(1000000, strm n L d)], SV.le_putF (by intro y _; rfl), ⟨⟨l.set 0 j, by simp; omega, by simp; omega, fun x hx => ?_, rfl⟩, d, by omega, by omega, rfl⟩, Res.le_refl _, trivial⟩
      · rcases List.mem_or_eq_of_mem_set hx with q | q
        · exact p4 x q
        · subst q; exact ⟨j1, j2⟩
    · conv => whnf
      refine .freeze _ 3 3 1 _ _ rfl ?_
      refine .ret _ ?_
      conv => whnf
      exact ⟨[(1000000, strm n L c)], ⟨⟨l, by omega, by omega, p4, by conv => lhs; whnf⟩, c, by omega, by omega, rfl⟩, Res.le_refl _, trivial⟩
end Go.Proofs.YtellmmmohdjpeaaDoor
set_option maxRecDepth 20000
namespace Go.Proofs.YtellmmmohdjpeaaDoor
open Go Go.Eng
-- word.In
theorem s119 (n lo hi : Int) : FSpec Tryd.prog 119 [.d (.int .i64 n), .d (.int .i64 lo), .d (.int .i64 hi)] [] (fun x r => x = .d (.bool (decide (lo ≤ n ∧ n ≤ hi))) ∧ r = []) := by
  refine spec_of hT (C := []) Tryd.func119 rfl Tryd.call119 rfl rfl rfl ?_
  conv => whnf
  refine br_intro (fun h => ?_) (fun h => ?_)
  · conv => whnf
    refine .ret _ ?_
    conv => whnf
    refine ⟨[], ⟨?_, rfl⟩, trivial⟩
    conv => lhs; whnf
    simp at h ⊢; simp [h]
  · conv => whnf
    refine .ret _ ?_
    conv => whnf
    refine ⟨[], ⟨?_, rfl⟩, trivial⟩
    conv => lhs; whnf
    simp at h ⊢; omega
-- rentref2.in
theorem s109 (n lo hi : Int) : FSpec Tryd.prog 109 [.d (.int .i64 n), .d (.int .i64 lo), .d (.int .i64 hi)] [] (fun x r => x = .d (.bool (decide (lo ≤ n ∧ n ≤ hi))) ∧ r = []) := by
  refine spec_of hT (C := []) Tryd.func109 rfl Tryd.call109 rfl rfl rfl ?_
  conv => whnf
  refine br_intro (fun h => ?_) (fun h => ?_)
  · conv => whnf
    refine .ret _ ?_
    conv => whnf
    refine ⟨[], ⟨?_, rfl⟩, trivial⟩
    conv => lhs; whnf
    simp at h ⊢; simp [h]
  · conv => whnf
    refine .ret _ ?_
    conv => whnf
    refine ⟨[], ⟨?_, rfl⟩, trivial⟩
    conv => lhs; whnf
    simp at h ⊢; omega
-- word.When
theorem s107 (b : Bool) (e : Int) : FSpec Tryd.prog 107 [.d (.bool b), .d (.int .i64 e)] [] (fun x r => x = .d (.int .i64 (if b then e else 0)) ∧ r = []) := by
  refine spec_of hT (C := []) Tryd.func107 rfl Tryd.call107 rfl rfl rfl ?_
  conv => whnf
  refine br_intro (fun h => ?_) (fun h => ?_)
  · conv => whnf
    refine .ret _ ?_
    conv => whnf
    refine ⟨[], ⟨?_, rfl⟩, trivial⟩
    conv => lhs; whnf
    simp [h]
  · conv => whnf
    refine .ret _ ?_
    conv => whnf
    refine ⟨[], ⟨?_, rfl⟩, trivial⟩
    conv => lhs; whnf
    simp [h]
theorem getD_toNat {α : Type} {l : List α} {i : Nat} {d : α} (h : i < l.length) : l.getD (i : Int).toNat d = l[i] := by
  rw [Int.toNat_natCast, List.getD_eq_getElem?_getD]; simp [h]
theorem sum_take {l : List Int} {i : Nat} (hi : i < l.length) : (l.take (i + 1)).sum = (l.take i).sum + l[i] := by
  rw [← List.take_append_getElem hi, List.sum_append]; simp
/-- The first error of some. -/
def firstE : List Int → Int
  | [] => 0
  | x :: l => if x = 0 then firstE l else x
-- cmp.Or
theorem s161 (l : List Int) (hl : l.length ≤ 2^40) : FSpec Tryd.prog 161 [.d (ints l)] [] (fun x r => x = .d (.int .i64 (firstE l)) ∧ r = []) := by
  refine spec_of hT (C := []) Tryd.func161 rfl Tryd.call161 rfl rfl rfl ?_
  conv => whnf
  refine LoopX.rule hT (C := []) (ι := Nat) (fun i => i ≤ l.length ∧ firstE l = firstE (l.drop i)) (fun i => mkSt [(3, .d (.int .i64 0)), (6, .d (ints l)), (7, .d (.int .i64 l.length)), (8, .d (.int .i64 i))] []) (fun i => l.length - i) 0 ⟨by omega, by simp⟩ ?_ ?_
  · refine Entails.mk' [] rfl rfl ⟨SV.le_refl _, SV.le_refl _, SV.le_refl _, SV.le_refl _, trivial⟩ trivial
  rintro i ⟨p1, p2⟩
  conv => whnf
  refine br_intro (fun h => ?_) (fun h => ?_)
  · simp only [decide_eq_true_eq] at h
    conv => whnf
    refine ⟨⟨by omega, by omega⟩, ?_⟩
    conv => whnf
    have hi : i < l.length := by omega
    have hd : l.drop i = l[i] :: l.drop (i + 1) := List.drop_eq_getElem_cons hi
    refine br_intro (fun h2 => ?_) (fun h2 => ?_)
    · conv => whnf
      refine .ret _ ?_
      conv => whnf
      refine ⟨[], ⟨?_, rfl⟩, trivial⟩
      conv => lhs; whnf
      rw [getD_toNat hi] at h2 ⊢
      simp at h2
      rw [p2, hd, firstE, if_neg h2]
    · conv => whnf
      rw [getD_toNat hi] at h2
      simp at h2
      refine ⟨by unfold inI64; omega, ?_⟩
      conv => whnf
      refine ⟨i + 1, ⟨hi, ?_⟩, by omega, ?_⟩
      · rw [p2, hd, firstE, if_pos h2]
      · exact Entails.mk' [] rfl rfl ⟨SV.le_refl _, SV.le_refl _, SV.le_refl _, SV.le_refl _, trivial⟩ trivial
  · simp only [decide_eq_false_iff_not] at h
    conv => whnf
    refine .ret _ ?_
    conv => whnf
    refine ⟨[], ⟨?_, rfl⟩, trivial⟩
    conv => lhs; whnf
    rw [p2, List.drop_eq_nil_iff.2 (by omega)]; rfl
-- word.First
theorem s105 (l : List Int) (hl : l.length ≤ 2^40) : FSpec Tryd.prog 105 [.d (ints l)] [] (fun x r => x = .d (.int .i64 (firstE l)) ∧ r = []) := by
  refine spec_of hT (C := []) Tryd.func105 rfl Tryd.call105 rfl rfl rfl ?_
  conv => whnf
  refine CallX.pure (s161 l hl) ⟨SV.le_refl _, trivial⟩ rfl ?_
  conv => whnf
  refine .ret _ ?_
  conv => whnf
  exact ⟨[], ⟨rfl, rfl⟩, trivial⟩
-- slices.Equal of numbers
theorem s37 (l m : List Int) (hl : l.length ≤ 2^40) (hm : m.length ≤ 2^40) : FSpec Tryd.prog 37 [.d (ints l), .d (ints m)] [] (fun x r => x = .d (.bool (decide (l = m))) ∧ r = []) := by
  refine spec_of hT (C := []) Tryd.func37 rfl Tryd.call37 rfl rfl rfl ?_
  conv => whnf
  refine br_intro (fun h0 => ?_) (fun h0 => ?_)
  · simp at h0
    conv => whnf
    refine .ret _ ?_
    conv => whnf
    refine ⟨[], ⟨?_, rfl⟩, trivial⟩
    conv => lhs; whnf
    have : l ≠ m := fun e => h0 (by rw [e])
    simp [this]
  simp at h0
  have hlen : l.length = m.length := by omega
  conv => whnf
  refine LoopX.rule hT (C := []) (ι := Nat) (fun i => i ≤ l.length ∧ l.take i = m.take i) (fun i => mkSt [(0, .d (ints l)), (1, .d (ints m)), (12, .d (.int .i64 l.length)), (13, .d (.int .i64 i))] []) (fun i => l.length - i) 0 ⟨by omega, by simp⟩ ?_ ?_
  · refine Entails.mk' [] rfl rfl ⟨SV.le_refl _, SV.le_refl _, SV.le_refl _, SV.le_refl _, trivial⟩ trivial
  rintro i ⟨p1, p2⟩
  conv => whnf
  refine br_intro (fun h => ?_) (fun h => ?_)
  · simp only [decide_eq_true_eq] at h
    have hi : i < l.length := by omega
    have hi2 : i < m.length := by omega
    conv => whnf
    refine RegX.rule hT rfl [] [(0, []), (1, [0]), (2, []), (3, []), (4, [0, 1, 2, 3]), (5, [0, 1, 2, 3, 4]), (6, [0, 1, 2, 3]), (7, [0, 1, 2, 3]), (8, [])] (by decide +kernel) ?_
    conv => whnf
    refine ⟨⟨by omega, by omega⟩, ?_⟩
    conv => whnf
    refine ⟨⟨by omega, by omega⟩, ?_⟩
    conv => whnf
    refine br_intro (fun h2 => ?_) (fun h2 => ?_)
    · conv => whnf
      refine .ret _ ?_
      conv => whnf
      refine ⟨[], ⟨?_, rfl⟩, trivial⟩
      conv => lhs; whnf
      rw [getD_toNat hi, getD_toNat hi2] at h2
      simp at h2
      have : l ≠ m := fun e => h2 (by subst e; rfl)
      simp [this]
    · conv => whnf
      rw [getD_toNat hi, getD_toNat hi2] at h2
      simp at h2
      refine ⟨by unfold inI64; omega, ?_⟩
      conv => whnf
      refine ⟨i + 1, ⟨hi, ?_⟩, by omega, ?_⟩
      · rw [← List.take_append_getElem hi, ← List.take_append_getElem hi2, p2, h2]
      · exact Entails.mk' [] rfl rfl ⟨SV.le_refl _, SV.le_refl _, SV.le_refl _, SV.le_refl _, trivial⟩ trivial
  · simp only [decide_eq_false_iff_not] at h
    conv => whnf
    refine .ret _ ?_
    conv => whnf
    refine ⟨[], ⟨?_, rfl⟩, trivial⟩
    conv => lhs; whnf
    have e1 : i = l.length := by omega
    have : l = m := by
      subst e1
      rw [List.take_length, hlen, List.take_length] at p2
      exact p2
    simp [this]
def splitF (cents : Int) (w : List Int) : Int :=
  if ¬ (0 ≤ cents ∧ cents ≤ 1000000000) then 1 else if 50 < w.length then 2 else if w.any (fun x => !decide (0 ≤ x ∧ x ≤ 5761440)) then 1 else if w.sum = 0 then 8 else 0
-- rentref2.SplitFault
theorem s36 (cents : Int) (w : List Int) : FSpec Tryd.prog 36 [.d (.int .i64 cents), .d (ints w)] [] (fun x r => x = .d (.int .i64 (splitF cents w)) ∧ r = []) := by
  refine spec_of hT (C := []) Tryd.func36 rfl Tryd.call36 rfl rfl rfl ?_
  conv => whnf
  refine CallX.pure (s109 _ _ _) ⟨SV.le_refl _, SV.le_refl _, SV.le_refl _, trivial⟩ rfl ?_
  conv => whnf
  refine br_intro (fun h0 => ?_) (fun h0 => ?_)
  · conv => whnf
    refine .ret _ ?_
    conv => whnf
    refine ⟨[], ⟨?_, rfl⟩, trivial⟩
    conv => lhs; whnf
    simp at h0; simp [splitF]; omega
  simp at h0
  conv => whnf
  refine br_intro (fun h1 => ?_) (fun h1 => ?_)
  · conv => whnf
    refine .ret _ ?_
    conv => whnf
    refine ⟨[], ⟨?_, rfl⟩, trivial⟩
    conv => lhs; whnf
    simp at h1
    simp only [splitF]; rw [if_neg (by omega), if_pos (by omega)]
  simp at h1
  conv => whnf
  refine LoopX.rule hT (C := []) (ι := Nat) (fun i => i ≤ w.length ∧ (∀ x ∈ w.take i, 0 ≤ x ∧ x ≤ 5761440) ∧ 0 ≤ (w.take i).sum ∧ (w.take i).sum ≤ 5761440 * i) (fun i => mkSt [(5, .d (.int .i64 (w.take i).sum)), (14, .d (ints w)), (15, .d (.int .i64 w.length)), (16, .d (.int .i64 i))] []) (fun i => w.length - i) 0 ⟨by omega, by simp, by simp, by simp⟩ ?_ ?_
  · refine Entails.mk' [] rfl rfl ⟨SV.le_refl _, SV.le_refl _, SV.le_refl _, SV.le_refl _, trivial⟩ trivial
  rintro i ⟨p1, p2, p3, p4⟩
  conv => whnf
  refine br_intro (fun h => ?_) (fun h => ?_)
  · simp only [decide_eq_true_eq] at h
    have hi : i < w.length := by omega
    conv => whnf
    refine ⟨⟨by omega, by omega⟩, ?_⟩
    conv => whnf
    refine CallX.pure (s109 _ _ _) ⟨SV.le_refl _, SV.le_refl _, SV.le_refl _, trivial⟩ rfl ?_
    rw [getD_toNat hi]
    conv => whnf
    refine br_intro (fun h2 => ?_) (fun h2 => ?_)
    · conv => whnf
      refine .ret _ ?_
      conv => whnf
      refine ⟨[], ⟨?_, rfl⟩, trivial⟩
      conv => lhs; whnf
      simp only [splitF]
      rw [if_neg (by omega), if_neg (by omega), if_pos]
      rw [List.any_eq_true]
      exact ⟨w[i], List.getElem_mem hi, h2⟩
    · simp at h2
      conv => whnf
      have hs : (w.take (i + 1)).sum = (w.take i).sum + w[i] := sum_take hi
      refine ⟨by unfold inI64; omega, ?_⟩
      conv => whnf
      refine ⟨by unfold inI64; omega, ?_⟩
      conv => whnf
      refine ⟨i + 1, ⟨hi, fun x hx => ?_, by omega, by omega⟩, by omega, ?_⟩
      · rw [← List.take_append_getElem hi] at hx
        rcases List.mem_append.1 hx with q | q
        · exact p2 x q
        · simp at q; subst q; omega
      · exact Entails.mk' [] rfl rfl ⟨SV.le_int hs.symm, SV.le_refl _, SV.le_refl _, SV.le_refl _, trivial⟩ trivial
  · simp only [decide_eq_false_iff_not] at h
    have e1 : i = w.length := by omega
    subst e1
    rw [List.take_length] at p2 p3 p4 ⊢
    have hany : w.any (fun x => !decide (0 ≤ x ∧ x ≤ 5761440)) = false := by
      rw [List.any_eq_false]; intro x hx; have := p2 x hx; simp; omega
    conv => whnf
    refine br_intro (fun h2 => ?_) (fun h2 => ?_)
    · conv => whnf
      refine .ret _ ?_
      conv => whnf
      refine ⟨[], ⟨?_, rfl⟩, trivial⟩
      conv => lhs; whnf
      simp only [splitF]
      simp at h2
      rw [if_neg (by omega), if_neg (by omega), hany, if_neg (by simp), if_pos h2]
    · conv => whnf
      refine .ret _ ?_
      conv => whnf
      refine ⟨[], ⟨?_, rfl⟩, trivial⟩
      conv => lhs; whnf
      simp only [splitF]
      simp at h2
      rw [if_neg (by omega), if_neg (by omega), hany, if_neg (by simp), if_neg h2]
end Go.Proofs.YtellmmmohdjpeaaDoor
set_option maxRecDepth 20000
namespace Go.Proofs.YtellmmmohdjpeaaDoor
open Go Go.Eng
section
variable {α : Type} (cmp : α → α → Int)
/-- Insertion from the right into a row that is written backwards. -/
def insR (x : α) : List α → List α
  | [] => [x]
  | y :: r => if cmp x y < 0 then y :: insR x r else x :: y :: r
def isortR (l : List α) : List α := l.foldl (fun acc x => insR cmp x acc) []
def isort (l : List α) : List α := (isortR cmp l).reverse
theorem insR_length (x : α) : ∀ l : List α, (insR cmp x l).length = l.length + 1 := by
  intro l
  induction l with
  | nil => rfl
  | cons y r ih => simp only [insR]; split <;> simp [ih]
theorem isortR_snoc (l : List α) (x : α) : isortR cmp (l ++ [x]) = insR cmp x (isortR cmp l) := by simp [isortR]
theorem isortR_length (l : List α) : (isortR cmp l).length = l.length := by
  have : ∀ (l acc : List α), (l.foldl (fun acc x => insR cmp x acc) acc).length = acc.length + l.length := by
    intro l
    induction l with
    | nil => intro acc; simp
    | cons x l ih => intro acc; rw [List.foldl_cons, ih, insR_length]; simp; omega
  rw [isortR, this]; simp
theorem insR_mem (x y : α) : ∀ {l : List α}, y ∈ insR cmp x l ↔ y = x ∨ y ∈ l := by
  intro l
  induction l with
  | nil => simp [insR]
  | cons z r ih =>
    simp only [insR]
    split
    · simp only [List.mem_cons, ih]
      constructor
      · rintro (h | h | h)
        · exact .inr (.inl h)
        · exact .inl h
        · exact .inr (.inr h)
      · rintro (h | h | h)
        · exact .inr (.inl h)
        · exact .inl h
        · exact .inr (.inr h)
    · simp
theorem isortR_mem {y : α} (l : List α) : y ∈ isortR cmp l ↔ y ∈ l := by
  have : ∀ (l acc : List α), y ∈ (l.foldl (fun acc x => insR cmp x acc) acc) ↔ y ∈ acc ∨ y ∈ l := by
    intro l
    induction l with
    | nil => intro acc; simp
    | cons x l ih =>
      intro acc; rw [List.foldl_cons, ih, insR_mem, List.mem_cons]
      constructor
      · rintro ((h | h) | h)
        · exact .inr (.inl h)
        · exact .inl h
        · exact .inr (.inr h)
      · rintro (h | h | h)
        · exact .inl (.inr h)
        · exact .inl (.inl h)
        · exact .inr h
  rw [isortR, this]; simp
end
def cap3 (x y z : SV) (e1 e2 e3 : TypeId) : List (Nat × Res) := [(1000002, .cells e1 [x]), (1000003, .cells e2 [y]), (1000004, .cells e3 [z])]
def cap3P : List SV := [.ptr 1000002 0, .ptr 1000003 0, .ptr 1000004 0]
theorem take_snoc {α : Type} {l : List α} {i : Nat} (h : i < l.length) : l.take (i + 1) = l.take i ++ [l[i]] := (List.take_append_getElem h).symm
theorem getD_mid {α : Type} (A B : List α) (x d : α) {i : Nat} (h : i = A.length) : (A ++ x :: B).getD i d = x := by
  subst h; rw [List.getD_eq_getElem?_getD]; simp
theorem swap_lemma {α : Type} (A B : List α) (x y : α) : (((A ++ [y] ++ [x] ++ B).set (A.length + 1) y).set A.length x) = A ++ [x] ++ [y] ++ B := by
  simp [List.set_append]
-- insertionSortCmpFunc[int], a closure with three cells
theorem s228 (g : FuncId) (x1 x2 x3 : DV) (e1 e2 e3 : TypeId) (cmp : Int → Int → Int) (l : List Int) (hl : l.length ≤ 2^40)
    (hcmp : ∀ p q, p ∈ l → q ∈ l → FSpec Tryd.prog g [.d (.int .i64 p), .d (.int .i64 q), .ptr 1000002 0, .ptr 1000003 0, .ptr 1000004 0] (cap3 (.d x1) (.d x2) (.d x3) e1 e2 e3)
      (fun y r => y = .d (.int .i64 (cmp p q)) ∧ r = cap3 (.d x1) (.d x2) (.d x3) e1 e2 e3)) :
    FSpec Tryd.prog 228 [.buf 1000001, .d (.int .i64 0), .d (.int .i64 l.length), .fn g [.ptr 1000002 0, .ptr 1000003 0, .ptr 1000004 0]] ((1000001, seqB 3 1 iF 0 l) :: cap3 (.d x1) (.d x2) (.d x3) e1 e2 e3)
      (fun y r => y = .tup [] ∧ r = (1000001, seqB 3 1 iF 0 (isort cmp l)) :: cap3 (.d x1) (.d x2) (.d x3) e1 e2 e3) := by
  refine spec_of hT (C := []) Tryd.func228 rfl Tryd.call228 rfl rfl rfl ?_
  conv => whnf
  refine ⟨by unfold inI64; omega, ?_⟩
  conv => whnf
  refine LoopX.rule hT (C := []) (ι := Nat × List Int) (fun p => 1 ≤ p.1 ∧ (p.1 ≤ l.length ∨ p.1 = 1) ∧ p.2 = (isortR cmp (l.take p.1)).reverse ++ l.drop p.1)
    (fun p => mkSt [(0, .buf 1000001), (1, .d (.int .i64 0)), (2, .d (.int .i64 l.length)), (3, .fn g [.ptr 1000002 0, .ptr 1000003 0, .ptr 1000004 0]), (8, .d (.int .i64 p.1))] ((1000001, seqB 3 1 iF 0 p.2) :: cap3 (.d x1) (.d x2) (.d x3) e1 e2 e3))
    (fun p => l.length - p.1) (1, l) ⟨by simp, by simp, ?_⟩ ?_ ?_
  · simp only
    cases l with
    | nil => rfl
    | cons x l => simp [isortR, insR]
  · exact Entails.mk' [(1000001, 1000001), (1000002, 1000002), (1000003, 1000003), (1000004, 1000004)] rfl rfl ⟨SV.le_refl _, SV.le_refl _, SV.le_refl _, SV.le_refl _, SV.le_refl _, trivial⟩ ⟨Res.le_refl _, Res.le_refl _, Res.le_refl _, Res.le_refl _, trivial⟩
  rintro ⟨i, c⟩ ⟨p1, p2, p3⟩
  simp only at p1 p2 p3
  conv => whnf
  refine br_intro (fun h => ?_) (fun h => ?_)
  · simp only [decide_eq_true_eq] at h
    have hi : i < l.length := by omega
    conv => whnf
    have hx : l[i] ∈ l := List.getElem_mem hi
    have hmem : ∀ y ∈ isortR cmp (l.take i), y ∈ l := fun y hy => List.mem_of_mem_take ((isortR_mem cmp _).1 hy)
    refine LoopX.rule hT (C := []) (ι := List Int × List Int) (fun p => insR cmp l[i] (isortR cmp (l.take i)) = p.2.reverse ++ insR cmp l[i] p.1 ∧ p.1.length + p.2.length = i ∧ ∀ y ∈ p.1, y ∈ l)
      (fun p => mkSt [(0, .buf 1000001), (1, .d (.int .i64 0)), (2, .d (.int .i64 l.length)), (3, .fn g [.ptr 1000002 0, .ptr 1000003 0, .ptr 1000004 0]), (8, .d (.int .i64 i)), (9, .d (.int .i64 p.1.length))]
        ((1000001, seqB 3 1 iF 0 (p.1.reverse ++ [l[i]] ++ p.2 ++ l.drop (i + 1))) :: cap3 (.d x1) (.d x2) (.d x3) e1 e2 e3))
      (fun p => p.1.length) (isortR cmp (l.take i), []) ⟨by simp, ?_, hmem⟩ ?_ ?_
    · simp [isortR_length]; omega
    · refine Entails.mk' [(1000001, 1000001), (1000002, 1000002), (1000003, 1000003), (1000004, 1000004)] rfl rfl ⟨SV.le_refl _, SV.le_refl _, SV.le_refl _, SV.le_refl _, SV.le_refl _, SV.le_int ?_, trivial⟩ ⟨?_, Res.le_refl _, Res.le_refl _, Res.le_refl _, trivial⟩
      · simp [isortR_length]; omega
      · have : c = (isortR cmp (l.take i)).reverse ++ [l[i]] ++ [] ++ l.drop (i + 1) := by rw [p3, List.drop_eq_getElem_cons hi]; simp
        show Res.le (seqB 3 1 iF 0 c) _
        rw [this]; exact Res.le_refl _
    rintro ⟨A, B⟩ ⟨q1, q2, q3⟩
    simp only at q1 q2 q3
    have hlen : (A.reverse ++ [l[i]] ++ B ++ l.drop (i + 1)).length = l.length := by simp; omega
    conv => whnf
    refine RegX.rule hT rfl [] [(0, []), (1, [0]), (2, []), (3, []), (4, []), (5, [4]), (6, [4, 5]), (7, [4]), (8, [4]), (9, [4, 5, 6, 7, 8]), (10, [4, 5, 6, 7, 8, 9]), (11, [4, 5, 6, 7, 8, 9]), (12, [4, 5, 6, 7, 8]), (13, [4, 5, 6, 7, 8]), (14, []), (15, []), (16, [])] (by decide +kernel) ?_
    conv => whnf
    refine br_intro (fun h2 => ?_) (fun h2 => ?_)
    · conv => whnf
      cases A with
      | nil => simp at h2
      | cons y A =>
      have g1 : ((y :: A).reverse ++ [l[i]] ++ B ++ l.drop (i + 1)).getD (((y :: A).length : Int)).toNat 0 = l[i] := by
        rw [show (y :: A).reverse ++ [l[i]] ++ B ++ l.drop (i + 1) = (y :: A).reverse ++ l[i] :: (B ++ l.drop (i + 1)) by simp]
        exact getD_mid _ _ _ _ (by simp)
      have g2 : ((y :: A).reverse ++ [l[i]] ++ B ++ l.drop (i + 1)).getD ((((y :: A).length : Int)) - 1).toNat 0 = y := by
        rw [show (y :: A).reverse ++ [l[i]] ++ B ++ l.drop (i + 1) = A.reverse ++ y :: ([l[i]] ++ B ++ l.drop (i + 1)) by simp]
        exact getD_mid _ _ _ _ (by simp)
      have hA : (y :: A).length = A.length + 1 := rfl
      refine ⟨⟨by omega, by simp only [hlen]; omega⟩, ?_⟩
      conv => whnf
      refine ⟨by simp only [hlen]; omega, ?_⟩
      conv => whnf
      refine ⟨by unfold inI64; simp only [List.length_cons]; omega, ?_⟩
      conv => whnf
      refine ⟨⟨by simp only [List.length_cons]; omega, by simp only [hlen, List.length_cons]; omega⟩, ?_⟩
      conv => whnf
      refine ⟨by simp only [hlen, List.length_cons]; omega, ?_⟩
      conv => whnf
      refine CallX.of (hcmp l[i] y hx (q3 y (by simp))) [(1000002, 1000002), (1000003, 1000003), (1000004, 1000004)] rfl ⟨SV.le_int g1, SV.le_int g2, SV.le_refl _, SV.le_refl _, SV.le_refl _, trivial⟩ ⟨Res.le_refl _, Res.le_refl _, Res.le_refl _, trivial⟩ rfl rfl ?_
      rintro x rout ⟨rfl, rfl⟩
      refine ⟨rfl, ?_⟩
      conv => whnf
      refine br_intro (fun h3 => ?_) (fun h3 => ?_)
      · simp only [decide_eq_true_eq] at h3
        conv => whnf
        refine RegX.rule hT rfl [] [(0, []), (1, [0]), (2, [0, 1]), (3, [0, 1, 2]), (4, [0, 1, 2]), (5, [0, 1, 2, 3, 4]), (6, [0, 1, 2, 3, 4, 5]), (7, [0, 1, 2, 3, 4, 5]), (8, [0, 1, 2, 3, 4]), (9, [0, 1, 2, 3, 4]), (10, [0, 1, 2, 3, 4, 5, 6, 7, 8, 9]), (11, [0, 1, 2, 3, 4, 5, 6, 7, 8, 9, 10]), (12, [0, 1, 2, 3, 4, 5, 6, 7, 8, 9]), (13, [0, 1, 2, 3, 4, 5, 6, 7, 8, 9]), (14, [2, 3, 4]), (15, [2, 3, 4]), (16, []), (17, [])] (by decide +kernel) ?_
        conv => whnf
        repeat (refine And.intro (by (try unfold inI64); (try dsimp only); (try simp only [hlen, List.length_cons, List.length_append, List.length_singleton, List.length_nil]); omega) ?_; conv => whnf)
        have hsw : (((y :: A).reverse ++ [l[i]] ++ B ++ l.drop (i + 1)).set (((y :: A).length : Int)).toNat y).set ((((y :: A).length : Int)) - 1).toNat l[i] = A.reverse ++ [l[i]] ++ (y :: B) ++ l.drop (i + 1) := by
          have k1 : (((y :: A).length : Int)).toNat = A.reverse.length + 1 := by simp
          have k2 : ((((y :: A).length : Int)) - 1).toNat = A.reverse.length := by simp
          rw [k1, k2]
          have := swap_lemma A.reverse (B ++ l.drop (i + 1)) l[i] y
          simp only [List.reverse_cons, List.append_assoc, List.singleton_append, List.cons_append, List.nil_append] at this ⊢
          exact this
        refine ⟨(A, y :: B), ⟨?_, by simp only [List.length_cons] at q2 ⊢; omega, fun z hz => q3 z (by simp [hz])⟩, by simp only [List.length_cons]; omega, ?_⟩
        · rw [q1]; simp [insR, h3]
        · refine Entails.mk' [(1000001, 1000001), (1000002, 1000002), (1000003, 1000003), (1000004, 1000004)] rfl rfl ⟨SV.le_refl _, SV.le_refl _, SV.le_refl _, SV.le_refl _, SV.le_refl _, SV.le_int (by simp only [List.length_cons]; omega), trivial⟩ ⟨?_, Res.le_refl _, Res.le_refl _, Res.le_refl _, trivial⟩
          show Res.le _ (seqB 3 1 iF 0 (A.reverse ++ [l[i]] ++ (y :: B) ++ l.drop (i + 1)))
          rw [← hsw]
          refine Res.le_buf (by simp) (fun k hk => ?_)
          have e1 := rows_putG (f := iF) (d := 0) (l := ((y :: A).reverse ++ [l[i]] ++ B ++ l.drop (i + 1))) (x := y) (j := ((((y :: A).length : Int)).toNat)) (off := 0) (ds := [.int .i64 (((y :: A).reverse ++ [l[i]] ++ B ++ l.drop (i + 1)).getD ((((y :: A).length : Int) - 1).toNat) 0)]) (get := rowF iF 0 ((y :: A).reverse ++ [l[i]] ++ B ++ l.drop (i + 1))) (fun _ _ => rfl) (fun z _ => by rw [g2]; rfl)
          have e2 := rows_putG (f := iF) (d := 0) (l := ((y :: A).reverse ++ [l[i]] ++ B ++ l.drop (i + 1)).set ((((y :: A).length : Int)).toNat) y) (x := l[i]) (j := ((((y :: A).length : Int) - 1).toNat)) (off := 0) (ds := [.int .i64 (((y :: A).reverse ++ [l[i]] ++ B ++ l.drop (i + 1)).getD ((((y :: A).length : Int)).toNat) 0)])
            (get := fun k => bif Nat.beq k ((((y :: A).length : Int)).toNat) then setAtD (rowF iF 0 ((y :: A).reverse ++ [l[i]] ++ B ++ l.drop (i + 1)) k) 0 [.int .i64 (((y :: A).reverse ++ [l[i]] ++ B ++ l.drop (i + 1)).getD ((((y :: A).length : Int) - 1).toNat) 0)] else rowF iF 0 ((y :: A).reverse ++ [l[i]] ++ B ++ l.drop (i + 1)) k) (fun k hk => e1 k (by simpa using hk)) (fun z _ => by rw [g1]; rfl)
          exact e2 k (by simpa using hk)
      · simp only [decide_eq_false_iff_not] at h3
        conv => whnf
        refine ⟨by unfold inI64; omega, ?_⟩
        conv => whnf
        refine ⟨(i + 1, (y :: A).reverse ++ [l[i]] ++ B ++ l.drop (i + 1)), ⟨by simp only; omega, by simp only; omega, ?_⟩, by simp only; omega, ?_⟩
        · simp only
          rw [take_snoc hi, isortR_snoc, q1]; simp [insR, h3]
        · exact Entails.mk' [(1000001, 1000001), (1000002, 1000002), (1000003, 1000003), (1000004, 1000004)] rfl rfl ⟨SV.le_refl _, SV.le_refl _, SV.le_refl _, SV.le_refl _, SV.le_refl _, trivial⟩ ⟨Res.le_refl _, Res.le_refl _, Res.le_refl _, Res.le_refl _, trivial⟩
    · conv => whnf
      refine ⟨by unfold inI64; omega, ?_⟩
      conv => whnf
      have hA : A = [] := by cases A <;> simp at h2 ⊢
      subst hA
      refine ⟨(i + 1, [].reverse ++ [l[i]] ++ B ++ l.drop (i + 1)), ⟨by simp only; omega, by simp only; omega, ?_⟩, by simp only; omega, ?_⟩
      · simp only
        rw [take_snoc hi, isortR_snoc, q1]; simp [insR]
      · exact Entails.mk' [(1000001, 1000001), (1000002, 1000002), (1000003, 1000003), (1000004, 1000004)] rfl rfl ⟨SV.le_refl _, SV.le_refl _, SV.le_refl _, SV.le_refl _, SV.le_refl _, trivial⟩ ⟨Res.le_refl _, Res.le_refl _, Res.le_refl _, Res.le_refl _, trivial⟩
  · conv => whnf
    have e1 : c = isort cmp l := by
      simp only [decide_eq_false_iff_not] at h
      rw [p3, List.take_of_length_le (by omega), List.drop_eq_nil_iff.2 (by omega), List.append_nil]; rfl
    refine .ret _ ?_
    conv => whnf
    subst e1
    exact ⟨_, ⟨rfl, rfl⟩, Res.le_refl _, Res.le_refl _, Res.le_refl _, Res.le_refl _, trivial⟩
end Go.Proofs.YtellmmmohdjpeaaDoor
set_option maxRecDepth 20000
namespace Go.Proofs.YtellmmmohdjpeaaDoor
open Go Go.Eng
-- stableCmpFunc[int], few elements
theorem s207 (g : FuncId) (x1 x2 x3 : DV) (e1 e2 e3 : TypeId) (cmp : Int → Int → Int) (l : List Int) (hl : l.length < 20)
    (hcmp : ∀ p q, p ∈ l → q ∈ l → FSpec Tryd.prog g [.d (.int .i64 p), .d (.int .i64 q), .ptr 1000002 0, .ptr 1000003 0, .ptr 1000004 0] (cap3 (.d x1) (.d x2) (.d x3) e1 e2 e3)
      (fun y r => y = .d (.int .i64 (cmp p q)) ∧ r = cap3 (.d x1) (.d x2) (.d x3) e1 e2 e3)) :
    FSpec Tryd.prog 207 [.buf 1000001, .d (.int .i64 l.length), .fn g [.ptr 1000002 0, .ptr 1000003 0, .ptr 1000004 0]] ((1000001, seqB 3 1 iF 0 l) :: cap3 (.d x1) (.d x2) (.d x3) e1 e2 e3)
      (fun y r => y = .tup [] ∧ r = (1000001, seqB 3 1 iF 0 (isort cmp l)) :: cap3 (.d x1) (.d x2) (.d x3) e1 e2 e3) := by
  refine spec_of hT (C := []) Tryd.func207 rfl Tryd.call207 rfl rfl rfl ?_
  conv => whnf
  refine LoopX.unroll hT (C := []) (fun _ _ h => h) (fun _ h => h) ?_
  conv => whnf
  refine br_intro (fun h => ?_) (fun h => ?_)
  · simp at h; omega
  conv => whnf
  refine CallX.of (s228 g x1 x2 x3 e1 e2 e3 cmp l (by omega) hcmp) [(1000001, 1000001), (1000002, 1000002), (1000003, 1000003), (1000004, 1000004)] rfl ⟨SV.le_refl _, SV.le_refl _, SV.le_refl _, SV.le_refl _, trivial⟩ ⟨Res.le_refl _, Res.le_refl _, Res.le_refl _, Res.le_refl _, trivial⟩ rfl rfl ?_
  rintro x rout ⟨rfl, rfl⟩
  refine ⟨rfl, ?_⟩
  conv => whnf
  refine LoopX.unroll hT (C := []) (fun _ _ h => h) (fun _ h => h) ?_
  conv => whnf
  refine br_intro (fun h => ?_) (fun h => ?_)
  · simp at h; omega
  conv => whnf
  refine .ret _ ?_
  conv => whnf
  exact ⟨_, ⟨rfl, rfl⟩, Res.le_refl _, Res.le_refl _, Res.le_refl _, Res.le_refl _, trivial⟩
-- SortStableFunc[[]int,int]
theorem s173 (g : FuncId) (x1 x2 x3 : DV) (e1 e2 e3 : TypeId) (cmp : Int → Int → Int) (l : List Int) (hl : l.length < 20)
    (hcmp : ∀ p q, p ∈ l → q ∈ l → FSpec Tryd.prog g [.d (.int .i64 p), .d (.int .i64 q), .ptr 1000002 0, .ptr 1000003 0, .ptr 1000004 0] (cap3 (.d x1) (.d x2) (.d x3) e1 e2 e3)
      (fun y r => y = .d (.int .i64 (cmp p q)) ∧ r = cap3 (.d x1) (.d x2) (.d x3) e1 e2 e3)) :
    FSpec Tryd.prog 173 [.buf 1000001, .fn g [.ptr 1000002 0, .ptr 1000003 0, .ptr 1000004 0]] ((1000001, seqB 3 1 iF 0 l) :: cap3 (.d x1) (.d x2) (.d x3) e1 e2 e3)
      (fun y r => y = .tup [] ∧ r = (1000001, seqB 3 1 iF 0 (isort cmp l)) :: cap3 (.d x1) (.d x2) (.d x3) e1 e2 e3) := by
  refine spec_of hT (C := []) Tryd.func173 rfl Tryd.call173 rfl rfl rfl ?_
  conv => whnf
  refine CallX.of (s207 g x1 x2 x3 e1 e2 e3 cmp l (by omega) hcmp) [(1000001, 1000001), (1000002, 1000002), (1000003, 1000003), (1000004, 1000004)] rfl ⟨SV.le_refl _, SV.le_refl _, SV.le_refl _, trivial⟩ ⟨Res.le_refl _, Res.le_refl _, Res.le_refl _, Res.le_refl _, trivial⟩ rfl rfl ?_
  rintro x rout ⟨rfl, rfl⟩
  refine ⟨rfl, ?_⟩
  conv => whnf
  refine .ret _ ?_
  conv => whnf
  exact ⟨_, ⟨rfl, rfl⟩, Res.le_refl _, Res.le_refl _, Res.le_refl _, Res.le_refl _, trivial⟩
-- the order of split
theorem s174 (c s : Int) (w : List Int) (hc : 0 ≤ c ∧ c ≤ 1000000000) (hw : ∀ x ∈ w, 0 ≤ x ∧ x ≤ 5761440) (hs : 0 < s) (hs2 : s ≤ 2^40) (p q : Nat) (hp : p < w.length) (hq : q < w.length) :
    FSpec Tryd.prog 174 [.d (.int .i64 p), .d (.int .i64 q), .ptr 1000002 0, .ptr 1000003 0, .ptr 1000004 0] (cap3 (.d (.int .i64 c)) (.d (ints w)) (.d (.int .i64 s)) 3 22 3)
      (fun y r => y = .d (.int .i64 ((c * w.getD q 0).tmod s - (c * w.getD p 0).tmod s)) ∧ r = cap3 (.d (.int .i64 c)) (.d (ints w)) (.d (.int .i64 s)) 3 22 3) := by
  refine spec_of hT (C := []) Tryd.func174 rfl Tryd.call174 rfl rfl rfl ?_
  conv => whnf
  have bd : ∀ i : Nat, i < w.length → 0 ≤ c * w.getD (i : Int).toNat 0 ∧ c * w.getD (i : Int).toNat 0 ≤ 1000000000 * 5761440 := fun i hi => by
    rw [getD_toNat hi]
    have := hw _ (List.getElem_mem hi)
    exact ⟨Int.mul_nonneg hc.1 this.1, Int.mul_le_mul hc.2 this.2 this.1 (by omega)⟩
  have bp := bd p hp
  have bq := bd q hq
  have tp := Int.tmod_nonneg s bp.1
  have tq := Int.tmod_nonneg s bq.1
  have tp2 := Int.tmod_lt_of_pos (c * w.getD (p : Int).toNat 0) hs
  have tq2 := Int.tmod_lt_of_pos (c * w.getD (q : Int).toNat 0) hs
  refine RegX.rule hT rfl [] [(0, []), (1, [0]), (2, [0, 1]), (3, [0]), (4, [0]), (5, []), (6, [0, 1, 2, 3, 4, 5]), (7, []), (8, [0, 1, 2, 3, 4, 5, 6, 7]), (9, [0, 1, 2, 3, 4, 5, 6, 7, 8]), (10, [0, 1, 2, 3, 4, 5, 6, 7, 8, 9]), (11, [0, 1, 2, 3, 4, 5, 6, 7, 8]), (12, [0, 1, 2, 3, 4, 5, 6, 7, 8]), (13, [0, 1, 2, 3, 4, 5, 6, 7]), (14, [0, 1, 2, 3, 4, 5, 6, 7, 8, 9, 10, 11, 12, 13]), (15, [0, 1, 2, 3, 4, 5, 6, 7]), (16, []), (17, [])] (by decide +kernel) ?_
  conv => whnf
  repeat (refine And.intro (by (try unfold inI64); (try dsimp only); (try simp only [List.length_cons, List.length_append, List.length_singleton, List.length_nil]); omega) ?_; conv => whnf)
  refine .ret _ ?_
  conv => whnf
  exact ⟨_, ⟨rfl, rfl⟩, Res.le_refl _, Res.le_refl _, Res.le_refl _, trivial⟩
end Go.Proofs.YtellmmmohdjpeaaDoor
set_option maxRecDepth 20000
namespace Go.Proofs.YtellmmmohdjpeaaDoor
open Go Go.Eng
/-- A row of which the first places are filled. -/
def fillL (g : Nat → Int) (n i : Nat) : List Int := (List.range n).map fun j => if j < i then g j else 0
theorem fillL_length (g : Nat → Int) (n i : Nat) : (fillL g n i).length = n := by simp [fillL]
theorem fillL_get {g : Nat → Int} {n i j : Nat} (h : j < n) : (fillL g n i)[j]'(by rw [fillL_length]; exact h) = if j < i then g j else 0 := by simp [fillL]
theorem fillL_zero {e : Nat} {g : Nat → Int} {n m : Nat} {get : Nat → List DV} (hm : m = n) (hg : ∀ i, get i = iF 0) : Res.le (.buf e 1 m get) (seqB e 1 iF 0 (fillL g n 0)) :=
  Res.le_buf (by rw [fillL_length, hm]) (fun i hi => by rw [rowF_lt (by rw [fillL_length]; omega), hg i, fillL_get (by omega)]; simp)
theorem fillL_set (g : Nat → Int) (n i : Nat) : (fillL g n i).set i (g i) = fillL g n (i + 1) := by
  apply List.ext_getElem
  · simp [fillL]
  · intro j h1 h2
    simp only [fillL, List.getElem_set, List.getElem_map, List.getElem_range]
    by_cases e : i = j
    · subst e; simp
    · by_cases q : j < i
      · have : j < i + 1 := by omega
        simp [e, q, this]
      · have : ¬ j < i + 1 := by omega
        simp [e, q, this]
def leftL (c : Int) (g : Nat → Int) (i : Nat) : Int := c - ((List.range i).map g).sum
theorem leftL_succ (c : Int) (g : Nat → Int) (i : Nat) : leftL c g (i + 1) = leftL c g i - g i := by
  simp [leftL, List.range_succ, List.sum_append]; omega
def partG (c : Int) (w : List Int) (j : Nat) : Int := (c * w.getD j 0).tdiv w.sum
def cmpG (c : Int) (w : List Int) (p q : Int) : Int := (c * w.getD q.toNat 0).tmod w.sum - (c * w.getD p.toNat 0).tmod w.sum
def orderG (c : Int) (w : List Int) : List Int := isort (cmpG c w) (fillL (fun j => (j : Int)) w.length w.length)
def incL (P : List Int) (js : List Int) : List Int := js.foldl (fun P j => P.set j.toNat (P.getD j.toNat 0 + 1)) P
def splitG (c : Int) (w : List Int) : List Int := incL (fillL (partG c w) w.length w.length) ((orderG c w).take (leftL c (partG c w) w.length).toNat)
theorem incL_snoc (P : List Int) (js : List Int) (j : Int) : incL P (js ++ [j]) = (incL P js).set j.toNat ((incL P js).getD j.toNat 0 + 1) := by simp [incL]
theorem sum_nonneg {l : List Int} (h : ∀ x ∈ l, 0 ≤ x) : 0 ≤ l.sum := by
  induction l with
  | nil => simp
  | cons x l ih => rw [List.sum_cons]; have := h x (by simp); have := ih (fun y hy => h y (by simp [hy])); omega
theorem sum_le {l : List Int} {b : Int} (h : ∀ x ∈ l, x ≤ b) : l.sum ≤ b * l.length := by
  induction l with
  | nil => simp
  | cons x l ih => rw [List.sum_cons]; have := h x (by simp); have := ih (fun y hy => h y (by simp [hy])); simp only [List.length_cons]; rw [show b * ((l.length + 1 : Nat) : Int) = b * l.length + b by push_cast; rw [Int.mul_add, Int.mul_one]]; omega
-- split
theorem s120 (c : Int) (w : List Int) (hc : 0 ≤ c ∧ c ≤ 1000000000) (hw : ∀ x ∈ w, 0 ≤ x ∧ x ≤ 5761440) (hn : w.length < 20) (hs : w.sum ≠ 0) (hleft : 0 ≤ leftL c (partG c w) w.length ∧ leftL c (partG c w) w.length ≤ w.length) :
    FSpec Tryd.prog 120 [.d (.int .i64 c), .d (ints w)] [] (fun y r => y = .d (ints (splitG c w)) ∧ r = []) := by
  have hs0 : 0 ≤ w.sum := sum_nonneg fun x hx => (hw x hx).1
  have hs1 : w.sum ≤ 5761440 * w.length := sum_le fun x hx => (hw x hx).2
  refine spec_of hT (C := []) Tryd.func120 rfl Tryd.call120 rfl rfl rfl ?_
  conv => whnf
  refine LoopX.rule hT (C := []) (ι := Nat) (fun i => i ≤ w.length) (fun i => mkSt [(2, .ptr 2 0), (3, .ptr 3 0), (5, .ptr 5 0), (15, .d (ints w)), (16, .d (.int .i64 w.length)), (17, .d (.int .i64 i))]
    [(2, .cells 3 [.d (.int .i64 c)]), (3, .cells 22 [.d (ints w)]), (5, .cells 3 [.d (.int .i64 (w.take i).sum)])]) (fun i => w.length - i) 0 (by omega) ?_ ?_
  · exact Entails.mk' [(2, 2), (3, 3), (5, 5)] rfl rfl ⟨SV.le_refl _, SV.le_refl _, SV.le_refl _, SV.le_refl _, SV.le_refl _, SV.le_refl _, trivial⟩ ⟨Res.le_refl _, Res.le_refl _, Res.le_refl _, trivial⟩
  intro i p1
  conv => whnf
  refine br_intro (fun h => ?_) (fun h => ?_)
  · simp only [decide_eq_true_eq] at h
    have hi : i < w.length := by omega
    have b1 := hw _ (List.getElem_mem hi)
    have b2 : 0 ≤ (w.take i).sum := sum_nonneg fun x hx => (hw x (List.mem_of_mem_take hx)).1
    have b3 : (w.take i).sum ≤ 5761440 * (w.take i).length := sum_le fun x hx => (hw x (List.mem_of_mem_take hx)).2
    have b4 : (w.take i).length = i := by simp; omega
    have b5 : w.getD (i : Int).toNat 0 = w[i] := getD_toNat hi
    conv => whnf
    repeat (refine And.intro (by (try unfold inI64); (try dsimp only); (try simp only [List.length_cons, List.length_append, List.length_singleton, List.length_nil]); omega) ?_; conv => whnf)
    refine ⟨i + 1, hi, by omega, ?_⟩
    refine Entails.mk' [(2, 2), (3, 3), (5, 5)] rfl rfl ⟨SV.le_refl _, SV.le_refl _, SV.le_refl _, SV.le_refl _, SV.le_refl _, SV.le_refl _, trivial⟩ ⟨Res.le_refl _, Res.le_refl _, ?_, trivial⟩
    show Res.le (.cells 3 [.d (.int .i64 ((w.take i).sum + w.getD (i : Int).toNat 0))]) (.cells 3 [.d (.int .i64 (w.take (i + 1)).sum)])
    rw [b5, sum_take hi]; exact Res.le_refl _
  simp only [decide_eq_false_iff_not] at h
  have e1 : i = w.length := by omega
  subst e1
  rw [List.take_length]
  conv => whnf
  refine RegX.rule hT rfl [] [(0, []), (1, []), (2, []), (3, [0, 1, 2]), (4, [0, 1, 2]), (5, [0, 1, 2]), (6, [3, 4, 5]), (7, [])] (by decide +kernel) ?_
  conv => whnf
  refine And.intro ⟨by omega, by omega, by show (8:Int) * w.length ≤ _; omega, by omega⟩ ?_
  conv => whnf
  refine And.intro ⟨by omega, by omega, by show (8:Int) * w.length ≤ _; omega, by omega⟩ ?_
  conv => whnf
  have hg0 : ∀ j, j < w.length → 0 ≤ c * w.getD j 0 ∧ c * w.getD j 0 ≤ 1000000000 * 5761440 := fun j hj => by
    have := hw _ (getD_mem (x := (0 : Int)) hj)
    exact ⟨Int.mul_nonneg hc.1 this.1, Int.mul_le_mul hc.2 this.2 this.1 (by omega)⟩
  have hg1 : ∀ j, j < w.length → 0 ≤ partG c w j ∧ partG c w j ≤ 1000000000 * 5761440 := fun j hj => by
    have := hg0 j hj
    exact ⟨Int.tdiv_nonneg this.1 hs0, Int.le_trans (Int.tdiv_le_self _ this.1) this.2⟩
  have hl1 : ∀ i, i ≤ w.length → c - 1000000000 * 5761440 * i ≤ leftL c (partG c w) i ∧ leftL c (partG c w) i ≤ c := fun i => by
    induction i with
    | zero => intro _; simp [leftL]
    | succ i ih => intro hi; have := ih (by omega); have := hg1 i (by omega); rw [leftL_succ]; omega
  refine LoopX.rule hT (C := []) (ι := Nat) (fun i => i ≤ w.length) (fun i => mkSt [(2, .ptr 2 0), (3, .ptr 3 0), (5, .ptr 5 0), (8, .buf 27), (9, .buf 30), (10, .d (.int .i64 (leftL c (partG c w) i))), (32, .d (ints w)), (33, .d (.int .i64 w.length)), (34, .d (.int .i64 i))]
    [(2, .cells 3 [.d (.int .i64 c)]), (3, .cells 22 [.d (ints w)]), (5, .cells 3 [.d (.int .i64 w.sum)]), (27, seqB 3 1 iF 0 (fillL (partG c w) w.length i)), (30, seqB 3 1 iF 0 (fillL (fun j => (j : Int)) w.length i))]) (fun i => w.length - i) 0 (by omega) ?_ ?_
  · exact Entails.mk' [(2, 2), (3, 3), (5, 5), (27, 27), (30, 30)] rfl rfl ⟨SV.le_refl _, SV.le_refl _, SV.le_refl _, SV.le_refl _, SV.le_refl _, SV.le_int (by simp [leftL]), SV.le_refl _, SV.le_refl _, SV.le_refl _, trivial⟩
      ⟨Res.le_refl _, Res.le_refl _, Res.le_refl _, fillL_zero (by rfl) (fun _ => rfl), fillL_zero (by rfl) (fun _ => rfl), trivial⟩
  clear p1 h
  intro i p1
  conv => whnf
  refine br_intro (fun h => ?_) (fun h => ?_)
  · simp only [decide_eq_true_eq] at h
    have hi : i < w.length := by omega
    have b0 := hg0 i hi
    have b1 := hg1 i hi
    have b2 := hl1 i p1
    have e1 : (i : Int).toNat = i := Int.toNat_natCast i
    have l1 := fillL_length (partG c w) w.length i
    have l2 := fillL_length (fun j => (j : Int)) w.length i
    conv => whnf
    repeat (refine And.intro (by (try unfold inI64); (try dsimp only); (try simp only [e1, l1, l2, List.length_cons, List.length_append, List.length_singleton, List.length_nil]); omega) ?_; conv => whnf)
    refine And.intro (by show inI64 (partG c w i); unfold inI64; omega) ?_
    conv => whnf
    repeat (refine And.intro (by (try unfold inI64); (try dsimp only); (try simp only [e1, l1, l2, List.length_cons, List.length_append, List.length_singleton, List.length_nil]); omega) ?_; conv => whnf)
    simp only [e1, Nat.beq_refl, cond_true]
    conv => whnf
    refine And.intro (by show inI64 (leftL c (partG c w) i - partG c w i); unfold inI64; omega) ?_
    conv => whnf
    refine And.intro (by unfold inI64; omega) ?_
    conv => whnf
    refine ⟨i + 1, hi, by omega, ?_⟩
    have r1 : Res.le (.buf 3 1 (fillL (partG c w) w.length i).length fun j => bif Nat.beq j i then setAtD (rowF iF 0 (fillL (partG c w) w.length i) j) 0 [.int .i64 (partG c w i)] else rowF iF 0 (fillL (partG c w) w.length i) j) (seqB 3 1 iF 0 (fillL (partG c w) w.length (i + 1))) := by
      rw [← fillL_set]; exact Res.le_putF (fun _ _ => rfl)
    have r2 : Res.le (.buf 3 1 (fillL (fun j => (j : Int)) w.length i).length fun j => bif Nat.beq j i then setAtD (rowF iF 0 (fillL (fun j => (j : Int)) w.length i) j) 0 [.int .i64 (i : Int)] else rowF iF 0 (fillL (fun j => (j : Int)) w.length i) j) (seqB 3 1 iF 0 (fillL (fun j => (j : Int)) w.length (i + 1))) := by
      rw [← fillL_set]; exact Res.le_putF (fun _ _ => rfl)
    exact Entails.mk' [(2, 2), (3, 3), (5, 5), (27, 27), (30, 30)] rfl rfl ⟨SV.le_refl _, SV.le_refl _, SV.le_refl _, SV.le_refl _, SV.le_refl _, SV.le_int (leftL_succ c (partG c w) i).symm, SV.le_refl _, SV.le_refl _, SV.le_refl _, trivial⟩
      ⟨Res.le_refl _, Res.le_refl _, Res.le_refl _, r1, r2, trivial⟩
  simp only [decide_eq_false_iff_not] at h
  have e1 : i = w.length := by omega
  subst e1
  conv => whnf
  have hlen : (fillL (fun j => (j : Int)) w.length w.length).length = w.length := fillL_length _ _ _
  have hmemo : ∀ p, p ∈ fillL (fun j => (j : Int)) w.length w.length → ∃ j : Nat, p = j ∧ j < w.length := fun p hp => by
    simp only [fillL, List.mem_map, List.mem_range] at hp
    obtain ⟨j, hj, rfl⟩ := hp
    exact ⟨j, by simp [hj], hj⟩
  refine CallX.of (s173 174 (.int .i64 c) (ints w) (.int .i64 w.sum) 3 22 3 (cmpG c w) (fillL (fun j => (j : Int)) w.length w.length) (by omega) (fun p q hp hq => by
    obtain ⟨j, rfl, hj⟩ := hmemo p hp
    obtain ⟨k, rfl, hk⟩ := hmemo q hq
    exact s174 c w.sum w hc hw (by omega) (by omega) j k hj hk)) [(1000001, 30), (1000002, 2), (1000003, 3), (1000004, 5)] rfl ⟨SV.le_refl _, SV.le_refl _, trivial⟩ ⟨Res.le_refl _, Res.le_refl _, Res.le_refl _, Res.le_refl _, trivial⟩ rfl rfl ?_
  rintro x rout ⟨rfl, rfl⟩
  refine ⟨rfl, ?_⟩
  conv => whnf
  have hol : (orderG c w).length = w.length := by unfold orderG isort; rw [List.length_reverse, isortR_length, fillL_length]
  refine SliceX.freeze _ _ _ _ rfl ?_
  conv => whnf
  refine And.intro ⟨by omega, hleft.1, by show _ ≤ ((orderG c w).length : Int); rw [hol]; exact hleft.2⟩ ?_
  conv => whnf
  obtain ⟨idx, hidx⟩ : ∃ idx, idx = (orderG c w).take (leftL c (partG c w) w.length).toNat := ⟨_, rfl⟩
  have hil : idx.length = (leftL c (partG c w) w.length).toNat := by rw [hidx, List.length_take, hol]; omega
  have him : ∀ p ∈ idx, ∃ j : Nat, p = j ∧ j < w.length := fun p hp => by
    rw [hidx] at hp
    have := List.mem_of_mem_take hp
    unfold orderG isort at this
    rw [List.mem_reverse, isortR_mem] at this
    exact hmemo p this
  refine LoopX.rule hT (C := []) (ι := Nat × List Int) (fun p => p.1 ≤ idx.length ∧ p.2 = incL (fillL (partG c w) w.length w.length) (idx.take p.1) ∧ p.2.length = w.length ∧ (∀ x ∈ p.2, 0 ≤ x ∧ x ≤ 1000000000 * 5761440 + p.1))
    (fun p => mkSt [(8, .buf 27), (63, .d (ints idx)), (64, .d (.int .i64 idx.length)), (65, .d (.int .i64 p.1))] [(27, seqB 3 1 iF 0 p.2)]) (fun p => idx.length - p.1) (0, fillL (partG c w) w.length w.length) ⟨by simp, by simp [incL], fillL_length _ _ _, ?_⟩ ?_ ?_
  · intro x hx
    simp only [fillL, List.mem_map, List.mem_range] at hx
    obtain ⟨j, hj, rfl⟩ := hx
    have := hg1 j hj
    simp [hj]; omega
  · refine Entails.mk' [(27, 27)] rfl rfl ⟨SV.le_refl _, SV.le_ro ?_ (fun i hi => ?_), SV.le_int ?_, SV.le_refl _, trivial⟩ ⟨Res.le_refl _, trivial⟩
    · rw [hil]; omega
    · change rowF iF 0 (orderG c w) (Int.toNat 0 + i) = _
      rw [rowF_lt (show Int.toNat 0 + i < (orderG c w).length by simp only [Int.toNat_zero]; omega), rowF_lt (show i < idx.length by omega)]
      subst hidx
      simp [orderG]
    · rw [hil]; omega
  rintro ⟨i, P⟩ ⟨p1, p2, p3, p4⟩
  simp only at p1 p2 p3 p4
  conv => whnf
  refine br_intro (fun h => ?_) (fun h => ?_)
  · simp only [decide_eq_true_eq] at h
    have hi : i < idx.length := by omega
    obtain ⟨j, hj, hjw⟩ := him _ (List.getElem_mem hi)
    have e0 : (i : Int).toNat = i := Int.toNat_natCast i
    have e1 : idx.getD (i : Int).toNat 0 = j := by rw [getD_toNat hi, hj]
    have e2 : (j : Int).toNat = j := Int.toNat_natCast j
    conv => whnf
    repeat (refine And.intro (by (try unfold inI64); (try dsimp only); (try simp only [e1, e2, List.length_cons, List.length_append, List.length_singleton, List.length_nil]); omega) ?_; conv => whnf)
    have hjP : j < P.length := by omega
    have bP := p4 _ (getD_mem (x := (0 : Int)) hjP)
    refine And.intro (by simp only [e1, e2]; unfold inI64; omega) ?_
    conv => whnf
    repeat (refine And.intro (by (try unfold inI64); (try dsimp only); (try simp only [e1, e2, List.length_cons, List.length_append, List.length_singleton, List.length_nil]); omega) ?_; conv => whnf)
    refine ⟨(i + 1, P.set j (P.getD j 0 + 1)), ⟨hi, ?_, by simp only [List.length_set]; exact p3, ?_⟩, by simp only; omega, ?_⟩
    · simp only
      rw [take_snoc hi, incL_snoc, ← p2, hj, e2]
    · simp only
      intro x hx
      rcases List.mem_or_eq_of_mem_set hx with q | q
      · have := p4 x q; omega
      · subst q; omega
    · have r1 : Res.le (.buf 3 1 P.length fun k => bif Nat.beq k (idx.getD (i : Int).toNat 0).toNat then setAtD (rowF iF 0 P k) 0 [.int .i64 (P.getD (idx.getD (i : Int).toNat 0).toNat 0 + 1)] else rowF iF 0 P k) (seqB 3 1 iF 0 (P.set j (P.getD j 0 + 1))) := by
        rw [e1, e2]; exact Res.le_putF (fun _ _ => rfl)
      exact Entails.mk' [(27, 27)] rfl rfl ⟨SV.le_refl _, SV.le_refl _, SV.le_refl _, SV.le_refl _, trivial⟩ ⟨r1, trivial⟩
  simp only [decide_eq_false_iff_not] at h
  have e1 : i = idx.length := by omega
  subst e1
  conv => whnf
  rw [List.take_length, hidx] at p2
  refine .freeze _ 27 3 1 _ _ rfl ?_
  refine .ret _ ?_
  conv => whnf
  refine ⟨[], ⟨?_, rfl⟩, trivial⟩
  conv => lhs; whnf
  show SV.d (ints P) = SV.d (ints (splitG c w))
  rw [p2]; rfl
end Go.Proofs.YtellmmmohdjpeaaDoor
set_option maxRecDepth 20000
namespace Go.Proofs.YtellmmmohdjpeaaDoor
open Go Go.Eng
theorem left_sum (c : Int) (w : List Int) (hc : 0 ≤ c) (hw : ∀ x ∈ w, 0 ≤ x) (hs : 0 < w.sum) : ∀ i, i ≤ w.length → ∃ R, 0 ≤ R ∧ R ≤ w.sum * i ∧ w.sum * ((List.range i).map (partG c w)).sum + R = c * (w.take i).sum := by
  intro i
  induction i with
  | zero => intro _; exact ⟨0, by omega, by simp, by simp⟩
  | succ i ih =>
    intro hi
    obtain ⟨R, h1, h2, h3⟩ := ih (by omega)
    have hx : w.getD i 0 = w[i] := by rw [List.getD_eq_getElem?_getD]; simp [show i < w.length by omega]
    have h4 := Int.tmod_add_mul_tdiv (c * w[i]) w.sum
    have h5 : 0 ≤ c * w[i] := Int.mul_nonneg hc (hw _ (List.getElem_mem _))
    have h6 := Int.tmod_nonneg w.sum h5
    have h7 := Int.tmod_lt_of_pos (c * w[i]) hs
    refine ⟨R + (c * w[i]).tmod w.sum, by omega, ?_, ?_⟩
    · rw [show ((i + 1 : Nat) : Int) = (i : Int) + 1 by push_cast; rfl, Int.mul_add, Int.mul_one]; omega
    · rw [sum_take (show i < w.length by omega), Int.mul_add, ← h3, List.range_succ, List.map_append, List.sum_append, List.map_singleton, List.sum_singleton, Int.mul_add]
      have : partG c w i = (c * w[i]).tdiv w.sum := by unfold partG; rw [hx]
      rw [this]; omega
theorem left_bound (c : Int) (w : List Int) (hc : 0 ≤ c) (hw : ∀ x ∈ w, 0 ≤ x) (hs : 0 < w.sum) : 0 ≤ leftL c (partG c w) w.length ∧ leftL c (partG c w) w.length ≤ w.length := by
  obtain ⟨R, h1, h2, h3⟩ := left_sum c w hc hw hs w.length (Nat.le_refl _)
  rw [List.take_length] at h3
  have e : w.sum * leftL c (partG c w) w.length = R := by
    unfold leftL
    rw [Int.mul_sub, Int.mul_comm w.sum c]; omega
  constructor
  · refine Int.not_lt.1 fun h => ?_
    have := Int.mul_neg_of_pos_of_neg hs h
    omega
  · exact Int.le_of_mul_le_mul_left (by rw [e]; exact h2) hs
-- mark.Split
theorem s35 (c : Int) (w : List Int) (hn : w.length < 20) : FSpec Tryd.prog 35 [.d (.int .i64 c), .d (ints w)] []
    (fun y r => y = .tup [.d (if splitF c w = 0 then ints (splitG c w) else .nilsl), .d (.int .i64 (splitF c w))] ∧ r = []) := by
  refine spec_of hT (C := []) Tryd.func35 rfl Tryd.call35 rfl rfl rfl ?_
  conv => whnf
  refine CallX.pure (s119 _ _ _) ⟨SV.le_refl _, SV.le_refl _, SV.le_refl _, trivial⟩ rfl ?_
  conv => whnf
  refine CallX.pure (s107 _ _) ⟨SV.le_refl _, SV.le_refl _, trivial⟩ rfl ?_
  conv => whnf
  refine CallX.pure (s107 _ _) ⟨SV.le_refl _, SV.le_refl _, trivial⟩ rfl ?_
  conv => whnf
  refine CallX.pure (s105 [_, _] (by simp)) ⟨SV.le_lit (by rfl) (by rfl), trivial⟩ rfl ?_
  have hnl : ¬ (50 < w.length) := by omega
  generalize he : firstE _ = e
  have he2 : e = if 0 ≤ c ∧ c ≤ 1000000000 then 0 else 1 := by
    rw [← he]
    simp only [firstE]
    by_cases h : 0 ≤ c ∧ c ≤ 1000000000 <;> simp [h] <;> omega
  conv => whnf
  refine br_intro (fun h => ?_) (fun h => ?_)
  · simp at h
    conv => whnf
    refine .ret _ ?_
    conv => whnf
    refine ⟨[], ⟨?_, rfl⟩, trivial⟩
    show SV.tup [.d .nilsl, .d (.int .i64 e)] = _
    have hc : ¬ (0 ≤ c ∧ c ≤ 1000000000) := fun q => h (by rw [he2, if_pos q])
    rw [if_neg hc] at he2
    have : splitF c w = 1 := by simp only [splitF]; rw [if_pos hc]
    rw [this, he2]; rfl
  simp at h
  have hc : 0 ≤ c ∧ c ≤ 1000000000 := Classical.byContradiction fun q => by rw [if_neg q] at he2; omega
  conv => whnf
  refine LoopX.rule hT (C := []) (ι := Nat) (fun i => i ≤ w.length ∧ (∀ x ∈ w.take i, 0 ≤ x ∧ x ≤ 5761440)) (fun i => mkSt [(0, .d (.int .i64 c)), (1, .d (ints w)), (7, .d (.int .i64 (w.take i).sum)), (23, .d (ints w)), (24, .d (.int .i64 w.length)), (25, .d (.int .i64 i))] []) (fun i => w.length - i) 0 ⟨by omega, by simp⟩ ?_ ?_
  · refine Entails.mk' [] rfl rfl ⟨SV.le_refl _, SV.le_refl _, SV.le_refl _, SV.le_refl _, SV.le_refl _, SV.le_refl _, trivial⟩ trivial
  rintro i ⟨p1, p2⟩
  conv => whnf
  refine br_intro (fun h => ?_) (fun h => ?_)
  · simp only [decide_eq_true_eq] at h
    have hi : i < w.length := by omega
    have b2 : 0 ≤ (w.take i).sum := sum_nonneg fun x hx => (p2 x hx).1
    have b3 : (w.take i).sum ≤ 5761440 * (w.take i).length := sum_le fun x hx => (p2 x hx).2
    have b4 : (w.take i).length = i := by simp; omega
    conv => whnf
    repeat (refine And.intro (by (try unfold inI64); (try dsimp only); (try simp only [List.length_cons, List.length_append, List.length_singleton, List.length_nil]); omega) ?_; conv => whnf)
    refine CallX.pure (s119 _ _ _) ⟨SV.le_refl _, SV.le_refl _, SV.le_refl _, trivial⟩ rfl ?_
    rw [getD_toNat hi]
    conv => whnf
    refine br_intro (fun h2 => ?_) (fun h2 => ?_)
    · conv => whnf
      refine .ret _ ?_
      conv => whnf
      refine ⟨[], ⟨?_, rfl⟩, trivial⟩
      show SV.tup [.d .nilsl, .d (.int .i64 1)] = _
      have : splitF c w = 1 := by
        simp only [splitF]
        rw [if_neg (by omega), if_neg hnl, if_pos]
        rw [List.any_eq_true]
        exact ⟨w[i], List.getElem_mem hi, h2⟩
      rw [this]; rfl
    · simp at h2
      conv => whnf
      repeat (refine And.intro (by (try unfold inI64); (try dsimp only); (try simp only [List.length_cons, List.length_append, List.length_singleton, List.length_nil]); omega) ?_; conv => whnf)
      refine ⟨i + 1, ⟨hi, fun x hx => ?_⟩, by omega, ?_⟩
      · rw [← List.take_append_getElem hi] at hx
        rcases List.mem_append.1 hx with q | q
        · exact p2 x q
        · simp at q; subst q; omega
      · exact Entails.mk' [] rfl rfl ⟨SV.le_refl _, SV.le_refl _, SV.le_int (sum_take hi).symm, SV.le_refl _, SV.le_refl _, SV.le_refl _, trivial⟩ trivial
  simp only [decide_eq_false_iff_not] at h
  have e1 : i = w.length := by omega
  subst e1
  rw [List.take_length] at p2 ⊢
  have hany : w.any (fun x => !decide (0 ≤ x ∧ x ≤ 5761440)) = false := by
    rw [List.any_eq_false]; intro x hx; have := p2 x hx; simp; omega
  conv => whnf
  refine br_intro (fun h2 => ?_) (fun h2 => ?_)
  · conv => whnf
    refine .ret _ ?_
    conv => whnf
    refine ⟨[], ⟨?_, rfl⟩, trivial⟩
    show SV.tup [.d .nilsl, .d (.int .i64 8)] = _
    simp at h2
    have : splitF c w = 8 := by
      simp only [splitF]
      rw [if_neg (by omega), if_neg hnl, hany, if_neg (by simp), if_pos h2]
    rw [this]; rfl
  · simp at h2
    have hs0 : 0 ≤ w.sum := sum_nonneg fun x hx => (p2 x hx).1
    conv => whnf
    refine CallX.pure (s120 c w hc p2 hn h2 (left_bound c w hc.1 (fun x hx => (p2 x hx).1) (by omega))) ⟨SV.le_refl _, SV.le_refl _, trivial⟩ rfl ?_
    conv => whnf
    refine .ret _ ?_
    conv => whnf
    refine ⟨[], ⟨?_, rfl⟩, trivial⟩
    show SV.tup [.d (ints (splitG c w)), .d (.int .i64 0)] = _
    have : splitF c w = 0 := by
      simp only [splitF]
      rw [if_neg (by omega), if_neg hnl, hany, if_neg (by simp), if_neg h2]
    rw [this]; rfl
end Go.Proofs.YtellmmmohdjpeaaDoor
set_option maxRecDepth 20000
namespace Go.Proofs.YtellmmmohdjpeaaDoor
open Go Go.Eng
-- flag
theorem s112 (b : Bool) : FSpec Tryd.prog 112 [.d (.bool b)] [] (fun x r => x = .d (.int .i64 (if b then 1 else 0)) ∧ r = []) := by
  refine spec_of hT (C := []) Tryd.func112 rfl Tryd.call112 rfl rfl rfl ?_
  conv => whnf
  refine br_intro (fun h => ?_) (fun h => ?_)
  · conv => whnf
    refine .ret _ ?_
    conv => whnf
    refine ⟨[], ⟨?_, rfl⟩, trivial⟩
    conv => lhs; whnf
    simp [h]
  · conv => whnf
    refine .ret _ ?_
    conv => whnf
    refine ⟨[], ⟨?_, rfl⟩, trivial⟩
    conv => lhs; whnf
    simp [h]
def remG (c : Int) (w : List Int) (j : Nat) : Int := (c * w.getD j 0).tmod w.sum
def aheadB (c : Int) (w : List Int) (i k : Nat) : Bool := decide (remG c w i < remG c w k) || (decide (remG c w k = remG c w i) && decide (k < i))
def aheadG (c : Int) (w : List Int) (i m : Nat) : Int := ((List.range m).map fun k => if aheadB c w i k then (1 : Int) else 0).sum
theorem aheadG_succ (c : Int) (w : List Int) (i m : Nat) : aheadG c w i (m + 1) = aheadG c w i m + if aheadB c w i m then 1 else 0 := by
  simp [aheadG, List.range_succ, List.sum_append]
theorem aheadG_bd (c : Int) (w : List Int) (i m : Nat) : 0 ≤ aheadG c w i m ∧ aheadG c w i m ≤ m := by
  induction m with
  | zero => simp [aheadG]
  | succ m ih => rw [aheadG_succ]; split <;> (push_cast; omega)
def splitE (c : Int) (w : List Int) (j : Nat) : Int := partG c w j + if aheadG c w j w.length < leftL c (partG c w) w.length then 1 else 0
def rngL (g : Nat → Int) (n : Nat) : List Int := (List.range n).map g
theorem rngL_length (g : Nat → Int) (n : Nat) : (rngL g n).length = n := by simp [rngL]
theorem rngL_succ (g : Nat → Int) (n : Nat) : rngL g (n + 1) = rngL g n ++ [g n] := by simp [rngL, List.range_succ]
def mixL (g h : Nat → Int) (n i : Nat) : List Int := (List.range n).map fun j => if j < i then g j else h j
theorem mixL_length (g h : Nat → Int) (n i : Nat) : (mixL g h n i).length = n := by simp [mixL]
theorem mixL_get {g h : Nat → Int} {n i j : Nat} (q : j < n) : (mixL g h n i).getD j 0 = if j < i then g j else h j := by
  rw [List.getD_eq_getElem?_getD]; simp [mixL, q]
theorem mixL_set (g h : Nat → Int) (n i : Nat) : (mixL g h n i).set i (g i) = mixL g h n (i + 1) := by
  apply List.ext_getElem
  · simp [mixL]
  · intro j h1 h2
    simp only [mixL, List.getElem_set, List.getElem_map, List.getElem_range]
    by_cases e : i = j
    · subst e; simp
    · by_cases q : j < i
      · have : j < i + 1 := by omega
        simp [e, q, this]
      · have : ¬ j < i + 1 := by omega
        simp [e, q, this]
-- rentref2.SplitOf
theorem s38 (c : Int) (w : List Int) (hc : 0 ≤ c ∧ c ≤ 1000000000) (hw : ∀ x ∈ w, 0 ≤ x ∧ x ≤ 5761440) (hn : w.length < 20) (hs : w.sum ≠ 0) :
    FSpec Tryd.prog 38 [.d (.int .i64 c), .d (ints w)] [] (fun y r => y = .d (ints (rngL (splitE c w) w.length)) ∧ r = []) := by
  have hs0 : 0 ≤ w.sum := sum_nonneg fun x hx => (hw x hx).1
  have hs1 : w.sum ≤ 5761440 * w.length := sum_le fun x hx => (hw x hx).2
  have hg0 : ∀ j, j < w.length → 0 ≤ c * w.getD j 0 ∧ c * w.getD j 0 ≤ 1000000000 * 5761440 := fun j hj => by
    have := hw _ (getD_mem (x := (0 : Int)) hj)
    exact ⟨Int.mul_nonneg hc.1 this.1, Int.mul_le_mul hc.2 this.2 this.1 (by omega)⟩
  have hg1 : ∀ j, j < w.length → 0 ≤ partG c w j ∧ partG c w j ≤ 1000000000 * 5761440 := fun j hj => by
    have := hg0 j hj
    exact ⟨Int.tdiv_nonneg this.1 hs0, Int.le_trans (Int.tdiv_le_self _ this.1) this.2⟩
  have hl1 : ∀ i, i ≤ w.length → c - 1000000000 * 5761440 * i ≤ leftL c (partG c w) i ∧ leftL c (partG c w) i ≤ c := fun i => by
    induction i with
    | zero => intro _; simp [leftL]
    | succ i ih => intro hi; have := ih (by omega); have := hg1 i (by omega); rw [leftL_succ]; omega
  refine spec_of hT (C := []) Tryd.func38 rfl Tryd.call38 rfl rfl rfl ?_
  conv => whnf
  refine LoopX.rule hT (C := []) (ι := Nat) (fun i => i ≤ w.length) (fun i => mkSt [(0, .d (.int .i64 c)), (1, .d (ints w)), (5, .d (.int .i64 (w.take i).sum)), (19, .d (ints w)), (20, .d (.int .i64 w.length)), (21, .d (.int .i64 i))] []) (fun i => w.length - i) 0 (by omega) ?_ ?_
  · exact Entails.mk' [] rfl rfl ⟨SV.le_refl _, SV.le_refl _, SV.le_refl _, SV.le_refl _, SV.le_refl _, SV.le_refl _, trivial⟩ trivial
  intro i p1
  conv => whnf
  refine br_intro (fun h => ?_) (fun h => ?_)
  · simp only [decide_eq_true_eq] at h
    have hi : i < w.length := by omega
    have b1 := hw _ (List.getElem_mem hi)
    have b2 : 0 ≤ (w.take i).sum := sum_nonneg fun x hx => (hw x (List.mem_of_mem_take hx)).1
    have b3 : (w.take i).sum ≤ 5761440 * (w.take i).length := sum_le fun x hx => (hw x (List.mem_of_mem_take hx)).2
    have b4 : (w.take i).length = i := by simp; omega
    have b5 : w.getD (i : Int).toNat 0 = w[i] := getD_toNat hi
    conv => whnf
    repeat (refine And.intro (by (try unfold inI64); (try dsimp only); (try simp only [b5, List.length_cons, List.length_append, List.length_singleton, List.length_nil]); omega) ?_; conv => whnf)
    refine ⟨i + 1, hi, by omega, ?_⟩
    exact Entails.mk' [] rfl rfl ⟨SV.le_refl _, SV.le_refl _, SV.le_int (by rw [b5, sum_take hi]), SV.le_refl _, SV.le_refl _, SV.le_refl _, trivial⟩ trivial
  simp only [decide_eq_false_iff_not] at h
  have e1 : i = w.length := by omega
  subst e1
  rw [List.take_length]
  clear p1 h
  conv => whnf
  refine LoopX.rule hT (C := []) (ι := Nat) (fun i => i ≤ w.length) (fun i => mkSt [(0, .d (.int .i64 c)), (1, .d (ints w)), (5, .d (.int .i64 w.sum)), (8, .buf 8), (9, .d (.int .i64 (leftL c (partG c w) i))), (30, .d (ints w)), (31, .d (.int .i64 w.length)), (32, .d (.int .i64 i))]
    [(8, seqB 3 1 iF 0 (rngL (partG c w) i))]) (fun i => w.length - i) 0 (by omega) ?_ ?_
  · refine (Entails.nil 8 8 3 1 (rowF iF 0 []) rfl rfl (by decide)).trans (Entails.mk' [(8, 8)] rfl rfl ?_ ?_)
    · exact ⟨SV.le_refl _, SV.le_refl _, SV.le_refl _, SV.le_refl _, SV.le_int (by simp [leftL]), SV.le_refl _, SV.le_refl _, SV.le_refl _, trivial⟩
    · exact ⟨Res.le_refl _, trivial⟩
  intro i p1
  conv => whnf
  refine br_intro (fun h => ?_) (fun h => ?_)
  · simp only [decide_eq_true_eq] at h
    have hi : i < w.length := by omega
    have b0 := hg0 i hi
    have b1 := hg1 i hi
    have b2 := hl1 i p1
    have e1 : (i : Int).toNat = i := Int.toNat_natCast i
    have l1 := rngL_length (partG c w) i
    conv => whnf
    repeat (refine And.intro (by (try unfold inI64); (try dsimp only); (try simp only [e1, l1, List.length_cons, List.length_append, List.length_singleton, List.length_nil]); omega) ?_; conv => whnf)
    refine And.intro (by show inI64 (partG c w i); unfold inI64; omega) ?_
    conv => whnf
    refine And.intro (by rw [l1]; show (i + 1) * 8 ≤ 140737488355328; omega) ?_
    conv => whnf
    repeat (refine And.intro (by (try unfold inI64); (try dsimp only); (try simp only [e1, l1, List.length_cons, List.length_append, List.length_singleton, List.length_nil]); omega) ?_; conv => whnf)
    refine And.intro (by show inI64 (partG c w i); unfold inI64; omega) ?_
    conv => whnf
    refine And.intro (by show inI64 (leftL c (partG c w) i - partG c w i); unfold inI64; omega) ?_
    conv => whnf
    refine And.intro (by unfold inI64; omega) ?_
    conv => whnf
    refine ⟨i + 1, hi, by omega, ?_⟩
    refine Entails.mk' [(8, 43)] rfl rfl ⟨SV.le_refl _, SV.le_refl _, SV.le_refl _, SV.le_refl _, SV.le_int (leftL_succ c (partG c w) i).symm, SV.le_refl _, SV.le_refl _, SV.le_refl _, trivial⟩ ⟨?_, trivial⟩
    rw [rngL_succ]
    exact Res.le_snocF (by rfl)
  simp only [decide_eq_false_iff_not] at h
  have e1 : i = w.length := by omega
  subst e1
  clear p1 h
  conv => whnf
  have hmix0 : ∀ g h : Nat → Int, mixL g h w.length 0 = rngL h w.length := fun g h => by simp [mixL, rngL]
  have hmixn : ∀ g h : Nat → Int, mixL g h w.length w.length = rngL g w.length := fun g h => by
    unfold mixL rngL
    exact List.map_congr_left fun j hj => by rw [if_pos (List.mem_range.1 hj)]
  refine LoopX.rule hT (C := []) (ι := Nat) (fun i => i ≤ w.length) (fun i => mkSt [(0, .d (.int .i64 c)), (1, .d (ints w)), (5, .d (.int .i64 w.sum)), (8, .buf 8), (9, .d (.int .i64 (leftL c (partG c w) w.length))), (52, .d (ints w)), (53, .d (.int .i64 w.length)), (54, .d (.int .i64 i))]
    [(8, seqB 3 1 iF 0 (mixL (splitE c w) (partG c w) w.length i))]) (fun i => w.length - i) 0 (by omega) ?_ ?_
  · rw [hmix0]
    exact Entails.mk' [(8, 8)] rfl rfl ⟨SV.le_refl _, SV.le_refl _, SV.le_refl _, SV.le_refl _, SV.le_refl _, SV.le_refl _, SV.le_refl _, SV.le_refl _, trivial⟩ ⟨Res.le_refl _, trivial⟩
  intro i p1
  conv => whnf
  refine br_intro (fun h => ?_) (fun h => ?_)
  · simp only [decide_eq_true_eq] at h
    have hi : i < w.length := by omega
    have e1 : (i : Int).toNat = i := Int.toNat_natCast i
    conv => whnf
    repeat (refine And.intro (by (try unfold inI64); (try dsimp only); (try simp only [List.length_cons, List.length_append, List.length_singleton, List.length_nil]); omega) ?_; conv => whnf)
    refine LoopX.rule hT (C := []) (ι := Nat) (fun k => k ≤ w.length) (fun k => mkSt [(0, .d (.int .i64 c)), (1, .d (ints w)), (5, .d (.int .i64 w.sum)), (8, .buf 8), (9, .d (.int .i64 (leftL c (partG c w) w.length))), (52, .d (ints w)), (53, .d (.int .i64 w.length)), (54, .d (.int .i64 i)),
        (12, .d (.int .i64 i)), (13, .d (.int .i64 (w.getD i 0))), (14, .d (.int .i64 (aheadG c w i k))), (59, .d (ints w)), (60, .d (.int .i64 w.length)), (61, .d (.int .i64 k))]
      [(8, seqB 3 1 iF 0 (mixL (splitE c w) (partG c w) w.length i))]) (fun k => w.length - k) 0 (by omega) ?_ ?_
    · exact Entails.mk' [(8, 8)] rfl rfl ⟨SV.le_refl _, SV.le_refl _, SV.le_refl _, SV.le_refl _, SV.le_refl _, SV.le_refl _, SV.le_refl _, SV.le_refl _, SV.le_refl _, SV.le_refl _, SV.le_refl _, SV.le_refl _, SV.le_refl _, SV.le_refl _, trivial⟩ ⟨Res.le_refl _, trivial⟩
    intro k pk
    conv => whnf
    refine br_intro (fun hk => ?_) (fun hk => ?_)
    · simp only [decide_eq_true_eq] at hk
      have hkl : k < w.length := by omega
      have e2 : (k : Int).toNat = k := Int.toNat_natCast k
      have b0 := hg0 k hkl
      have b1 := hg0 i hi
      have ba := aheadG_bd c w i k
      conv => whnf
      repeat (refine And.intro (by (try unfold inI64); (try dsimp only); (try simp only [e2, List.length_cons, List.length_append, List.length_singleton, List.length_nil]); omega) ?_; conv => whnf)
      refine RegX.rule hT rfl [] [(0, []), (1, [0]), (2, []), (3, [0, 1, 2]), (4, []), (5, [0, 1, 2, 3, 4]), (6, [0, 1, 2, 3, 4, 5]), (7, [0, 1, 2, 3, 4]), (8, [0, 1, 2, 3, 4, 5, 6, 7]), (9, [0, 1, 2, 3, 4]), (10, [5, 6, 7, 8, 9]), (11, [])] (by decide +kernel) ?_
      conv => whnf
      repeat (refine And.intro (by (try unfold inI64); (try dsimp only); (try simp only [e2, List.length_cons, List.length_append, List.length_singleton, List.length_nil]); omega) ?_; conv => whnf)
      refine br_intro (fun g1 => ?_) (fun g1 => ?_)
      · simp only [decide_eq_true_eq] at g1
        have hab : aheadB c w i k = true := by unfold aheadB remG; simp only [Bool.or_eq_true, decide_eq_true_eq]; exact .inl g1
        conv => whnf
        refine CallX.pure (s112 _) ⟨SV.le_refl _, trivial⟩ rfl ?_
        conv => whnf
        have hfl : (if true = true then (1 : Int) else 0) = 1 := by simp
        refine And.intro (by unfold inI64; rw [hfl]; omega) ?_
        conv => whnf
        refine And.intro (by unfold inI64; omega) ?_
        conv => whnf
        refine ⟨k + 1, hkl, by omega, ?_⟩
        exact Entails.mk' [(8, 8)] rfl rfl ⟨SV.le_refl _, SV.le_refl _, SV.le_refl _, SV.le_refl _, SV.le_refl _, SV.le_refl _, SV.le_refl _, SV.le_refl _, SV.le_refl _, SV.le_refl _, SV.le_int (by rw [aheadG_succ, hab]), SV.le_refl _, SV.le_refl _, SV.le_refl _, trivial⟩ ⟨Res.le_refl _, trivial⟩
      simp only [decide_eq_false_iff_not] at g1
      conv => whnf
      refine br_intro (fun g2 => ?_) (fun g2 => ?_)
      · simp only [decide_eq_true_eq] at g2
        conv => whnf
        have hab : aheadB c w i k = decide ((k : Int) < i) := by
          unfold aheadB remG
          have n1 : ¬ ((c * w.getD i 0).tmod w.sum < (c * w.getD k 0).tmod w.sum) := g1
          have n2 : (c * w.getD k 0).tmod w.sum = (c * w.getD i 0).tmod w.sum := g2
          rw [decide_eq_false n1, decide_eq_true n2]
          simp
        refine CallX.pure (s112 _) ⟨SV.le_refl _, trivial⟩ rfl ?_
        conv => whnf
        refine And.intro (by unfold inI64; split <;> omega) ?_
        conv => whnf
        refine And.intro (by unfold inI64; omega) ?_
        conv => whnf
        refine ⟨k + 1, hkl, by omega, ?_⟩
        exact Entails.mk' [(8, 8)] rfl rfl ⟨SV.le_refl _, SV.le_refl _, SV.le_refl _, SV.le_refl _, SV.le_refl _, SV.le_refl _, SV.le_refl _, SV.le_refl _, SV.le_refl _, SV.le_refl _, SV.le_int (by rw [aheadG_succ, hab]), SV.le_refl _, SV.le_refl _, SV.le_refl _, trivial⟩ ⟨Res.le_refl _, trivial⟩
      · simp only [decide_eq_false_iff_not] at g2
        have hab : aheadB c w i k = false := by
          cases hq : aheadB c w i k with
          | false => rfl
          | true =>
            unfold aheadB remG at hq; simp only [Bool.or_eq_true, Bool.and_eq_true, decide_eq_true_eq] at hq
            rcases hq with hq | ⟨hq, _⟩
            · exact absurd hq g1
            · exact absurd hq g2
        conv => whnf
        refine CallX.pure (s112 _) ⟨SV.le_refl _, trivial⟩ rfl ?_
        conv => whnf
        have hfl : (if false = true then (1 : Int) else 0) = 0 := by simp
        refine And.intro (by unfold inI64; rw [hfl]; omega) ?_
        conv => whnf
        refine And.intro (by unfold inI64; omega) ?_
        conv => whnf
        refine ⟨k + 1, hkl, by omega, ?_⟩
        exact Entails.mk' [(8, 8)] rfl rfl ⟨SV.le_refl _, SV.le_refl _, SV.le_refl _, SV.le_refl _, SV.le_refl _, SV.le_refl _, SV.le_refl _, SV.le_refl _, SV.le_refl _, SV.le_refl _, SV.le_int (by rw [aheadG_succ, hab]), SV.le_refl _, SV.le_refl _, SV.le_refl _, trivial⟩ ⟨Res.le_refl _, trivial⟩
    simp only [decide_eq_false_iff_not] at hk
    have ek : k = w.length := by omega
    subst ek
    conv => whnf
    have lm := mixL_length (splitE c w) (partG c w) w.length i
    have ba := aheadG_bd c w i w.length
    refine RegX.rule hT rfl [] [(0, []), (1, [0]), (2, []), (3, []), (4, [0, 1, 2, 3]), (5, [0, 1, 2, 3, 4]), (6, [0, 1, 2, 3]), (7, [0, 1, 2, 3]), (8, []), (9, []), (10, [])] (by decide +kernel) ?_
    conv => whnf
    repeat (refine And.intro (by (try unfold inI64); (try dsimp only); (try simp only [e1, lm, List.length_cons, List.length_append, List.length_singleton, List.length_nil]); omega) ?_; conv => whnf)
    refine CallX.pure (s112 _) ⟨SV.le_refl _, trivial⟩ rfl ?_
    conv => whnf
    have hm : (mixL (splitE c w) (partG c w) w.length i).getD i 0 = partG c w i := by rw [mixL_get hi, if_neg (by omega)]
    have b1 := hg1 i hi
    refine And.intro (by simp only [e1, hm]; unfold inI64; split <;> omega) ?_
    conv => whnf
    repeat (refine And.intro (by (try unfold inI64); (try dsimp only); (try simp only [e1, lm, List.length_cons, List.length_append, List.length_singleton, List.length_nil]); omega) ?_; conv => whnf)
    refine ⟨i + 1, hi, by omega, ?_⟩
    have r1 : Res.le (.buf 3 1 (mixL (splitE c w) (partG c w) w.length i).length fun k => bif Nat.beq k (i : Int).toNat then setAtD (rowF iF 0 (mixL (splitE c w) (partG c w) w.length i) k) 0 [.int .i64 ((mixL (splitE c w) (partG c w) w.length i).getD (i : Int).toNat 0 + if decide (aheadG c w i w.length < leftL c (partG c w) w.length) = true then 1 else 0)] else rowF iF 0 (mixL (splitE c w) (partG c w) w.length i) k)
        (seqB 3 1 iF 0 (mixL (splitE c w) (partG c w) w.length (i + 1))) := by
      rw [← mixL_set, e1, hm]
      refine Res.le_putF (fun y _ => ?_)
      show [DV.int .i64 _] = [DV.int .i64 (splitE c w i)]
      simp [splitE]
    exact Entails.mk' [(8, 8)] rfl rfl ⟨SV.le_refl _, SV.le_refl _, SV.le_refl _, SV.le_refl _, SV.le_refl _, SV.le_refl _, SV.le_refl _, SV.le_refl _, trivial⟩ ⟨r1, trivial⟩
  simp only [decide_eq_false_iff_not] at h
  have e1 : i = w.length := by omega
  subst e1
  rw [hmixn]
  conv => whnf
  refine .freeze _ 8 3 1 _ _ rfl ?_
  refine .weak _ ?_
  conv => whnf
  exact ⟨_, [], SV.le_refl _, ⟨rfl, rfl⟩, trivial⟩
end Go.Proofs.YtellmmmohdjpeaaDoor
