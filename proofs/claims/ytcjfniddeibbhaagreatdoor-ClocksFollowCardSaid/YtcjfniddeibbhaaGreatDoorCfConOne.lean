/- ClocksFollow is proved: for every input the law returns true, and its argument reads afterwards as it read before. Conditions: those of the given row alone. -/
import Derived.Test.YtcjfniddeibbhaaGreatDoorCfEngTwo
import Derived.Test.YtcjfniddeibbhaaGreatDoorProg
import Derived.Shelf.Strings.SlTrimAscii
set_option linter.unusedVariables false
set_option linter.unusedSimpArgs false
set_option maxRecDepth 20000
namespace Go.Proofs.YtcjfniddeibbhaaGreatDoor
open Go Go.Eng
def oTCoA65_4 : List (Nat × List Nat) := [(0, []), (1, []), (2, []), (3, []), (4, []), (5, [0, 1, 2, 3, 4]), (6, [0, 1, 2, 3, 4]), (7, [0, 1, 2, 3, 4]), (8, [0, 1, 2, 3, 4]), (9, [0, 1, 2, 3, 4]), (10, []), (11, [])]
def oTCoA65_5 : List (Nat × List Nat) := [(0, []), (1, []), (2, []), (3, []), (4, []), (5, [0, 1, 2, 3, 4]), (6, [0, 1, 2, 3, 4]), (7, [0, 1, 2, 3, 4]), (8, [0, 1, 2, 3, 4]), (9, [0, 1, 2, 3, 4]), (10, []), (11, [])]
def eqTab : List Nat := [65, 74, 270, 331, 217, 160, 162, 278, 52, 103, 106, 113, 116, 195, 253, 257]
theorem eqTab_ok : eqTab.all (eqFits Tryz.prog) = true := by decide +kernel
noncomputable def T : Tab := tiOf Tryz.prog (mem eqTab)
theorem hT : TabOk Tryz.prog T := ⟨mem eqTab, fun _ _ h => h, fun t ht => List.all_eq_true.1 eqTab_ok t ((mem_iff _ _).1 ht)⟩
abbrev i64 (n : Int) : DV := .int .i64 n
def strm (n : Nat) (L : Nat → Int) (at' : Int) : Res := .cells 25 [.d (.ro 1 n fun i => [.int .i64 (L i)]), .d (.int .i64 at')]
def Rok (n : Nat) (L : Nat → Int) : Prop := n ≤ maxLen ∧ ∀ i, -2^63 ≤ L i ∧ L i < 2^63
theorem s148 (x n : Int) (hn : n ≤ 2^40) : FSpec Tryz.prog 143 [.d (.int .i64 x), .d (.int .i64 n)] [] (fun y r => (∃ m : Int, 0 ≤ m ∧ (1 ≤ n → m < n) ∧ (n < 1 → m = 0) ∧ y = .d (.int .i64 m)) ∧ r = []) := by
 refine spec_of hT (C := []) Tryz.func143 rfl Tryz.call143 rfl rfl rfl ?_
 conv => whnf
 refine br_intro (fun h => ?_) (fun h => ?_)
 · conv => whnf
   refine .ret _ ?_
   conv => whnf
   refine ⟨[], ⟨⟨_, ?_, ?_, ?_, rfl⟩, rfl⟩, trivial⟩
   all_goals (simp at h; omega)
 · conv => whnf
   refine ⟨?_, ?_⟩
   · simp at h; omega
   conv => whnf
   simp at h
   have h1 := Int.tmod_lt_of_pos x (b := n) (by omega)
   have h2 := Int.lt_tmod_of_pos x (b := n) (by omega)
   refine br_intro (fun h2 => ?_) (fun h2 => ?_)
   · conv => whnf
     simp at h2
     refine ⟨?_, ?_⟩
     · unfold inI64; omega
     · conv => whnf
       refine .ret _ ?_
       conv => whnf
       refine ⟨[], ⟨⟨_, ?_, ?_, ?_, rfl⟩, rfl⟩, trivial⟩
       all_goals omega
   · conv => whnf
     simp at h2
     refine .ret _ ?_
     conv => whnf
     refine ⟨[], ⟨⟨_, ?_, ?_, ?_, rfl⟩, rfl⟩, trivial⟩
     all_goals omega
theorem nextB {a n : Int} (h0 : 0 ≤ a) (hn : 1 ≤ n) : 0 ≤ a.tdiv n ∧ a.tdiv n ≤ a ∧ 0 ≤ a.tmod n ∧ a.tmod n < n ∧ 0 ≤ a.tdiv n * a.tmod n ∧ a.tdiv n * a.tmod n ≤ a ∧ a.tmod n ≤ a := by
 have h1 : 0 ≤ a.tdiv n := Int.tdiv_nonneg h0 (by omega)
 have h2 : 0 ≤ a.tmod n := Int.tmod_nonneg _ h0
 have h3 : a.tmod n < n := Int.tmod_lt_of_pos _ (by omega)
 have h4 := Int.tmod_add_mul_tdiv a n
 have h5 : a.tdiv n * 1 ≤ a.tdiv n * n := Int.mul_le_mul_of_nonneg_left hn h1
 have h6 : a.tdiv n * a.tmod n ≤ a.tdiv n * n := Int.mul_le_mul_of_nonneg_left (by omega) h1
 have h7 : 0 ≤ a.tdiv n * a.tmod n := Int.mul_nonneg h1 h2
 rw [Int.mul_comm] at h4
 have h8 : 0 ≤ a.tdiv n * n := Int.mul_nonneg h1 (by omega)
 refine ⟨h1, ?_, h2, h3, h7, ?_, ?_⟩ <;> omega
theorem s86 (n : Nat) (L : Nat → Int) (hL : Rok n L) (a : Int) (h0 : 0 ≤ a) (ha : a ≤ 2^40) (m : Int) (hm : m ≤ 2^40) :
 FSpec Tryz.prog 65 [.ptr 1000000 0, .d (.int .i64 m)] [(1000000, strm n L a)] (fun y r => (∃ j : Int, 0 ≤ j ∧ (1 ≤ m → j < m) ∧ (m < 1 → j = 0) ∧ y = .d (.int .i64 j)) ∧ r = [(1000000, strm n L (a + 1))]) := by
 refine spec_of hT (C := []) Tryz.func65 rfl Tryz.call65 rfl rfl rfl ?_
 conv => whnf
 refine ⟨by unfold inI64; omega, ?_⟩
 conv => whnf
 refine br_intro (fun h => ?_) (fun h => ?_)
 · conv => whnf
   refine ⟨by unfold inI64; omega, ?_⟩
   conv => whnf
   refine CallX.of (s148 _ _ hm) [] rfl ⟨lr, lr, trivial⟩ trivial rfl rfl ?_
   rintro x rout ⟨⟨j, j1, j2, j3, rfl⟩, rfl⟩
   refine ⟨rfl, ?_⟩
   conv => whnf
   refine .ret _ ?_
   conv => whnf
   exact ⟨[(1000000, strm n L (a + 1))], ⟨⟨_, j1, j2, j3, rfl⟩, rfl⟩, rr, trivial⟩
 · conv => whnf
   simp at h
   have hnp : (1:Int) ≤ n := by omega
   refine RegX.rule hT rfl [] oTCoA65_4 (by decide +kernel) ?_
   conv => whnf
   refine ⟨by unfold inI64; omega, ?_⟩
   conv => whnf
   refine ⟨by omega, ?_⟩
   conv => whnf
   have ea : a + 1 - 1 = a := by omega
   obtain ⟨b1, b2, b3, b4, b5, b6, b7⟩ := nextB h0 hnp
   refine RegX.rule hT rfl [] oTCoA65_5 (by decide +kernel) ?_
   conv => whnf
   refine ⟨by unfold inI64; omega, ?_⟩
   conv => whnf
   refine ⟨by omega, ?_⟩
   conv => whnf
   refine ⟨by unfold inI64; rw [ea]; omega, ?_⟩
   conv => whnf
   rw [ea]
   refine ⟨⟨b3, b4⟩, ?_⟩
   conv => whnf
   refine CallX.of (s148 _ _ (by omega)) [] rfl ⟨lr, lr, trivial⟩ trivial rfl rfl ?_
   rintro x rout ⟨⟨j, j1, j2, j3, rfl⟩, rfl⟩
   refine ⟨rfl, ?_⟩
   conv => whnf
   refine ⟨by unfold inI64; omega, ?_⟩
   conv => whnf
   have e2 : a.tdiv n * (7919 + a.tmod n) = 7919 * a.tdiv n + a.tdiv n * a.tmod n := by rw [Int.mul_add, Int.mul_comm _ 7919]
   rw [e2]
   refine ⟨by unfold inI64; omega, ?_⟩
   conv => whnf
   refine ⟨by unfold inI64; omega, ?_⟩
   conv => whnf
   refine CallX.of (s148 _ _ hm) [] rfl ⟨lr, lr, trivial⟩ trivial rfl rfl ?_
   rintro x rout ⟨⟨j, k1, k2, k3, rfl⟩, rfl⟩
   refine ⟨rfl, ?_⟩
   conv => whnf
   refine .ret _ ?_
   conv => whnf
   exact ⟨[(1000000, strm n L (a + 1))], ⟨⟨_, k1, k2, k3, rfl⟩, rfl⟩, rr, trivial⟩
def Moved (n : Nat) (L : Nat → Int) (a : Int) (c : Int) (r : List (Nat × Res)) : Prop := ∃ b, a ≤ b ∧ b ≤ a + c ∧ r = [(1000000, strm n L b)]
theorem s64 (n : Nat) (L : Nat → Int) (hL : Rok n L) (a : Int) (h0 : 0 ≤ a) (ha : a ≤ 2^40) (lo hi : Int) (h1 : -2^41 ≤ lo) (h2 : hi ≤ lo + 2^40 - 1) (h3 : lo ≤ 2^41) (h4 : lo ≤ hi) :
 FSpec Tryz.prog 12 [.ptr 1000000 0, .d (.int .i64 lo), .d (.int .i64 hi)] [(1000000, strm n L a)] (fun y r => (∃ j : Int, lo ≤ j ∧ j ≤ hi ∧ y = .d (.int .i64 j)) ∧ Moved n L a 1 r) := by
 refine spec_of hT (C := []) Tryz.func12 rfl Tryz.call12 rfl rfl rfl ?_
 conv => whnf
 refine br_intro (fun h => ?_) (fun h => ?_)
 · simp at h; omega
 conv => whnf
 refine ⟨by unfold inI64; omega, ?_⟩
 conv => whnf
 refine ⟨by unfold inI64; omega, ?_⟩
 conv => whnf
 refine CallX.of (s86 n L hL a h0 ha _ (by omega)) [(1000000, 1000000)] rfl ⟨lr, lr, trivial⟩ ⟨rr, trivial⟩ rfl rfl ?_
 rintro x rout ⟨⟨j, k1, k2, k3, rfl⟩, rfl⟩
 refine ⟨rfl, ?_⟩
 conv => whnf
 refine ⟨by unfold inI64; omega, ?_⟩
 conv => whnf
 refine .ret _ ?_
 conv => whnf
 exact ⟨[(1000000, strm n L (a + 1))], ⟨⟨_, by omega, by omega, rfl⟩, a + 1, by omega, by omega, rfl⟩, rr, trivial⟩
theorem s84 (n : Nat) (L : Nat → Int) (hL : Rok n L) (a : Int) (h0 : 0 ≤ a) (ha : a ≤ 2^40) (m : Int) (hm : m ≤ 2^40) :
 FSpec Tryz.prog 64 [.ptr 1000000 0, .d (.int .i64 m)] [(1000000, strm n L a)] (fun y r => (∃ b : Bool, y = .d (.bool b)) ∧ Moved n L a 1 r) := by
 refine spec_of hT (C := []) Tryz.func64 rfl Tryz.call64 rfl rfl rfl ?_
 conv => whnf
 refine CallX.of (s86 n L hL a h0 ha _ (by omega)) [(1000000, 1000000)] rfl ⟨lr, lr, trivial⟩ ⟨rr, trivial⟩ rfl rfl ?_
 rintro x rout ⟨⟨j, k1, k2, k3, rfl⟩, rfl⟩
 refine ⟨rfl, ?_⟩
 conv => whnf
 refine .ret _ ?_
 conv => whnf
 exact ⟨[(1000000, strm n L (a + 1))], ⟨⟨_, rfl⟩, a + 1, by omega, by omega, rfl⟩, rr, trivial⟩
theorem s33 (n : Nat) (L : Nat → Int) (hL : Rok n L) (a : Int) (h0 : 0 ≤ a) (ha : a ≤ 2^40) (l : List Int) (hl : 1 ≤ l.length) (hl2 : l.length ≤ 2^40) :
 FSpec Tryz.prog 25 [.ptr 1000000 0, .d (ints l)] [(1000000, strm n L a)] (fun y r => (∃ x ∈ l, y = .d (.int .i64 x)) ∧ Moved n L a 1 r) := by
 refine spec_of hT (C := []) Tryz.func25 rfl Tryz.call25 rfl rfl rfl ?_
 conv => whnf
 refine CallX.of (s86 n L hL a h0 ha l.length (by omega)) [(1000000, 1000000)] rfl ⟨lr, lr, trivial⟩ ⟨rr, trivial⟩ rfl rfl ?_
 rintro x rout ⟨⟨j, k1, k2, k3, rfl⟩, rfl⟩
 refine ⟨rfl, ?_⟩
 conv => whnf
 refine ⟨⟨k1, by omega⟩, ?_⟩
 conv => whnf
 refine .ret _ ?_
 conv => whnf
 exact ⟨[(1000000, strm n L (a + 1))], ⟨⟨_, getD_mem (by omega), rfl⟩, a + 1, by omega, by omega, rfl⟩, rr, trivial⟩
theorem s15 (n : Nat) (L : Nat → Int) (hL : Rok n L) (a : Int) (h0 : 0 ≤ a) (ha : a ≤ 2^40) (l : List (List UInt8)) (hl : 1 ≤ l.length) (hl2 : l.length ≤ 2^40) :
 FSpec Tryz.prog 31 [.ptr 1000000 0, .d (strs l)] [(1000000, strm n L a)] (fun y r => (∃ x ∈ l, y = .d (.str x)) ∧ Moved n L a 1 r) := by
 refine spec_of hT (C := []) Tryz.func31 rfl Tryz.call31 rfl rfl rfl ?_
 conv => whnf
 refine CallX.of (s86 n L hL a h0 ha l.length (by omega)) [(1000000, 1000000)] rfl ⟨lr, lr, trivial⟩ ⟨rr, trivial⟩ rfl rfl ?_
 rintro x rout ⟨⟨j, k1, k2, k3, rfl⟩, rfl⟩
 refine ⟨rfl, ?_⟩
 conv => whnf
 refine ⟨⟨k1, by omega⟩, ?_⟩
 conv => whnf
 refine .ret _ ?_
 conv => whnf
 exact ⟨[(1000000, strm n L (a + 1))], ⟨⟨_, getD_mem (by omega), rfl⟩, a + 1, by omega, by omega, rfl⟩, rr, trivial⟩
theorem Moved.trans {n : Nat} {L : Nat → Int} {a c : Int} {r : List (Nat × Res)} {b d : Int} (h1 : a ≤ b) (h2 : b + d ≤ a + c) (h : Moved n L b d r) : Moved n L a c r := by
 obtain ⟨e, q1, q2, rfl⟩ := h
 exact ⟨e, by omega, by omega, rfl⟩
theorem s104 (n : Nat) (L : Nat → Int) (hL : Rok n L) (a : Int) (h0 : 0 ≤ a) (ha : a ≤ 2^39) (lo hi : Int) (h1 : -2^38 ≤ lo) (h2 : lo ≤ hi) (h3 : hi ≤ 2^39) :
 FSpec Tryz.prog 68 [.ptr 1000000 0, .d (.int .i64 lo), .d (.int .i64 hi)] [(1000000, strm n L a)] (fun y r => (∃ j : Int, -2^40 ≤ j ∧ j ≤ 2^40 ∧ y = .d (.int .i64 j)) ∧ Moved n L a 2 r) := by
 refine spec_of hT (C := []) Tryz.func68 rfl Tryz.call68 rfl rfl rfl ?_
 conv => whnf
 refine CallX.of (s84 n L hL a h0 (by omega) 12 (by omega)) [(1000000, 1000000)] rfl ⟨lr, lr, trivial⟩ ⟨rr, trivial⟩ rfl rfl ?_
 rintro x rout ⟨⟨f, rfl⟩, ⟨b, b1, b2, rfl⟩⟩
 refine ⟨rfl, ?_⟩
 conv => whnf
 refine br_intro (fun hf => ?_) (fun hf => ?_)
 · conv => whnf
   refine ⟨by unfold inI64; omega, ?_⟩
   conv => whnf
   refine ⟨by unfold inI64; omega, ?_⟩
   conv => whnf
   refine CallX.of (s33 n L hL b (by omega) (by omega) [lo - 1, hi + 1, lo, hi, -1099511627776, 1099511627776] (by simp) (by simp)) [(1000000, 1000000)] rfl ⟨lr, SV.le_lit (by rfl) (by rfl), trivial⟩ ⟨rr, trivial⟩ rfl rfl ?_
   rintro x rout ⟨⟨j, hj, rfl⟩, ⟨c, c1, c2, rfl⟩⟩
   refine ⟨rfl, ?_⟩
   conv => whnf
   refine .ret _ ?_
   conv => whnf
   exact ⟨[(1000000, strm n L c)], ⟨⟨j, by simp at hj; omega, by simp at hj; omega, rfl⟩, c, by omega, by omega, rfl⟩, rr, trivial⟩
 · conv => whnf
   refine CallX.of (s64 n L hL b (by omega) (by omega) lo hi (by omega) (by omega) (by omega) h2) [(1000000, 1000000)] rfl ⟨lr, lr, lr, trivial⟩ ⟨rr, trivial⟩ rfl rfl ?_
   rintro x rout ⟨⟨j, j1, j2, rfl⟩, ⟨c, c1, c2, rfl⟩⟩
   refine ⟨rfl, ?_⟩
   conv => whnf
   refine .ret _ ?_
   conv => whnf
   exact ⟨[(1000000, strm n L c)], ⟨⟨j, by omega, by omega, rfl⟩, c, by omega, by omega, rfl⟩, rr, trivial⟩
theorem s119 (n lo hi : Int) : FSpec Tryz.prog 79 [.d (.int .i64 n), .d (.int .i64 lo), .d (.int .i64 hi)] [] (fun x r => x = .d (.bool (decide (lo ≤ n ∧ n ≤ hi))) ∧ r = []) := by
 refine spec_of hT (C := []) Tryz.func79 rfl Tryz.call79 rfl rfl rfl ?_
 conv => whnf
 refine br_intro (fun h => ?_) (fun h => ?_)
 · conv => whnf
   refine .ret _ ?_
   conv => whnf
   refine ⟨[], ⟨?_, rfl⟩, trivial⟩
   conv => lhs; whnf
   simp at h ⊢; simp [h]
 · conv => whnf
   refine .ret _ ?_
   conv => whnf
   refine ⟨[], ⟨?_, rfl⟩, trivial⟩
   conv => lhs; whnf
   simp at h ⊢; omega
theorem s107 (b : Bool) (e : Int) : FSpec Tryz.prog 81 [.d (.bool b), .d (.int .i64 e)] [] (fun x r => x = .d (.int .i64 (if b then e else 0)) ∧ r = []) := by
 refine spec_of hT (C := []) Tryz.func81 rfl Tryz.call81 rfl rfl rfl ?_
 conv => whnf
 refine br_intro (fun h => ?_) (fun h => ?_)
 · conv => whnf
   refine .ret _ ?_
   conv => whnf
   refine ⟨[], ⟨?_, rfl⟩, trivial⟩
   conv => lhs; whnf
   simp [h]
 · conv => whnf
   refine .ret _ ?_
   conv => whnf
   refine ⟨[], ⟨?_, rfl⟩, trivial⟩
   conv => lhs; whnf
   simp [h]
theorem getD_toNat {α : Type} {l : List α} {i : Nat} {d : α} (h : i < l.length) : l.getD (i : Int).toNat d = l[i] := by
 rw [Int.toNat_natCast, List.getD_eq_getElem?_getD]; simp [h]
theorem sum_take {l : List Int} {i : Nat} (hi : i < l.length) : (l.take (i + 1)).sum = (l.take i).sum + l[i] := by
 rw [← List.take_append_getElem hi, List.sum_append]; simp
def firstE : List Int → Int
 | [] => 0
 | x :: l => if x = 0 then firstE l else x
theorem s161 (l : List Int) (hl : l.length ≤ 2^40) : FSpec Tryz.prog 150 [.d (ints l)] [] (fun x r => x = .d (.int .i64 (firstE l)) ∧ r = []) := by
 refine spec_of hT (C := []) Tryz.func150 rfl Tryz.call150 rfl rfl rfl ?_
 conv => whnf
 refine LoopX.rule hT (C := []) (ι := Nat) (fun i => i ≤ l.length ∧ firstE l = firstE (l.drop i)) (fun i => mkSt [(3, .d (.int .i64 0)), (6, .d (ints l)), (7, .d (.int .i64 l.length)), (8, .d (.int .i64 i))] []) (fun i => l.length - i) 0 ⟨by omega, by simp⟩ ?_ ?_
 · refine Entails.mk' [] rfl rfl ⟨lr, lr, lr, lr, trivial⟩ trivial
 rintro i ⟨p1, p2⟩
 conv => whnf
 refine br_intro (fun h => ?_) (fun h => ?_)
 · simp only [decide_eq_true_eq] at h
   conv => whnf
   refine ⟨⟨by omega, by omega⟩, ?_⟩
   conv => whnf
   have hi : i < l.length := by omega
   have hd : l.drop i = l[i] :: l.drop (i + 1) := List.drop_eq_getElem_cons hi
   refine br_intro (fun h2 => ?_) (fun h2 => ?_)
   · conv => whnf
     refine .ret _ ?_
     conv => whnf
     refine ⟨[], ⟨?_, rfl⟩, trivial⟩
     conv => lhs; whnf
     rw [getD_toNat hi] at h2 ⊢
     simp at h2
     rw [p2, hd, firstE, if_neg h2]
   · conv => whnf
     rw [getD_toNat hi] at h2
     simp at h2
     refine ⟨by unfold inI64; omega, ?_⟩
     conv => whnf
     refine ⟨i + 1, ⟨hi, ?_⟩, by omega, ?_⟩
     · rw [p2, hd, firstE, if_pos h2]
     · exact Entails.mk' [] rfl rfl ⟨lr, lr, lr, lr, trivial⟩ trivial
 · simp only [decide_eq_false_iff_not] at h
   conv => whnf
   refine .ret _ ?_
   conv => whnf
   refine ⟨[], ⟨?_, rfl⟩, trivial⟩
   conv => lhs; whnf
   rw [p2, List.drop_eq_nil_iff.2 (by omega)]; rfl
theorem s105 (l : List Int) (hl : l.length ≤ 2^40) : FSpec Tryz.prog 71 [.d (ints l)] [] (fun x r => x = .d (.int .i64 (firstE l)) ∧ r = []) := by
 refine spec_of hT (C := []) Tryz.func71 rfl Tryz.call71 rfl rfl rfl ?_
 conv => whnf
 refine CallX.pure (s161 l hl) ⟨lr, trivial⟩ rfl ?_
 conv => whnf
 refine .ret _ ?_
 conv => whnf
 exact ⟨[], ⟨rfl, rfl⟩, trivial⟩
def splitF (cents : Int) (w : List Int) : Int :=
 if ¬ (0 ≤ cents ∧ cents ≤ 1000000000) then 1 else if 50 < w.length then 2 else if w.any (fun x => !decide (0 ≤ x ∧ x ≤ 5761440)) then 1 else if w.sum = 0 then 8 else 0
def keyCh (i : Nat) (c : UInt8) : Bool := (decide (97 ≤ c.toNat) && decide (c.toNat ≤ 122)) || (!decide (i = 0) && ((decide (48 ≤ c.toNat) && decide (c.toNat ≤ 57)) || decide (c.toNat = 45) || decide (c.toNat = 95)))
def isKeyB (s : List UInt8) : Bool := (List.range s.length).all (fun i => keyCh i (s.getD i 0)) && !s.isEmpty && decide (s.length ≤ 40)
theorem keyCh_iff {i : Nat} {c : UInt8} : keyCh i c = true ↔ ((97 ≤ (c.toNat : Int) ∧ (c.toNat : Int) ≤ 122) ∨ ((i : Int) ≠ 0 ∧ ((48 ≤ (c.toNat : Int) ∧ (c.toNat : Int) ≤ 57) ∨ (c.toNat : Int) = 45 ∨ (c.toNat : Int) = 95))) := by
 simp only [keyCh, Bool.or_eq_true, Bool.and_eq_true, decide_eq_true_eq, Bool.not_eq_true', decide_eq_false_iff_not]
 omega
theorem s108 (s : List UInt8) (hl : s.length ≤ 2^40) : FSpec Tryz.prog 77 [.d (.str s)] [] (fun x r => x = .d (.bool (isKeyB s)) ∧ r = []) := by
 refine spec_of hT (C := []) Tryz.func77 rfl Tryz.call77 rfl rfl rfl ?_
 conv => whnf
 refine LoopX.rule hT (C := []) (ι := Nat) (fun i => i ≤ s.length ∧ ∀ j, j < i → keyCh j (s.getD j 0) = true) (fun i => mkSt [(0, .d (.str s)), (7, .d (.int .i64 s.length)), (8, .d (.int .i64 i))] []) (fun i => s.length - i) 0 ⟨by omega, by omega⟩ ?_ ?_
 · exact Entails.mk' [] rfl rfl ⟨lr, lr, lr, trivial⟩ trivial
 rintro i ⟨p1, p2⟩
 conv => whnf
 refine br_intro (fun h => ?_) (fun h => ?_)
 · simp only [decide_eq_true_eq] at h
   have hi : i < s.length := by omega
   have e1 : (i : Int).toNat = i := Int.toNat_natCast i
   conv => whnf
   repeat (refine And.intro (by (try unfold inI64); (try dsimp only); (try simp only [e1, List.length_cons, List.length_append, List.length_singleton, List.length_nil]); omega) ?_; conv => whnf)
   have hbad : keyCh i (s.getD i 0) = false → isKeyB s = false := fun h => by
    have : (List.range s.length).all (fun i => keyCh i (s.getD i 0)) = false := by
     rw [List.all_eq_false]; exact ⟨i, List.mem_range.2 hi, by rw [h]; simp⟩
    simp only [isKeyB, this, Bool.false_and]
   have hgood : keyCh i (s.getD i 0) = true → ∀ j, j < i + 1 → keyCh j (s.getD j 0) = true := fun h j hj => by
    rcases Nat.lt_or_ge j i with q | q
    · exact p2 j q
    · have : j = i := by omega
      subst this; exact h
   repeat' (refine br_intro (fun _ => ?_) (fun _ => ?_) <;> (conv => whnf))
   all_goals first
    | (refine And.intro (by unfold inI64; omega) ?_
       conv => whnf
       refine ⟨i + 1, ⟨hi, hgood ?_⟩, by omega, Entails.mk' [] rfl rfl ⟨lr, lr, lr, trivial⟩ trivial⟩
       rw [keyCh_iff]
       simp only [decide_eq_true_eq, decide_eq_false_iff_not, Bool.not_eq_true', Bool.not_eq_false', e1] at *
       omega)
    | (refine .ret _ ?_
       conv => whnf
       refine ⟨[], ⟨?_, rfl⟩, trivial⟩
       conv => lhs; whnf
       rw [hbad]
       cases hq : keyCh i (s.getD i 0) with
       | false => rfl
       | true =>
         rw [keyCh_iff] at hq
         simp only [decide_eq_true_eq, decide_eq_false_iff_not, Bool.not_eq_true', Bool.not_eq_false', e1] at *
         omega)
    | skip
 simp only [decide_eq_false_iff_not] at h
 have e1 : i = s.length := by omega
 subst e1
 have hall : (List.range s.length).all (fun i => keyCh i (s.getD i 0)) = true := by
  rw [List.all_eq_true]; intro j hj; exact p2 j (List.mem_range.1 hj)
 conv => whnf
 repeat' (refine br_intro (fun _ => ?_) (fun _ => ?_) <;> (conv => whnf))
 all_goals (refine .ret _ ?_; conv => whnf)
 all_goals (refine ⟨[], ⟨?_, rfl⟩, trivial⟩; conv => lhs; whnf)
 · rename_i hq
   have : s.isEmpty = false := by
    cases s with
    | nil => exact absurd hq (by decide)
    | cons x l => rfl
   unfold isKeyB
   rw [hall, this]
   simp
   omega
 · rename_i hq
   have : s.isEmpty = true := by
    cases s with
    | nil => rfl
    | cons x l => exact absurd hq (by simp)
   unfold isKeyB
   rw [hall, this]
   rfl
def strLe (a b : List UInt8) : Bool := Op.bytesLess a b || a == b
def firstAt (f : Nat → Int) : Nat → Int
 | 0 => 0
 | n + 1 => if firstAt f n = 0 then f n else firstAt f n
theorem firstAt_zero {f : Nat → Int} : ∀ {n : Nat}, (∀ j, j < n → f j = 0) → firstAt f n = 0 := by
 intro n
 induction n with
 | zero => intro _; rfl
 | succ n ih => intro h; rw [firstAt, if_pos (ih fun j hj => h j (by omega))]; exact h n (by omega)
theorem firstAt_eq {f : Nat → Int} {n i : Nat} {e : Int} (hi : i < n) (h : ∀ j, j < i → f j = 0) (h1 : e ≠ 0) (h2 : f i = e) : firstAt f n = e := by
 induction n with
 | zero => omega
 | succ n ih =>
   rw [firstAt]
   by_cases q : i < n
   · rw [ih q, if_neg h1]
   · have : i = n := by omega
     subst this
     rw [if_pos (firstAt_zero h)]; exact h2
end Go.Proofs.YtcjfniddeibbhaaGreatDoor
namespace Go.Proofs
open Go.Shelf
def Tryz.lays160_ren : Go.Shelf.Ren := ⟨fun | 160 => 167 | 232 => 213 | 231 => 212 | 227 => 214 | 234 => 216 | 233 => 215 | 236 => 218 | 235 => 217 | 228 => 273 | 271 => 276 | 151 => 275 | 197 => 274 | 120 => 305 | 152 => 304 | 260 => 303 | 137 => 315 | 119 => 316 | 224 => 317 | 225 => 318 | 217 => 321 | 266 => 322 | n => n, fun | 9 => 9 | 4 => 4 | 3 => 3 | 5 => 5 | 117 => 292 | 116 => 291 | 0 => 0 | 124 => 295 | 21 => 21 | 105 => 346 | 46 => 242 | 119 => 376 | 139 => 379 | 138 => 378 | n => n, fun | 3 => 1 | 4 => 2 | n => n⟩
theorem Tryz.lays160 : Go.Proofs.Lays.n160 Tryz.prog Tryz.lays160_ren := {
 mixed := by kernel_rfl
 f119 := Tryz.func316.trans (congrArg some (by kernel_rfl))
 f120 := Tryz.func305.trans (congrArg some (by kernel_rfl))
 f137 := Tryz.func315.trans (congrArg some (by kernel_rfl))
 f151 := Tryz.func275.trans (congrArg some (by kernel_rfl))
 f152 := Tryz.func304.trans (congrArg some (by kernel_rfl))
 f160 := Tryz.func167.trans (congrArg some (by kernel_rfl))
 f197 := Tryz.func274.trans (congrArg some (by kernel_rfl))
 f217 := Tryz.func321.trans (congrArg some (by kernel_rfl))
 f224 := Tryz.func317.trans (congrArg some (by kernel_rfl))
 f225 := Tryz.func318.trans (congrArg some (by kernel_rfl))
 f227 := Tryz.func214.trans (congrArg some (by kernel_rfl))
 f228 := Tryz.func273.trans (congrArg some (by kernel_rfl))
 f231 := Tryz.func212.trans (congrArg some (by kernel_rfl))
 f232 := Tryz.func213.trans (congrArg some (by kernel_rfl))
 f233 := Tryz.func215.trans (congrArg some (by kernel_rfl))
 f234 := Tryz.func216.trans (congrArg some (by kernel_rfl))
 f235 := Tryz.func217.trans (congrArg some (by kernel_rfl))
 f236 := Tryz.func218.trans (congrArg some (by kernel_rfl))
 f260 := Tryz.func303.trans (congrArg some (by kernel_rfl))
 f266 := Tryz.func322.trans (congrArg some (by kernel_rfl))
 f271 := Tryz.func276.trans (congrArg some (by kernel_rfl))
 t0 := Tryz.underlying0
 a0 := Tryz.isAgg0
 z0 := Tryz.sizeOf0
 v0 := Tryz.zeroValue0
 t3 := Tryz.underlying3
 a3 := Tryz.isAgg3
 z3 := Tryz.sizeOf3
 v3 := Tryz.zeroValue3
 t4 := Tryz.underlying4
 a4 := Tryz.isAgg4
 z4 := Tryz.sizeOf4
 v4 := Tryz.zeroValue4
 t5 := Tryz.underlying5
 a5 := Tryz.isAgg5
 z5 := Tryz.sizeOf5
 v5 := Tryz.zeroValue5
 t9 := Tryz.underlying9
 a9 := Tryz.isAgg9
 z9 := Tryz.sizeOf9
 v9 := Tryz.zeroValue9
 t21 := Tryz.underlying21
 a21 := Tryz.isAgg21
 z21 := Tryz.sizeOf21
 v21 := Tryz.zeroValue21
 t46 := Tryz.underlying242
 a46 := Tryz.isAgg242
 z46 := Tryz.sizeOf242
 v46 := Tryz.zeroValue242
 t105 := Tryz.underlying346
 a105 := Tryz.isAgg346
 z105 := Tryz.sizeOf346
 v105 := Tryz.zeroValue346
 t116 := Tryz.underlying291
 a116 := Tryz.isAgg291
 z116 := Tryz.sizeOf291
 t117 := Tryz.underlying292
 a117 := Tryz.isAgg292
 z117 := Tryz.sizeOf292
 v117 := Tryz.zeroValue292
 t119 := Tryz.underlying376
 a119 := Tryz.isAgg376
 z119 := Tryz.sizeOf376
 t124 := Tryz.underlying295
 a124 := Tryz.isAgg295
 z124 := Tryz.sizeOf295
 v124 := Tryz.zeroValue295
 t138 := Tryz.underlying378
 a138 := Tryz.isAgg378
 z138 := Tryz.sizeOf378
 v138 := Tryz.zeroValue378
 t139 := Tryz.underlying379
 a139 := Tryz.isAgg379
 z139 := Tryz.sizeOf379
 v139 := Tryz.zeroValue379
 g3 := by kernel_rfl
 g4 := by kernel_rfl }
end Go.Proofs
set_option maxRecDepth 20000
namespace Go.Proofs.YtcjfniddeibbhaaGreatDoor
open Go Go.Eng Go.Shelf
theorem s162 (s cs : List UInt8) (hl : s.length ≤ 2^40) (hc : cs.length ≤ 2^20) (ha : cs.all (fun b => decide (b.toNat < 128)) = true) : FSpec Tryz.prog 167 [.d (.str s), .d (.str cs)] [] (fun x r => x = .d (.str (Lib.trimS s cs)) ∧ r = []) := by
 refine FSpec.ofBelow Tryz.call167 (fun G β w vs _ hvl hd => ?_)
 match vs, hvl with
 | [u, v], _ =>
   have h0 := hd 0 _ u rfl rfl
   have h1 := hd 1 _ v rfl rfl
   cases h0 with | d _ _ h0 => cases h0 with | str _ =>
   cases h1 with | d _ _ h1 => cases h1 with | str _ =>
   refine ⟨.string ⟨(Lib.trimS s cs).toArray⟩, fun _ _ => .d _ _ (.str _), ?_⟩
   have hcon := Any.strings_Trim_laid Tryz.lays160 (by kernel_rfl) ⟨s.toArray⟩ ⟨cs.toArray⟩ w (by simp [ByteArray.size]; omega) (by simp [ByteArray.size]; omega) (ascii_of_all (by simpa using ha))
   have e : Tryz.lays160_ren.f 160 = 167 := rfl
   rw [e] at hcon
   simpa using hcon
theorem dropWhile_nil {p : UInt8 → Bool} {l : List UInt8} : l.dropWhile p = [] ↔ ∀ b ∈ l, p b = true := by
 induction l with
 | nil => simp
 | cons a l ih => by_cases h : p a = true <;> simp [List.dropWhile_cons, h, ih]
theorem trimS_nil {s cs : List UInt8} : Lib.trimS s cs = [] ↔ ∀ b ∈ s, cs.contains b = true := by
 unfold Lib.trimS Lib.trimLeftS Lib.trimRightS
 rw [dropWhile_nil]
 constructor
 · intro h b hb
   have h1 : s.reverse.dropWhile (cs.contains ·) = [] ∨ ¬ s.reverse.dropWhile (cs.contains ·) = [] := Classical.em _
   rcases h1 with h1 | h1
   · exact dropWhile_nil.1 h1 b (by simpa using hb)
   · obtain ⟨c, m, hc⟩ := List.exists_cons_of_ne_nil h1
     have h3 : cs.contains c = false := by
      have := List.head_dropWhile_not (cs.contains ·) (l := s.reverse) h1
      simp only [hc, List.head_cons] at this
      exact this
     have h4 := h c (by rw [List.mem_reverse, hc]; exact List.mem_cons_self)
     rw [h3] at h4; cases h4
 · intro h b hb
   rw [List.mem_reverse] at hb
   exact h b (by simpa using (List.dropWhile_sublist _).subset hb)
def onlyB (s cs : List UInt8) : Bool := s.all (cs.contains ·)
theorem s111 (s cs : List UInt8) (hl : s.length ≤ 2^40) (hc : cs.length ≤ 2^20) (ha : cs.all (fun b => decide (b.toNat < 128)) = true) : FSpec Tryz.prog 100 [.d (.str s), .d (.str cs)] [] (fun x r => x = .d (.bool (onlyB s cs)) ∧ r = []) := by
 refine spec_of hT (C := []) Tryz.func100 rfl Tryz.call100 rfl rfl rfl ?_
 conv => whnf
 refine CallX.pure (s162 _ _ hl hc ha) ⟨lr, lr, trivial⟩ rfl ?_
 conv => whnf
 refine .ret _ ?_
 conv => whnf
 refine ⟨[], ⟨?_, rfl⟩, trivial⟩
 show SV.d (.bool (Lib.trimS s cs == [])) = _
 congr 2
 rw [Bool.eq_iff_iff]
 simp only [beq_iff_eq, trimS_nil, onlyB, List.all_eq_true]
theorem s110 (a b c : Int) : FSpec Tryz.prog 99 [.d (.int .i64 a), .d (.int .i64 b), .d (.int .i64 c)] [] (fun x r => x = .d (.bool (decide (b ≤ a ∧ a ≤ c))) ∧ r = []) := by
 refine spec_of hT (C := []) Tryz.func99 rfl Tryz.call99 rfl rfl rfl ?_
 conv => whnf
 repeat' (refine br_intro (fun _ => ?_) (fun _ => ?_) <;> (conv => whnf))
 all_goals
  refine .ret _ ?_
  conv => whnf
  refine ⟨[], ⟨?_, rfl⟩, trivial⟩
  conv => lhs; whnf
  congr 2
  grind
def smallsL : List UInt8 := [97, 98, 99, 100, 101, 102, 103, 104, 105, 106, 107, 108, 109, 110, 111, 112, 113, 114, 115, 116, 117, 118, 119, 120, 121, 122]
def keyL : List UInt8 := smallsL ++ [48, 49, 50, 51, 52, 53, 54, 55, 56, 57, 45, 95]
theorem u8_all {p : UInt8 → Bool} (h : (List.range 256).all (fun n => p (UInt8.ofNat n)) = true) (c : UInt8) : p c = true := by
 have := List.all_eq_true.1 h c.toNat (List.mem_range.2 c.toNat_lt)
 simpa using this
theorem small_iff (c : UInt8) : smallsL.contains c = keyCh 0 c := by
 have := u8_all (p := fun c => smallsL.contains c == keyCh 0 c) (by decide +kernel) c
 simpa using this
theorem key_iff (c : UInt8) : keyL.contains c = keyCh 1 c := by
 have := u8_all (p := fun c => keyL.contains c == keyCh 1 c) (by decide +kernel) c
 simpa using this
theorem keyCh_succ (i : Nat) (c : UInt8) : keyCh (i + 1) c = keyCh 1 c := by simp [keyCh]
theorem keyCh_one {c : UInt8} (h : keyCh 0 c = true) : keyCh 1 c = true := by
 simp only [keyCh] at h ⊢; simp at h; simp [h]
theorem isKey_eq (s : List UInt8) : isKeyB s = (decide (1 ≤ (s.length : Int) ∧ (s.length : Int) ≤ 40) && onlyB (s.take 1) smallsL && onlyB s keyL) := by
 cases s with
 | nil => rfl
 | cons c l =>
   have h1 : onlyB ((c :: l).take 1) smallsL = keyCh 0 c := by simp only [onlyB, List.take_succ_cons, List.take_zero, List.all_cons, List.all_nil, Bool.and_true, small_iff]
   have h2 : onlyB (c :: l) keyL = (keyCh 1 c && l.all (keyCh 1 ·)) := by simp only [onlyB, List.all_cons, key_iff]
   have h3 : (List.range (c :: l).length).all (fun i => keyCh i ((c :: l).getD i 0)) = (keyCh 0 c && l.all (keyCh 1 ·)) := by
    rw [List.length_cons, List.range_succ_eq_map, List.all_cons, List.all_map]
    congr 1
    rw [Bool.eq_iff_iff, List.all_eq_true, List.all_eq_true]
    constructor
    · intro h x hx
      obtain ⟨i, hi, rfl⟩ := List.getElem_of_mem hx
      have := h i (List.mem_range.2 hi)
      simp only [Function.comp, List.getD_cons_succ, keyCh_succ] at this
      rwa [List.getD_eq_getElem?_getD, List.getElem?_eq_getElem hi] at this
    · intro h i hi
      have hi := List.mem_range.1 hi
      simp only [Function.comp, List.getD_cons_succ, keyCh_succ]
      rw [List.getD_eq_getElem?_getD, List.getElem?_eq_getElem hi]
      exact h _ (List.getElem_mem hi)
   unfold isKeyB
   rw [h1, h2, h3, Bool.eq_iff_iff]
   simp only [Bool.and_eq_true, decide_eq_true_eq, Bool.not_eq_true', List.isEmpty_cons, List.length_cons]
   constructor
   · rintro ⟨⟨⟨a, b⟩, _⟩, d⟩; exact ⟨⟨⟨by omega, by omega⟩, a⟩, keyCh_one a, b⟩
   · rintro ⟨⟨⟨_, d⟩, a⟩, _, b⟩; exact ⟨⟨⟨a, b⟩, trivial⟩, by omega⟩
theorem s21 (s : List UInt8) (hl : s.length ≤ 2^40) : FSpec Tryz.prog 34 [.d (.str s)] [] (fun x r => x = .d (.bool (isKeyB s)) ∧ r = []) := by
 refine spec_of hT (C := []) Tryz.func34 rfl Tryz.call34 rfl rfl rfl ?_
 conv => whnf
 repeat' (first | (refine CallX.exact (s110 _ _ _) rfl rfl ?_; rotate_right; conv => whnf) | (refine CallX.exact (s111 s keyL hl ?_ ?_) rfl rfl ?_; rotate_right; conv => whnf) | (refine CallX.exact (s111 _ smallsL ?_ ?_ ?_) rfl rfl ?_; rotate_right; conv => whnf) | (refine br_intro ?_ ?_ <;> intro hb <;> (try simp only [brs] at hb) <;> conv => whnf) | omega | (refine And.intro ?_ ?_; ((try dsimp only); first | omega | (refine szA rfl ?_; omega) | (refine szB rfl ?_; omega) | (unfold inI64; omega) | exact rfl | (simp only [lns] at *; omega) | decide | (unfold inI64; decide)); conv => whnf) | decide | assumption)
 all_goals try (simp; omega)
 all_goals
  refine .ret _ ?_
  conv => whnf
  refine ⟨[], ⟨?_, rfl⟩, trivial⟩
  conv => lhs; whnf
  rw [isKey_eq]; congr 2; grind
theorem first_step {f : Nat → Int} {i : Nat} (p : ∀ j, j < i → f j = 0) (h : f i = 0) : ∀ j, j < i + 1 → f j = 0 := fun j hj => by
 rcases Nat.lt_or_ge j i with q | q
 · exact p j q
 · have : j = i := by omega
   subst this; exact h
theorem toNat_pred (i : Nat) : ((i : Int) - 1).toNat = i - 1 := by omega
theorem take_snocD {α : Type} {l : List α} {i : Nat} {d : α} (h : i < l.length) : l.take (i + 1) = l.take i ++ [l.getD i d] := by
 rw [List.take_succ_eq_append_getElem h, List.getD_eq_getElem?_getD, List.getElem?_eq_getElem h]; rfl
theorem firstAt_all {f : Nat → Int} : ∀ {n : Nat}, firstAt f n = 0 → ∀ j, j < n → f j = 0 := by
 intro n
 induction n with
 | zero => intro _ j hj; omega
 | succ n ih =>
   intro h j hj
   rw [firstAt] at h
   split at h
   · rename_i q
     rcases Nat.lt_or_ge j n with r | r
     · exact ih q j r
     · have : j = n := by omega
       subst this; exact h
   · omega
theorem mem_getD {α : Type} {l : List α} {x d : α} (h : x ∈ l) : ∃ j, j < l.length ∧ l.getD j d = x := by
 obtain ⟨j, hj, rfl⟩ := List.getElem_of_mem h
 exact ⟨j, hj, by rw [List.getD_eq_getElem?_getD, List.getElem?_eq_getElem hj]; rfl⟩
def oTCoD249_4 : List (Nat × List Nat) := [(0, []), (1, [0]), (2, []), (3, []), (4, []), (5, [4]), (6, [4, 5]), (7, [4]), (8, [4]), (9, [4, 5, 6, 7, 8]), (10, [4, 5, 6, 7, 8, 9]), (11, [4, 5, 6, 7, 8, 9]), (12, [4, 5, 6, 7, 8]), (13, [4, 5, 6, 7, 8]), (14, []), (15, []), (16, [])]
def oTCoD249_6 : List (Nat × List Nat) := [(0, []), (1, [0]), (2, [0, 1]), (3, [0, 1, 2]), (4, [0, 1, 2]), (5, [0, 1, 2, 3, 4]), (6, [0, 1, 2, 3, 4, 5]), (7, [0, 1, 2, 3, 4, 5]), (8, [0, 1, 2, 3, 4]), (9, [0, 1, 2, 3, 4]), (10, [0, 1, 2, 3, 4, 5, 6, 7, 8, 9]), (11, [0, 1, 2, 3, 4, 5, 6, 7, 8, 9, 10]), (12, [0, 1, 2, 3, 4, 5, 6, 7, 8, 9]), (13, [0, 1, 2, 3, 4, 5, 6, 7, 8, 9]), (14, [2, 3, 4]), (15, [2, 3, 4]), (16, []), (17, [])]
section
variable {α : Type} (cmp : α → α → Int)
def insR (x : α) : List α → List α
 | [] => [x]
 | y :: r => if cmp x y < 0 then y :: insR x r else x :: y :: r
def isortR (l : List α) : List α := l.foldl (fun acc x => insR cmp x acc) []
def isort (l : List α) : List α := (isortR cmp l).reverse
theorem insR_length (x : α) : ∀ l : List α, (insR cmp x l).length = l.length + 1 := by
 intro l
 induction l with
 | nil => rfl
 | cons y r ih => simp only [insR]; split <;> simp [ih]
theorem isortR_snoc (l : List α) (x : α) : isortR cmp (l ++ [x]) = insR cmp x (isortR cmp l) := by simp [isortR]
theorem isortR_length (l : List α) : (isortR cmp l).length = l.length := by
 have : ∀ (l acc : List α), (l.foldl (fun acc x => insR cmp x acc) acc).length = acc.length + l.length := by
  intro l
  induction l with
  | nil => intro acc; simp
  | cons x l ih => intro acc; rw [List.foldl_cons, ih, insR_length]; simp; omega
 rw [isortR, this]; simp
theorem insR_mem (x y : α) : ∀ {l : List α}, y ∈ insR cmp x l ↔ y = x ∨ y ∈ l := by
 intro l
 induction l with
 | nil => simp [insR]
 | cons z r ih =>
   simp only [insR]
   split
   · simp only [List.mem_cons, ih]
     constructor
     · rintro (h | h | h)
       · exact .inr (.inl h)
       · exact .inl h
       · exact .inr (.inr h)
     · rintro (h | h | h)
       · exact .inr (.inl h)
       · exact .inl h
       · exact .inr (.inr h)
   · simp
theorem isortR_mem {y : α} (l : List α) : y ∈ isortR cmp l ↔ y ∈ l := by
 have : ∀ (l acc : List α), y ∈ (l.foldl (fun acc x => insR cmp x acc) acc) ↔ y ∈ acc ∨ y ∈ l := by
  intro l
  induction l with
  | nil => intro acc; simp
  | cons x l ih =>
    intro acc; rw [List.foldl_cons, ih, insR_mem, List.mem_cons]
    constructor
    · rintro ((h | h) | h)
      · exact .inr (.inl h)
      · exact .inl h
      · exact .inr (.inr h)
    · rintro (h | h | h)
      · exact .inl (.inr h)
      · exact .inl (.inl h)
      · exact .inr h
 rw [isortR, this]; simp
end
def cap3 (x y z : SV) (e1 e2 e3 : TypeId) : List (Nat × Res) := [(1000002, .cells e1 [x]), (1000003, .cells e2 [y]), (1000004, .cells e3 [z])]
theorem take_snoc {α : Type} {l : List α} {i : Nat} (h : i < l.length) : l.take (i + 1) = l.take i ++ [l[i]] := (List.take_append_getElem h).symm
theorem getD_mid {α : Type} (A B : List α) (x d : α) {i : Nat} (h : i = A.length) : (A ++ x :: B).getD i d = x := by
 subst h; rw [List.getD_eq_getElem?_getD]; simp
theorem swap_lemma {α : Type} (A B : List α) (x y : α) : (((A ++ [y] ++ [x] ++ B).set (A.length + 1) y).set A.length x) = A ++ [x] ++ [y] ++ B := by
 simp [List.set_append]
theorem s228 (g : FuncId) (x1 x2 x3 : DV) (e1 e2 e3 : TypeId) (cmp : Int → Int → Int) (l : List Int) (hl : l.length ≤ 2^40)
 (hcmp : ∀ p q, p ∈ l → q ∈ l → FSpec Tryz.prog g [.d (.int .i64 p), .d (.int .i64 q), .ptr 1000002 0, .ptr 1000003 0, .ptr 1000004 0] (cap3 (.d x1) (.d x2) (.d x3) e1 e2 e3)
   (fun y r => y = .d (.int .i64 (cmp p q)) ∧ r = cap3 (.d x1) (.d x2) (.d x3) e1 e2 e3)) :
 FSpec Tryz.prog 249 [.buf 1000001, .d (.int .i64 0), .d (.int .i64 l.length), .fn g [.ptr 1000002 0, .ptr 1000003 0, .ptr 1000004 0]] ((1000001, seqB 3 1 iF 0 l) :: cap3 (.d x1) (.d x2) (.d x3) e1 e2 e3)
  (fun y r => y = .tup [] ∧ r = (1000001, seqB 3 1 iF 0 (isort cmp l)) :: cap3 (.d x1) (.d x2) (.d x3) e1 e2 e3) := by
 refine spec_of hT (C := []) Tryz.func249 rfl Tryz.call249 rfl rfl rfl ?_
 conv => whnf
 refine ⟨by unfold inI64; omega, ?_⟩
 conv => whnf
 refine LoopX.rule hT (C := []) (ι := Nat × List Int) (fun p => 1 ≤ p.1 ∧ (p.1 ≤ l.length ∨ p.1 = 1) ∧ p.2 = (isortR cmp (l.take p.1)).reverse ++ l.drop p.1)
  (fun p => mkSt [(0, .buf 1000001), (1, .d (.int .i64 0)), (2, .d (.int .i64 l.length)), (3, .fn g [.ptr 1000002 0, .ptr 1000003 0, .ptr 1000004 0]), (8, .d (.int .i64 p.1))] ((1000001, seqB 3 1 iF 0 p.2) :: cap3 (.d x1) (.d x2) (.d x3) e1 e2 e3))
  (fun p => l.length - p.1) (1, l) ⟨by simp, by simp, ?_⟩ ?_ ?_
 · simp only
   cases l with
   | nil => rfl
   | cons x l => simp [isortR, insR]
 · exact Entails.mk' [(1000001, 1000001), (1000002, 1000002), (1000003, 1000003), (1000004, 1000004)] rfl rfl ⟨lr, lr, lr, lr, lr, trivial⟩ ⟨rr, rr, rr, rr, trivial⟩
 rintro ⟨i, c⟩ ⟨p1, p2, p3⟩
 simp only at p1 p2 p3
 conv => whnf
 refine br_intro (fun h => ?_) (fun h => ?_)
 · simp only [decide_eq_true_eq] at h
   have hi : i < l.length := by omega
   conv => whnf
   have hx : l[i] ∈ l := List.getElem_mem hi
   have hmem : ∀ y ∈ isortR cmp (l.take i), y ∈ l := fun y hy => List.mem_of_mem_take ((isortR_mem cmp _).1 hy)
   refine LoopX.rule hT (C := []) (ι := List Int × List Int) (fun p => insR cmp l[i] (isortR cmp (l.take i)) = p.2.reverse ++ insR cmp l[i] p.1 ∧ p.1.length + p.2.length = i ∧ ∀ y ∈ p.1, y ∈ l)
    (fun p => mkSt [(0, .buf 1000001), (1, .d (.int .i64 0)), (2, .d (.int .i64 l.length)), (3, .fn g [.ptr 1000002 0, .ptr 1000003 0, .ptr 1000004 0]), (8, .d (.int .i64 i)), (9, .d (.int .i64 p.1.length))]
      ((1000001, seqB 3 1 iF 0 (p.1.reverse ++ [l[i]] ++ p.2 ++ l.drop (i + 1))) :: cap3 (.d x1) (.d x2) (.d x3) e1 e2 e3))
    (fun p => p.1.length) (isortR cmp (l.take i), []) ⟨by simp, ?_, hmem⟩ ?_ ?_
   · simp [isortR_length]; omega
   · refine Entails.mk' [(1000001, 1000001), (1000002, 1000002), (1000003, 1000003), (1000004, 1000004)] rfl rfl ⟨lr, lr, lr, lr, lr, SV.le_int ?_, trivial⟩ ⟨?_, rr, rr, rr, trivial⟩
     · simp [isortR_length]; omega
     · have : c = (isortR cmp (l.take i)).reverse ++ [l[i]] ++ [] ++ l.drop (i + 1) := by rw [p3, List.drop_eq_getElem_cons hi]; simp
       show Res.le (seqB 3 1 iF 0 c) _
       rw [this]; exact rr
   rintro ⟨A, B⟩ ⟨q1, q2, q3⟩
   simp only at q1 q2 q3
   have hlen : (A.reverse ++ [l[i]] ++ B ++ l.drop (i + 1)).length = l.length := by simp; omega
   conv => whnf
   refine RegX.rule hT rfl [] oTCoD249_4 (by decide +kernel) ?_
   conv => whnf
   refine br_intro (fun h2 => ?_) (fun h2 => ?_)
   · conv => whnf
     cases A with
     | nil => simp at h2
     | cons y A =>
     have g1 : ((y :: A).reverse ++ [l[i]] ++ B ++ l.drop (i + 1)).getD (((y :: A).length : Int)).toNat 0 = l[i] := by
      rw [show (y :: A).reverse ++ [l[i]] ++ B ++ l.drop (i + 1) = (y :: A).reverse ++ l[i] :: (B ++ l.drop (i + 1)) by simp]
      exact getD_mid _ _ _ _ (by simp)
     have g2 : ((y :: A).reverse ++ [l[i]] ++ B ++ l.drop (i + 1)).getD ((((y :: A).length : Int)) - 1).toNat 0 = y := by
      rw [show (y :: A).reverse ++ [l[i]] ++ B ++ l.drop (i + 1) = A.reverse ++ y :: ([l[i]] ++ B ++ l.drop (i + 1)) by simp]
      exact getD_mid _ _ _ _ (by simp)
     have hA : (y :: A).length = A.length + 1 := rfl
     refine ⟨⟨by omega, by simp only [hlen]; omega⟩, ?_⟩
     conv => whnf
     refine ⟨by simp only [hlen]; omega, ?_⟩
     conv => whnf
     refine ⟨by unfold inI64; simp only [List.length_cons]; omega, ?_⟩
     conv => whnf
     refine ⟨⟨by simp only [List.length_cons]; omega, by simp only [hlen, List.length_cons]; omega⟩, ?_⟩
     conv => whnf
     refine ⟨by simp only [hlen, List.length_cons]; omega, ?_⟩
     conv => whnf
     refine CallX.of (hcmp l[i] y hx (q3 y (by simp))) [(1000002, 1000002), (1000003, 1000003), (1000004, 1000004)] rfl ⟨SV.le_int g1, SV.le_int g2, lr, lr, lr, trivial⟩ ⟨rr, rr, rr, trivial⟩ rfl rfl ?_
     rintro x rout ⟨rfl, rfl⟩
     refine ⟨rfl, ?_⟩
     conv => whnf
     refine br_intro (fun h3 => ?_) (fun h3 => ?_)
     · simp only [decide_eq_true_eq] at h3
       conv => whnf
       refine RegX.rule hT rfl [] oTCoD249_6 (by decide +kernel) ?_
       conv => whnf
       repeat (refine And.intro (by (try unfold inI64); (try dsimp only); (try simp only [hlen, List.length_cons, List.length_append, List.length_singleton, List.length_nil]); omega) ?_; conv => whnf)
       have hsw : (((y :: A).reverse ++ [l[i]] ++ B ++ l.drop (i + 1)).set (((y :: A).length : Int)).toNat y).set ((((y :: A).length : Int)) - 1).toNat l[i] = A.reverse ++ [l[i]] ++ (y :: B) ++ l.drop (i + 1) := by
        have k1 : (((y :: A).length : Int)).toNat = A.reverse.length + 1 := by simp
        have k2 : ((((y :: A).length : Int)) - 1).toNat = A.reverse.length := by simp
        rw [k1, k2]
        have := swap_lemma A.reverse (B ++ l.drop (i + 1)) l[i] y
        simp only [List.reverse_cons, List.append_assoc, List.singleton_append, List.cons_append, List.nil_append] at this ⊢
        exact this
       refine ⟨(A, y :: B), ⟨?_, by simp only [List.length_cons] at q2 ⊢; omega, fun z hz => q3 z (by simp [hz])⟩, by simp only [List.length_cons]; omega, ?_⟩
       · rw [q1]; simp [insR, h3]
       · refine Entails.mk' [(1000001, 1000001), (1000002, 1000002), (1000003, 1000003), (1000004, 1000004)] rfl rfl ⟨lr, lr, lr, lr, lr, SV.le_int (by simp only [List.length_cons]; omega), trivial⟩ ⟨?_, rr, rr, rr, trivial⟩
         show Res.le _ (seqB 3 1 iF 0 (A.reverse ++ [l[i]] ++ (y :: B) ++ l.drop (i + 1)))
         rw [← hsw]
         refine Res.le_buf (by simp) (fun k hk => ?_)
         have e1 := rows_putG (f := iF) (d := 0) (l := ((y :: A).reverse ++ [l[i]] ++ B ++ l.drop (i + 1))) (x := y) (j := ((((y :: A).length : Int)).toNat)) (off := 0) (ds := [.int .i64 (((y :: A).reverse ++ [l[i]] ++ B ++ l.drop (i + 1)).getD ((((y :: A).length : Int) - 1).toNat) 0)]) (get := rowF iF 0 ((y :: A).reverse ++ [l[i]] ++ B ++ l.drop (i + 1))) (fun _ _ => rfl) (fun z _ => by rw [g2]; rfl)
         have e2 := rows_putG (f := iF) (d := 0) (l := ((y :: A).reverse ++ [l[i]] ++ B ++ l.drop (i + 1)).set ((((y :: A).length : Int)).toNat) y) (x := l[i]) (j := ((((y :: A).length : Int) - 1).toNat)) (off := 0) (ds := [.int .i64 (((y :: A).reverse ++ [l[i]] ++ B ++ l.drop (i + 1)).getD ((((y :: A).length : Int)).toNat) 0)])
          (get := fun k => bif Nat.beq k ((((y :: A).length : Int)).toNat) then setAtD (rowF iF 0 ((y :: A).reverse ++ [l[i]] ++ B ++ l.drop (i + 1)) k) 0 [.int .i64 (((y :: A).reverse ++ [l[i]] ++ B ++ l.drop (i + 1)).getD ((((y :: A).length : Int) - 1).toNat) 0)] else rowF iF 0 ((y :: A).reverse ++ [l[i]] ++ B ++ l.drop (i + 1)) k) (fun k hk => e1 k (by simpa using hk)) (fun z _ => by rw [g1]; rfl)
         exact e2 k (by simpa using hk)
     · simp only [decide_eq_false_iff_not] at h3
       conv => whnf
       refine ⟨by unfold inI64; omega, ?_⟩
       conv => whnf
       refine ⟨(i + 1, (y :: A).reverse ++ [l[i]] ++ B ++ l.drop (i + 1)), ⟨by simp only; omega, by simp only; omega, ?_⟩, by simp only; omega, ?_⟩
       · simp only
         rw [take_snoc hi, isortR_snoc, q1]; simp [insR, h3]
       · exact Entails.mk' [(1000001, 1000001), (1000002, 1000002), (1000003, 1000003), (1000004, 1000004)] rfl rfl ⟨lr, lr, lr, lr, lr, trivial⟩ ⟨rr, rr, rr, rr, trivial⟩
   · conv => whnf
     refine ⟨by unfold inI64; omega, ?_⟩
     conv => whnf
     have hA : A = [] := by cases A <;> simp at h2 ⊢
     subst hA
     refine ⟨(i + 1, [].reverse ++ [l[i]] ++ B ++ l.drop (i + 1)), ⟨by simp only; omega, by simp only; omega, ?_⟩, by simp only; omega, ?_⟩
     · simp only
       rw [take_snoc hi, isortR_snoc, q1]; simp [insR]
     · exact Entails.mk' [(1000001, 1000001), (1000002, 1000002), (1000003, 1000003), (1000004, 1000004)] rfl rfl ⟨lr, lr, lr, lr, lr, trivial⟩ ⟨rr, rr, rr, rr, trivial⟩
 · conv => whnf
   have e1 : c = isort cmp l := by
    simp only [decide_eq_false_iff_not] at h
    rw [p3, List.take_of_length_le (by omega), List.drop_eq_nil_iff.2 (by omega), List.append_nil]; rfl
   refine .ret _ ?_
   conv => whnf
   subst e1
   exact ⟨_, ⟨rfl, rfl⟩, rr, rr, rr, rr, trivial⟩
def oTCoE166_1 : List (Nat × List Nat) := [(0, []), (1, [0]), (2, [0, 1]), (3, [0]), (4, [0]), (5, []), (6, [0, 1, 2, 3, 4, 5]), (7, []), (8, [0, 1, 2, 3, 4, 5, 6, 7]), (9, [0, 1, 2, 3, 4, 5, 6, 7, 8]), (10, [0, 1, 2, 3, 4, 5, 6, 7, 8, 9]), (11, [0, 1, 2, 3, 4, 5, 6, 7, 8]), (12, [0, 1, 2, 3, 4, 5, 6, 7, 8]), (13, [0, 1, 2, 3, 4, 5, 6, 7]), (14, [0, 1, 2, 3, 4, 5, 6, 7, 8, 9, 10, 11, 12, 13]), (15, [0, 1, 2, 3, 4, 5, 6, 7]), (16, []), (17, [])]
theorem s207 (g : FuncId) (x1 x2 x3 : DV) (e1 e2 e3 : TypeId) (cmp : Int → Int → Int) (l : List Int) (hl : l.length < 20)
 (hcmp : ∀ p q, p ∈ l → q ∈ l → FSpec Tryz.prog g [.d (.int .i64 p), .d (.int .i64 q), .ptr 1000002 0, .ptr 1000003 0, .ptr 1000004 0] (cap3 (.d x1) (.d x2) (.d x3) e1 e2 e3)
   (fun y r => y = .d (.int .i64 (cmp p q)) ∧ r = cap3 (.d x1) (.d x2) (.d x3) e1 e2 e3)) :
 FSpec Tryz.prog 184 [.buf 1000001, .d (.int .i64 l.length), .fn g [.ptr 1000002 0, .ptr 1000003 0, .ptr 1000004 0]] ((1000001, seqB 3 1 iF 0 l) :: cap3 (.d x1) (.d x2) (.d x3) e1 e2 e3)
  (fun y r => y = .tup [] ∧ r = (1000001, seqB 3 1 iF 0 (isort cmp l)) :: cap3 (.d x1) (.d x2) (.d x3) e1 e2 e3) := by
 refine spec_of hT (C := []) Tryz.func184 rfl Tryz.call184 rfl rfl rfl ?_
 conv => whnf
 refine LoopX.unroll hT (C := []) (fun _ _ h => h) (fun _ h => h) ?_
 conv => whnf
 refine br_intro (fun h => ?_) (fun h => ?_)
 · simp at h; omega
 conv => whnf
 refine CallX.of (s228 g x1 x2 x3 e1 e2 e3 cmp l (by omega) hcmp) [(1000001, 1000001), (1000002, 1000002), (1000003, 1000003), (1000004, 1000004)] rfl ⟨lr, lr, lr, lr, trivial⟩ ⟨rr, rr, rr, rr, trivial⟩ rfl rfl ?_
 rintro x rout ⟨rfl, rfl⟩
 refine ⟨rfl, ?_⟩
 conv => whnf
 refine LoopX.unroll hT (C := []) (fun _ _ h => h) (fun _ h => h) ?_
 conv => whnf
 refine br_intro (fun h => ?_) (fun h => ?_)
 · simp at h; omega
 conv => whnf
 refine .ret _ ?_
 conv => whnf
 exact ⟨_, ⟨rfl, rfl⟩, rr, rr, rr, rr, trivial⟩
theorem s173 (g : FuncId) (x1 x2 x3 : DV) (e1 e2 e3 : TypeId) (cmp : Int → Int → Int) (l : List Int) (hl : l.length < 20)
 (hcmp : ∀ p q, p ∈ l → q ∈ l → FSpec Tryz.prog g [.d (.int .i64 p), .d (.int .i64 q), .ptr 1000002 0, .ptr 1000003 0, .ptr 1000004 0] (cap3 (.d x1) (.d x2) (.d x3) e1 e2 e3)
   (fun y r => y = .d (.int .i64 (cmp p q)) ∧ r = cap3 (.d x1) (.d x2) (.d x3) e1 e2 e3)) :
 FSpec Tryz.prog 129 [.buf 1000001, .fn g [.ptr 1000002 0, .ptr 1000003 0, .ptr 1000004 0]] ((1000001, seqB 3 1 iF 0 l) :: cap3 (.d x1) (.d x2) (.d x3) e1 e2 e3)
  (fun y r => y = .tup [] ∧ r = (1000001, seqB 3 1 iF 0 (isort cmp l)) :: cap3 (.d x1) (.d x2) (.d x3) e1 e2 e3) := by
 refine spec_of hT (C := []) Tryz.func129 rfl Tryz.call129 rfl rfl rfl ?_
 conv => whnf
 refine CallX.of (s207 g x1 x2 x3 e1 e2 e3 cmp l (by omega) hcmp) [(1000001, 1000001), (1000002, 1000002), (1000003, 1000003), (1000004, 1000004)] rfl ⟨lr, lr, lr, trivial⟩ ⟨rr, rr, rr, rr, trivial⟩ rfl rfl ?_
 rintro x rout ⟨rfl, rfl⟩
 refine ⟨rfl, ?_⟩
 conv => whnf
 refine .ret _ ?_
 conv => whnf
 exact ⟨_, ⟨rfl, rfl⟩, rr, rr, rr, rr, trivial⟩
theorem s174 (c s : Int) (w : List Int) (hc : 0 ≤ c ∧ c ≤ 1000000000) (hw : ∀ x ∈ w, 0 ≤ x ∧ x ≤ 5761440) (hs : 0 < s) (hs2 : s ≤ 2^40) (p q : Nat) (hp : p < w.length) (hq : q < w.length) :
 FSpec Tryz.prog 166 [.d (.int .i64 p), .d (.int .i64 q), .ptr 1000002 0, .ptr 1000003 0, .ptr 1000004 0] (cap3 (.d (.int .i64 c)) (.d (ints w)) (.d (.int .i64 s)) 3 22 3)
  (fun y r => y = .d (.int .i64 ((c * w.getD q 0).tmod s - (c * w.getD p 0).tmod s)) ∧ r = cap3 (.d (.int .i64 c)) (.d (ints w)) (.d (.int .i64 s)) 3 22 3) := by
 refine spec_of hT (C := []) Tryz.func166 rfl Tryz.call166 rfl rfl rfl ?_
 conv => whnf
 have bd : ∀ i : Nat, i < w.length → 0 ≤ c * w.getD (i : Int).toNat 0 ∧ c * w.getD (i : Int).toNat 0 ≤ 1000000000 * 5761440 := fun i hi => by
  rw [getD_toNat hi]
  have := hw _ (List.getElem_mem hi)
  exact ⟨Int.mul_nonneg hc.1 this.1, Int.mul_le_mul hc.2 this.2 this.1 (by omega)⟩
 have bp := bd p hp
 have bq := bd q hq
 have tp := Int.tmod_nonneg s bp.1
 have tq := Int.tmod_nonneg s bq.1
 have tp2 := Int.tmod_lt_of_pos (c * w.getD (p : Int).toNat 0) hs
 have tq2 := Int.tmod_lt_of_pos (c * w.getD (q : Int).toNat 0) hs
 refine RegX.rule hT rfl [] oTCoE166_1 (by decide +kernel) ?_
 conv => whnf
 repeat (refine And.intro (by (try unfold inI64); (try dsimp only); (try simp only [List.length_cons, List.length_append, List.length_singleton, List.length_nil]); omega) ?_; conv => whnf)
 refine .ret _ ?_
 conv => whnf
 exact ⟨_, ⟨rfl, rfl⟩, rr, rr, rr, trivial⟩
def oTCoF98_7 : List (Nat × List Nat) := [(0, []), (1, []), (2, []), (3, [0, 1, 2]), (4, [0, 1, 2]), (5, [0, 1, 2]), (6, [3, 4, 5]), (7, [])]
def fillL (g : Nat → Int) (n i : Nat) : List Int := (List.range n).map fun j => if j < i then g j else 0
theorem fillL_length (g : Nat → Int) (n i : Nat) : (fillL g n i).length = n := by simp [fillL]
theorem fillL_get {g : Nat → Int} {n i j : Nat} (h : j < n) : (fillL g n i)[j]'(by rw [fillL_length]; exact h) = if j < i then g j else 0 := by simp [fillL]
theorem fillL_zero {e : Nat} {g : Nat → Int} {n m : Nat} {get : Nat → List DV} (hm : m = n) (hg : ∀ i, get i = iF 0) : Res.le (.buf e 1 m get) (seqB e 1 iF 0 (fillL g n 0)) :=
 Res.le_buf (by rw [fillL_length, hm]) (fun i hi => by rw [rowF_lt (by rw [fillL_length]; omega), hg i, fillL_get (by omega)]; simp)
theorem fillL_set (g : Nat → Int) (n i : Nat) : (fillL g n i).set i (g i) = fillL g n (i + 1) := by
 apply List.ext_getElem
 · simp [fillL]
 · intro j h1 h2
   simp only [fillL, List.getElem_set, List.getElem_map, List.getElem_range]
   by_cases e : i = j
   · subst e; simp
   · by_cases q : j < i
     · have : j < i + 1 := by omega
       simp [e, q, this]
     · have : ¬ j < i + 1 := by omega
       simp [e, q, this]
def leftL (c : Int) (g : Nat → Int) (i : Nat) : Int := c - ((List.range i).map g).sum
theorem leftL_succ (c : Int) (g : Nat → Int) (i : Nat) : leftL c g (i + 1) = leftL c g i - g i := by
 simp [leftL, List.range_succ, List.sum_append]; omega
def partG (c : Int) (w : List Int) (j : Nat) : Int := (c * w.getD j 0).tdiv w.sum
def cmpG (c : Int) (w : List Int) (p q : Int) : Int := (c * w.getD q.toNat 0).tmod w.sum - (c * w.getD p.toNat 0).tmod w.sum
def orderG (c : Int) (w : List Int) : List Int := isort (cmpG c w) (fillL (fun j => (j : Int)) w.length w.length)
def incL (P : List Int) (js : List Int) : List Int := js.foldl (fun P j => P.set j.toNat (P.getD j.toNat 0 + 1)) P
def splitG (c : Int) (w : List Int) : List Int := incL (fillL (partG c w) w.length w.length) ((orderG c w).take (leftL c (partG c w) w.length).toNat)
theorem incL_snoc (P : List Int) (js : List Int) (j : Int) : incL P (js ++ [j]) = (incL P js).set j.toNat ((incL P js).getD j.toNat 0 + 1) := by simp [incL]
theorem sum_nonneg {l : List Int} (h : ∀ x ∈ l, 0 ≤ x) : 0 ≤ l.sum := by
 induction l with
 | nil => simp
 | cons x l ih => rw [List.sum_cons]; have := h x (by simp); have := ih (fun y hy => h y (by simp [hy])); omega
theorem sum_le {l : List Int} {b : Int} (h : ∀ x ∈ l, x ≤ b) : l.sum ≤ b * l.length := by
 induction l with
 | nil => simp
 | cons x l ih => rw [List.sum_cons]; have := h x (by simp); have := ih (fun y hy => h y (by simp [hy])); simp only [List.length_cons]; rw [show b * ((l.length + 1 : Nat) : Int) = b * l.length + b by push_cast; rw [Int.mul_add, Int.mul_one]]; omega
theorem s120 (c : Int) (w : List Int) (hc : 0 ≤ c ∧ c ≤ 1000000000) (hw : ∀ x ∈ w, 0 ≤ x ∧ x ≤ 5761440) (hn : w.length < 20) (hs : w.sum ≠ 0) (hleft : 0 ≤ leftL c (partG c w) w.length ∧ leftL c (partG c w) w.length ≤ w.length) :
 FSpec Tryz.prog 98 [.d (.int .i64 c), .d (ints w)] [] (fun y r => y = .d (ints (splitG c w)) ∧ r = []) := by
 have hs0 : 0 ≤ w.sum := sum_nonneg fun x hx => (hw x hx).1
 have hs1 : w.sum ≤ 5761440 * w.length := sum_le fun x hx => (hw x hx).2
 refine spec_of hT (C := []) Tryz.func98 rfl Tryz.call98 rfl rfl rfl ?_
 conv => whnf
 refine LoopX.rule hT (C := []) (ι := Nat) (fun i => i ≤ w.length) (fun i => mkSt [(2, .ptr 2 0), (3, .ptr 3 0), (5, .ptr 5 0), (15, .d (ints w)), (16, .d (.int .i64 w.length)), (17, .d (.int .i64 i))]
  [(2, .cells 3 [.d (.int .i64 c)]), (3, .cells 22 [.d (ints w)]), (5, .cells 3 [.d (.int .i64 (w.take i).sum)])]) (fun i => w.length - i) 0 (by omega) ?_ ?_
 · exact Entails.mk' [(2, 2), (3, 3), (5, 5)] rfl rfl ⟨lr, lr, lr, lr, lr, lr, trivial⟩ ⟨rr, rr, rr, trivial⟩
 intro i p1
 conv => whnf
 refine br_intro (fun h => ?_) (fun h => ?_)
 · simp only [decide_eq_true_eq] at h
   have hi : i < w.length := by omega
   have b1 := hw _ (List.getElem_mem hi)
   have b2 : 0 ≤ (w.take i).sum := sum_nonneg fun x hx => (hw x (List.mem_of_mem_take hx)).1
   have b3 : (w.take i).sum ≤ 5761440 * (w.take i).length := sum_le fun x hx => (hw x (List.mem_of_mem_take hx)).2
   have b4 : (w.take i).length = i := by simp; omega
   have b5 : w.getD (i : Int).toNat 0 = w[i] := getD_toNat hi
   conv => whnf
   repeat (refine And.intro (by (try unfold inI64); (try dsimp only); (try simp only [List.length_cons, List.length_append, List.length_singleton, List.length_nil]); omega) ?_; conv => whnf)
   refine ⟨i + 1, hi, by omega, ?_⟩
   refine Entails.mk' [(2, 2), (3, 3), (5, 5)] rfl rfl ⟨lr, lr, lr, lr, lr, lr, trivial⟩ ⟨rr, rr, ?_, trivial⟩
   show Res.le (.cells 3 [.d (.int .i64 ((w.take i).sum + w.getD (i : Int).toNat 0))]) (.cells 3 [.d (.int .i64 (w.take (i + 1)).sum)])
   rw [b5, sum_take hi]; exact rr
 simp only [decide_eq_false_iff_not] at h
 have e1 : i = w.length := by omega
 subst e1
 rw [List.take_length]
 conv => whnf
 refine RegX.rule hT rfl [] oTCoF98_7 (by decide +kernel) ?_
 conv => whnf
 refine And.intro ⟨by omega, by omega, by show (8:Int) * w.length ≤ _; omega, by omega⟩ ?_
 conv => whnf
 refine And.intro ⟨by omega, by omega, by show (8:Int) * w.length ≤ _; omega, by omega⟩ ?_
 conv => whnf
 have hg0 : ∀ j, j < w.length → 0 ≤ c * w.getD j 0 ∧ c * w.getD j 0 ≤ 1000000000 * 5761440 := fun j hj => by
  have := hw _ (getD_mem (x := (0 : Int)) hj)
  exact ⟨Int.mul_nonneg hc.1 this.1, Int.mul_le_mul hc.2 this.2 this.1 (by omega)⟩
 have hg1 : ∀ j, j < w.length → 0 ≤ partG c w j ∧ partG c w j ≤ 1000000000 * 5761440 := fun j hj => by
  have := hg0 j hj
  exact ⟨Int.tdiv_nonneg this.1 hs0, Int.le_trans (Int.tdiv_le_self _ this.1) this.2⟩
 have hl1 : ∀ i, i ≤ w.length → c - 1000000000 * 5761440 * i ≤ leftL c (partG c w) i ∧ leftL c (partG c w) i ≤ c := fun i => by
  induction i with
  | zero => intro _; simp [leftL]
  | succ i ih => intro hi; have := ih (by omega); have := hg1 i (by omega); rw [leftL_succ]; omega
 refine LoopX.rule hT (C := []) (ι := Nat) (fun i => i ≤ w.length) (fun i => mkSt [(2, .ptr 2 0), (3, .ptr 3 0), (5, .ptr 5 0), (8, .buf 27), (9, .buf 30), (10, .d (.int .i64 (leftL c (partG c w) i))), (32, .d (ints w)), (33, .d (.int .i64 w.length)), (34, .d (.int .i64 i))]
  [(2, .cells 3 [.d (.int .i64 c)]), (3, .cells 22 [.d (ints w)]), (5, .cells 3 [.d (.int .i64 w.sum)]), (27, seqB 3 1 iF 0 (fillL (partG c w) w.length i)), (30, seqB 3 1 iF 0 (fillL (fun j => (j : Int)) w.length i))]) (fun i => w.length - i) 0 (by omega) ?_ ?_
 · exact Entails.mk' [(2, 2), (3, 3), (5, 5), (27, 27), (30, 30)] rfl rfl ⟨lr, lr, lr, lr, lr, SV.le_int (by simp [leftL]), lr, lr, lr, trivial⟩
    ⟨rr, rr, rr, fillL_zero (by rfl) (fun _ => rfl), fillL_zero (by rfl) (fun _ => rfl), trivial⟩
 clear p1 h
 intro i p1
 conv => whnf
 refine br_intro (fun h => ?_) (fun h => ?_)
 · simp only [decide_eq_true_eq] at h
   have hi : i < w.length := by omega
   have b0 := hg0 i hi
   have b1 := hg1 i hi
   have b2 := hl1 i p1
   have e1 : (i : Int).toNat = i := Int.toNat_natCast i
   have l1 := fillL_length (partG c w) w.length i
   have l2 := fillL_length (fun j => (j : Int)) w.length i
   conv => whnf
   repeat (refine And.intro (by (try unfold inI64); (try dsimp only); (try simp only [e1, l1, l2, List.length_cons, List.length_append, List.length_singleton, List.length_nil]); omega) ?_; conv => whnf)
   refine And.intro (by show inI64 (partG c w i); unfold inI64; omega) ?_
   conv => whnf
   repeat (refine And.intro (by (try unfold inI64); (try dsimp only); (try simp only [e1, l1, l2, List.length_cons, List.length_append, List.length_singleton, List.length_nil]); omega) ?_; conv => whnf)
   simp only [e1, Nat.beq_refl, cond_true]
   conv => whnf
   refine And.intro (by show inI64 (leftL c (partG c w) i - partG c w i); unfold inI64; omega) ?_
   conv => whnf
   refine And.intro (by unfold inI64; omega) ?_
   conv => whnf
   refine ⟨i + 1, hi, by omega, ?_⟩
   have r1 : Res.le (.buf 3 1 (fillL (partG c w) w.length i).length fun j => bif Nat.beq j i then setAtD (rowF iF 0 (fillL (partG c w) w.length i) j) 0 [.int .i64 (partG c w i)] else rowF iF 0 (fillL (partG c w) w.length i) j) (seqB 3 1 iF 0 (fillL (partG c w) w.length (i + 1))) := by
    rw [← fillL_set]; exact Res.le_putF (fun _ _ => rfl)
   have r2 : Res.le (.buf 3 1 (fillL (fun j => (j : Int)) w.length i).length fun j => bif Nat.beq j i then setAtD (rowF iF 0 (fillL (fun j => (j : Int)) w.length i) j) 0 [.int .i64 (i : Int)] else rowF iF 0 (fillL (fun j => (j : Int)) w.length i) j) (seqB 3 1 iF 0 (fillL (fun j => (j : Int)) w.length (i + 1))) := by
    rw [← fillL_set]; exact Res.le_putF (fun _ _ => rfl)
   exact Entails.mk' [(2, 2), (3, 3), (5, 5), (27, 27), (30, 30)] rfl rfl ⟨lr, lr, lr, lr, lr, SV.le_int (leftL_succ c (partG c w) i).symm, lr, lr, lr, trivial⟩
    ⟨rr, rr, rr, r1, r2, trivial⟩
 simp only [decide_eq_false_iff_not] at h
 have e1 : i = w.length := by omega
 subst e1
 conv => whnf
 have hlen : (fillL (fun j => (j : Int)) w.length w.length).length = w.length := fillL_length _ _ _
 have hmemo : ∀ p, p ∈ fillL (fun j => (j : Int)) w.length w.length → ∃ j : Nat, p = j ∧ j < w.length := fun p hp => by
  simp only [fillL, List.mem_map, List.mem_range] at hp
  obtain ⟨j, hj, rfl⟩ := hp
  exact ⟨j, by simp [hj], hj⟩
 refine CallX.of (s173 166 (.int .i64 c) (ints w) (.int .i64 w.sum) 3 22 3 (cmpG c w) (fillL (fun j => (j : Int)) w.length w.length) (by omega) (fun p q hp hq => by
  obtain ⟨j, rfl, hj⟩ := hmemo p hp
  obtain ⟨k, rfl, hk⟩ := hmemo q hq
  exact s174 c w.sum w hc hw (by omega) (by omega) j k hj hk)) [(1000001, 30), (1000002, 2), (1000003, 3), (1000004, 5)] rfl ⟨lr, lr, trivial⟩ ⟨rr, rr, rr, rr, trivial⟩ rfl rfl ?_
 rintro x rout ⟨rfl, rfl⟩
 refine ⟨rfl, ?_⟩
 conv => whnf
 have hol : (orderG c w).length = w.length := by unfold orderG isort; rw [List.length_reverse, isortR_length, fillL_length]
 refine SliceX.freeze _ _ _ _ rfl ?_
 conv => whnf
 refine And.intro ⟨by omega, hleft.1, by show _ ≤ ((orderG c w).length : Int); rw [hol]; exact hleft.2⟩ ?_
 conv => whnf
 obtain ⟨idx, hidx⟩ : ∃ idx, idx = (orderG c w).take (leftL c (partG c w) w.length).toNat := ⟨_, rfl⟩
 have hil : idx.length = (leftL c (partG c w) w.length).toNat := by rw [hidx, List.length_take, hol]; omega
 have him : ∀ p ∈ idx, ∃ j : Nat, p = j ∧ j < w.length := fun p hp => by
  rw [hidx] at hp
  have := List.mem_of_mem_take hp
  unfold orderG isort at this
  rw [List.mem_reverse, isortR_mem] at this
  exact hmemo p this
 refine LoopX.rule hT (C := []) (ι := Nat × List Int) (fun p => p.1 ≤ idx.length ∧ p.2 = incL (fillL (partG c w) w.length w.length) (idx.take p.1) ∧ p.2.length = w.length ∧ (∀ x ∈ p.2, 0 ≤ x ∧ x ≤ 1000000000 * 5761440 + p.1))
  (fun p => mkSt [(8, .buf 27), (63, .d (ints idx)), (64, .d (.int .i64 idx.length)), (65, .d (.int .i64 p.1))] [(27, seqB 3 1 iF 0 p.2)]) (fun p => idx.length - p.1) (0, fillL (partG c w) w.length w.length) ⟨by simp, by simp [incL], fillL_length _ _ _, ?_⟩ ?_ ?_
 · intro x hx
   simp only [fillL, List.mem_map, List.mem_range] at hx
   obtain ⟨j, hj, rfl⟩ := hx
   have := hg1 j hj
   simp [hj]; omega
 · refine Entails.mk' [(27, 27)] rfl rfl ⟨lr, SV.le_ro ?_ (fun i hi => ?_), SV.le_int ?_, lr, trivial⟩ ⟨rr, trivial⟩
   · rw [hil]; omega
   · change rowF iF 0 (orderG c w) (Int.toNat 0 + i) = _
     rw [rowF_lt (show Int.toNat 0 + i < (orderG c w).length by simp only [Int.toNat_zero]; omega), rowF_lt (show i < idx.length by omega)]
     subst hidx
     simp [orderG]
   · rw [hil]; omega
 rintro ⟨i, P⟩ ⟨p1, p2, p3, p4⟩
 simp only at p1 p2 p3 p4
 conv => whnf
 refine br_intro (fun h => ?_) (fun h => ?_)
 · simp only [decide_eq_true_eq] at h
   have hi : i < idx.length := by omega
   obtain ⟨j, hj, hjw⟩ := him _ (List.getElem_mem hi)
   have e0 : (i : Int).toNat = i := Int.toNat_natCast i
   have e1 : idx.getD (i : Int).toNat 0 = j := by rw [getD_toNat hi, hj]
   have e2 : (j : Int).toNat = j := Int.toNat_natCast j
   conv => whnf
   repeat (refine And.intro (by (try unfold inI64); (try dsimp only); (try simp only [e1, e2, List.length_cons, List.length_append, List.length_singleton, List.length_nil]); omega) ?_; conv => whnf)
   have hjP : j < P.length := by omega
   have bP := p4 _ (getD_mem (x := (0 : Int)) hjP)
   refine And.intro (by simp only [e1, e2]; unfold inI64; omega) ?_
   conv => whnf
   repeat (refine And.intro (by (try unfold inI64); (try dsimp only); (try simp only [e1, e2, List.length_cons, List.length_append, List.length_singleton, List.length_nil]); omega) ?_; conv => whnf)
   refine ⟨(i + 1, P.set j (P.getD j 0 + 1)), ⟨hi, ?_, by simp only [List.length_set]; exact p3, ?_⟩, by simp only; omega, ?_⟩
   · simp only
     rw [take_snoc hi, incL_snoc, ← p2, hj, e2]
   · simp only
     intro x hx
     rcases List.mem_or_eq_of_mem_set hx with q | q
     · have := p4 x q; omega
     · subst q; omega
   · have r1 : Res.le (.buf 3 1 P.length fun k => bif Nat.beq k (idx.getD (i : Int).toNat 0).toNat then setAtD (rowF iF 0 P k) 0 [.int .i64 (P.getD (idx.getD (i : Int).toNat 0).toNat 0 + 1)] else rowF iF 0 P k) (seqB 3 1 iF 0 (P.set j (P.getD j 0 + 1))) := by
      rw [e1, e2]; exact Res.le_putF (fun _ _ => rfl)
     exact Entails.mk' [(27, 27)] rfl rfl ⟨lr, lr, lr, lr, trivial⟩ ⟨r1, trivial⟩
 simp only [decide_eq_false_iff_not] at h
 have e1 : i = idx.length := by omega
 subst e1
 conv => whnf
 rw [List.take_length, hidx] at p2
 refine .freeze _ 27 3 1 _ _ rfl ?_
 refine .ret _ ?_
 conv => whnf
 refine ⟨[], ⟨?_, rfl⟩, trivial⟩
 conv => lhs; whnf
 show SV.d (ints P) = SV.d (ints (splitG c w))
 rw [p2]; rfl
theorem left_sum (c : Int) (w : List Int) (hc : 0 ≤ c) (hw : ∀ x ∈ w, 0 ≤ x) (hs : 0 < w.sum) : ∀ i, i ≤ w.length → ∃ R, 0 ≤ R ∧ R ≤ w.sum * i ∧ w.sum * ((List.range i).map (partG c w)).sum + R = c * (w.take i).sum := by
 intro i
 induction i with
 | zero => intro _; exact ⟨0, by omega, by simp, by simp⟩
 | succ i ih =>
   intro hi
   obtain ⟨R, h1, h2, h3⟩ := ih (by omega)
   have hx : w.getD i 0 = w[i] := by rw [List.getD_eq_getElem?_getD]; simp [show i < w.length by omega]
   have h4 := Int.tmod_add_mul_tdiv (c * w[i]) w.sum
   have h5 : 0 ≤ c * w[i] := Int.mul_nonneg hc (hw _ (List.getElem_mem _))
   have h6 := Int.tmod_nonneg w.sum h5
   have h7 := Int.tmod_lt_of_pos (c * w[i]) hs
   refine ⟨R + (c * w[i]).tmod w.sum, by omega, ?_, ?_⟩
   · rw [show ((i + 1 : Nat) : Int) = (i : Int) + 1 by push_cast; rfl, Int.mul_add, Int.mul_one]; omega
   · rw [sum_take (show i < w.length by omega), Int.mul_add, ← h3, List.range_succ, List.map_append, List.sum_append, List.map_singleton, List.sum_singleton, Int.mul_add]
     have : partG c w i = (c * w[i]).tdiv w.sum := by unfold partG; rw [hx]
     rw [this]; omega
theorem left_bound (c : Int) (w : List Int) (hc : 0 ≤ c) (hw : ∀ x ∈ w, 0 ≤ x) (hs : 0 < w.sum) : 0 ≤ leftL c (partG c w) w.length ∧ leftL c (partG c w) w.length ≤ w.length := by
 obtain ⟨R, h1, h2, h3⟩ := left_sum c w hc hw hs w.length (Nat.le_refl _)
 rw [List.take_length] at h3
 have e : w.sum * leftL c (partG c w) w.length = R := by
  unfold leftL
  rw [Int.mul_sub, Int.mul_comm w.sum c]; omega
 constructor
 · refine Int.not_lt.1 fun h => ?_
   have := Int.mul_neg_of_pos_of_neg hs h
   omega
 · exact Int.le_of_mul_le_mul_left (by rw [e]; exact h2) hs
theorem s35 (c : Int) (w : List Int) (hn : w.length < 20) : FSpec Tryz.prog 108 [.d (.int .i64 c), .d (ints w)] []
 (fun y r => y = .tup [.d (if splitF c w = 0 then ints (splitG c w) else .nilsl), .d (.int .i64 (splitF c w))] ∧ r = []) := by
 refine spec_of hT (C := []) Tryz.func108 rfl Tryz.call108 rfl rfl rfl ?_
 conv => whnf
 refine CallX.pure (s119 _ _ _) ⟨lr, lr, lr, trivial⟩ rfl ?_
 conv => whnf
 refine CallX.pure (s107 _ _) ⟨lr, lr, trivial⟩ rfl ?_
 conv => whnf
 refine CallX.pure (s107 _ _) ⟨lr, lr, trivial⟩ rfl ?_
 conv => whnf
 refine CallX.pure (s105 [_, _] (by simp)) ⟨SV.le_lit (by rfl) (by rfl), trivial⟩ rfl ?_
 have hnl : ¬ (50 < w.length) := by omega
 generalize he : firstE _ = e
 have he2 : e = if 0 ≤ c ∧ c ≤ 1000000000 then 0 else 1 := by
  rw [← he]
  simp only [firstE]
  by_cases h : 0 ≤ c ∧ c ≤ 1000000000 <;> simp [h] <;> omega
 conv => whnf
 refine br_intro (fun h => ?_) (fun h => ?_)
 · simp at h
   conv => whnf
   refine .ret _ ?_
   conv => whnf
   refine ⟨[], ⟨?_, rfl⟩, trivial⟩
   show SV.tup [.d .nilsl, .d (.int .i64 e)] = _
   have hc : ¬ (0 ≤ c ∧ c ≤ 1000000000) := fun q => h (by rw [he2, if_pos q])
   rw [if_neg hc] at he2
   have : splitF c w = 1 := by simp only [splitF]; rw [if_pos hc]
   rw [this, he2]; rfl
 simp at h
 have hc : 0 ≤ c ∧ c ≤ 1000000000 := Classical.byContradiction fun q => by rw [if_neg q] at he2; omega
 conv => whnf
 refine LoopX.rule hT (C := []) (ι := Nat) (fun i => i ≤ w.length ∧ (∀ x ∈ w.take i, 0 ≤ x ∧ x ≤ 5761440)) (fun i => mkSt [(0, .d (.int .i64 c)), (1, .d (ints w)), (7, .d (.int .i64 (w.take i).sum)), (23, .d (ints w)), (24, .d (.int .i64 w.length)), (25, .d (.int .i64 i))] []) (fun i => w.length - i) 0 ⟨by omega, by simp⟩ ?_ ?_
 · refine Entails.mk' [] rfl rfl ⟨lr, lr, lr, lr, lr, lr, trivial⟩ trivial
 rintro i ⟨p1, p2⟩
 conv => whnf
 refine br_intro (fun h => ?_) (fun h => ?_)
 · simp only [decide_eq_true_eq] at h
   have hi : i < w.length := by omega
   have b2 : 0 ≤ (w.take i).sum := sum_nonneg fun x hx => (p2 x hx).1
   have b3 : (w.take i).sum ≤ 5761440 * (w.take i).length := sum_le fun x hx => (p2 x hx).2
   have b4 : (w.take i).length = i := by simp; omega
   conv => whnf
   repeat (refine And.intro (by (try unfold inI64); (try dsimp only); (try simp only [List.length_cons, List.length_append, List.length_singleton, List.length_nil]); omega) ?_; conv => whnf)
   refine CallX.pure (s119 _ _ _) ⟨lr, lr, lr, trivial⟩ rfl ?_
   rw [getD_toNat hi]
   conv => whnf
   refine br_intro (fun h2 => ?_) (fun h2 => ?_)
   · conv => whnf
     refine .ret _ ?_
     conv => whnf
     refine ⟨[], ⟨?_, rfl⟩, trivial⟩
     show SV.tup [.d .nilsl, .d (.int .i64 1)] = _
     have : splitF c w = 1 := by
      simp only [splitF]
      rw [if_neg (by omega), if_neg hnl, if_pos]
      rw [List.any_eq_true]
      exact ⟨w[i], List.getElem_mem hi, h2⟩
     rw [this]; rfl
   · simp at h2
     conv => whnf
     repeat (refine And.intro (by (try unfold inI64); (try dsimp only); (try simp only [List.length_cons, List.length_append, List.length_singleton, List.length_nil]); omega) ?_; conv => whnf)
     refine ⟨i + 1, ⟨hi, fun x hx => ?_⟩, by omega, ?_⟩
     · rw [← List.take_append_getElem hi] at hx
       rcases List.mem_append.1 hx with q | q
       · exact p2 x q
       · simp at q; subst q; omega
     · exact Entails.mk' [] rfl rfl ⟨lr, lr, SV.le_int (sum_take hi).symm, lr, lr, lr, trivial⟩ trivial
 simp only [decide_eq_false_iff_not] at h
 have e1 : i = w.length := by omega
 subst e1
 rw [List.take_length] at p2 ⊢
 have hany : w.any (fun x => !decide (0 ≤ x ∧ x ≤ 5761440)) = false := by
  rw [List.any_eq_false]; intro x hx; have := p2 x hx; simp; omega
 conv => whnf
 refine br_intro (fun h2 => ?_) (fun h2 => ?_)
 · conv => whnf
   refine .ret _ ?_
   conv => whnf
   refine ⟨[], ⟨?_, rfl⟩, trivial⟩
   show SV.tup [.d .nilsl, .d (.int .i64 8)] = _
   simp at h2
   have : splitF c w = 8 := by
    simp only [splitF]
    rw [if_neg (by omega), if_neg hnl, hany, if_neg (by simp), if_pos h2]
   rw [this]; rfl
 · simp at h2
   have hs0 : 0 ≤ w.sum := sum_nonneg fun x hx => (p2 x hx).1
   conv => whnf
   refine CallX.pure (s120 c w hc p2 hn h2 (left_bound c w hc.1 (fun x hx => (p2 x hx).1) (by omega))) ⟨lr, lr, trivial⟩ rfl ?_
   conv => whnf
   refine .ret _ ?_
   conv => whnf
   refine ⟨[], ⟨?_, rfl⟩, trivial⟩
   show SV.tup [.d (ints (splitG c w)), .d (.int .i64 0)] = _
   have : splitF c w = 0 := by
    simp only [splitF]
    rw [if_neg (by omega), if_neg hnl, hany, if_neg (by simp), if_neg h2]
   rw [this]; rfl
section
variable {α : Type} (cmp : α → α → Int)
theorem insR_perm (x : α) : ∀ l : List α, (insR cmp x l).Perm (x :: l) := by
 intro l
 induction l with
 | nil => exact .refl _
 | cons y r ih =>
   simp only [insR]
   split
   · exact (ih.cons y).trans (.swap x y r)
   · exact .refl _
theorem isortR_perm (l : List α) : (isortR cmp l).Perm l := by
 have : ∀ (l acc : List α), (l.foldl (fun acc x => insR cmp x acc) acc).Perm (l ++ acc) := by
  intro l
  induction l with
  | nil => intro acc; exact .refl _
  | cons x l ih =>
    intro acc
    rw [List.foldl_cons]
    refine (ih _).trans (((insR_perm cmp x acc).append_left l).trans ?_)
    exact List.perm_middle
 have h := this l []
 rw [List.append_nil] at h
 exact h
theorem isort_perm (l : List α) : (isort cmp l).Perm l := (List.reverse_perm _).trans (isortR_perm cmp l)
variable (R : α → α → Prop) (tr : ∀ a b c, R a b → R b c → R a c)
include tr in
include tr in
end
theorem all_step {p : Nat → Prop} {i : Nat} (h : ∀ j, j < i → p j) (h1 : p i) : ∀ j, j < i + 1 → p j := fun j hj => by
 rcases Nat.lt_or_ge j i with q | q
 · exact h j q
 · have : j = i := by omega
   subst this; exact h1
theorem splitF_31 : splitF 3 [1, 1] = 0 := by decide +kernel
theorem splitG_31 : splitG 3 [1, 1] = [2, 1] := by decide +kernel
def oTCoW180_1 : List (Nat × List Nat) := [(0, []), (1, []), (2, [0, 1]), (3, [0, 1]), (5, [0, 1, 2, 3]), (6, [0, 1, 2, 3]), (7, [0, 1, 2, 3, 5, 6]), (8, [0, 1, 2, 3, 5, 6]), (10, [0, 1, 2, 3, 5, 6, 7, 8]), (11, [0, 1, 2, 3, 5, 6, 7, 8]), (12, [0, 1, 2, 3, 5, 6, 7, 8, 10, 11]), (13, [0, 1, 2, 3, 5, 6, 7, 8, 10, 11]), (4, [5, 6, 7, 8, 10, 11, 12, 13]), (9, [10, 11, 12, 13]), (14, []), (15, []), (16, []), (17, [])]
structure Gate where
 key : List UInt8
 area : List UInt8
 clock : Int
structure Pas where
 tm : Int
 gate : List UInt8
 plate : List UInt8
 cents : Int
def paF : Pas → List DV := fun p => [.int .i64 p.tm, .str p.gate, .str p.plate, .int .i64 p.cents]
def pa0 : Pas := ⟨0, [], [], 0⟩
abbrev pass (l : List Pas) : DV := seqD 4 paF pa0 l
def plCh (c : UInt8) : Bool := (decide (65 ≤ c.toNat) && decide (c.toNat ≤ 90)) || (decide (48 ≤ c.toNat) && decide (c.toNat ≤ 57))
def isPlateB (s : List UInt8) : Bool := s.all plCh && decide (2 ≤ s.length) && decide (s.length ≤ 10)
theorem s185 (s : List UInt8) (hl : s.length ≤ 2^40) : FSpec Tryz.prog 78 [.d (.str s)] [] (fun x r => x = .d (.bool (isPlateB s)) ∧ r = []) := by
 refine spec_of hT (C := []) Tryz.func78 rfl Tryz.call78 rfl rfl rfl ?_
 conv => whnf
 refine LoopX.rule hT (C := []) (ι := Nat) (fun i => i ≤ s.length ∧ ∀ j, j < i → plCh (s.getD j 0) = true) (fun i => mkSt [(0, .d (.str s)), (6, .d (.int .i64 s.length)), (7, .d (.int .i64 i))] []) (fun i => s.length - i) 0 ⟨by omega, by omega⟩ (by (refine Entails.mk' [] rfl rfl ?_ ?_ <;> repeat' (first | exact True.intro | exact lr | exact rr | exact SV.le_int (by omega) | exact SV.le_any _ | refine And.intro ?_ ?_)); done) ?_
 rintro i ⟨p1, p2⟩
 have e1 : (i : Int).toNat = i := Int.toNat_natCast i
 have hbad : i < s.length → plCh (s.getD i 0) = false → isPlateB s = false := fun hi h => by
  have : s.all plCh = false := by
   rw [List.all_eq_false]; exact ⟨s.getD i 0, getD_mem hi, by rw [h]; simp⟩
  simp only [isPlateB, this, Bool.false_and]
 have hall : i = s.length → s.all plCh = true := fun hi => by
  rw [List.all_eq_true]; intro c hc
  obtain ⟨j, hj, rfl⟩ := mem_getD (d := 0) hc
  exact p2 j (by omega)
 conv => whnf
 repeat' (first | (refine br_intro ?_ ?_ <;> intro hb <;> (try simp only [brs] at hb) <;> conv => whnf) | omega | (refine And.intro ?_ ?_; ((try dsimp only); first | omega | (refine szA rfl ?_; omega) | (refine szB rfl ?_; omega) | (unfold inI64; omega) | exact rfl | (simp only [lns] at *; omega) | decide | (unfold inI64; decide)); conv => whnf) | decide | assumption)
 all_goals first
  | (refine ⟨i + 1, ⟨by omega, all_step p2 (by clear p2 hbad hall; simp only [e1] at *; simp only [plCh]; grind)⟩, by omega, (by (refine Entails.mk' [] rfl rfl ?_ ?_ <;> repeat' (first | exact True.intro | exact lr | exact rr | exact SV.le_int (by omega) | exact SV.le_any _ | refine And.intro ?_ ?_)); done)⟩)
  | (refine .ret _ ?_
     conv => whnf
     refine ⟨[], ⟨?_, rfl⟩, trivial⟩
     conv => lhs; whnf
     congr 2
     first
      | (rw [hbad (by omega) (by clear p2 hbad hall; simp only [e1] at *; simp only [plCh]; grind)])
      | (unfold isPlateB; rw [hall (by omega)]; clear p2 hbad hall; grind))
def cmpI (a b : Int) : Int := if a < b then -1 else if b < a then 1 else 0
def cmpS (a b : List UInt8) : Int := if Op.bytesLess a b = true then -1 else if Op.bytesLess b a = true then 1 else 0
theorem s210 (a : Int) : FSpec Tryz.prog 185 [.d (.int .i64 a)] [] (fun x r => x = .d (.bool false) ∧ r = []) := by
 refine spec_of hT (C := []) Tryz.func185 rfl Tryz.call185 rfl rfl rfl ?_
 conv => whnf
 refine .ret _ ?_
 conv => whnf
 refine ⟨[], ⟨?_, rfl⟩, trivial⟩
 conv => lhs; whnf
 simp
theorem s211 (a : List UInt8) : FSpec Tryz.prog 268 [.d (.str a)] [] (fun x r => x = .d (.bool false) ∧ r = []) := by
 refine spec_of hT (C := []) Tryz.func268 rfl Tryz.call268 rfl rfl rfl ?_
 conv => whnf
 refine .ret _ ?_
 conv => whnf
 refine ⟨[], ⟨?_, rfl⟩, trivial⟩
 conv => lhs; whnf
 simp
theorem s183 (a b : Int) : FSpec Tryz.prog 131 [.d (.int .i64 a), .d (.int .i64 b)] [] (fun x r => x = .d (.int .i64 (cmpI a b)) ∧ r = []) := by
 refine spec_of hT (C := []) Tryz.func131 rfl Tryz.call131 rfl rfl rfl ?_
 conv => whnf
 repeat' (first | (refine CallX.exact (s210 _) rfl rfl ?_; rotate_right; conv => whnf) | (refine br_intro ?_ ?_ <;> intro hb <;> (try simp only [brs] at hb) <;> conv => whnf) | omega | (refine And.intro ?_ ?_; ((try dsimp only); first | omega | (refine szA rfl ?_; omega) | (refine szB rfl ?_; omega) | (unfold inI64; omega) | exact rfl | (simp only [lns] at *; omega) | decide | (unfold inI64; decide)); conv => whnf) | decide | assumption)
 all_goals
  refine .ret _ ?_
  conv => whnf
  refine ⟨[], ⟨?_, rfl⟩, trivial⟩
  conv => lhs; whnf
  congr 2; unfold cmpI; grind
theorem less_tri : ∀ (a b : List UInt8), Op.bytesLess a b = false → a ≠ b → Op.bytesLess b a = true := by
 intro a
 induction a with
 | nil => intro b h hn; cases b with
   | nil => exact absurd rfl hn
   | cons y ys => simp [Op.bytesLess] at h
 | cons x xs ih =>
   intro b h hn
   cases b with
   | nil => simp [Op.bytesLess]
   | cons y ys =>
     simp only [Op.bytesLess] at h ⊢
     grind
theorem s184 (a b : List UInt8) : FSpec Tryz.prog 198 [.d (.str a), .d (.str b)] [] (fun x r => x = .d (.int .i64 (cmpS a b)) ∧ r = []) := by
 refine spec_of hT (C := []) Tryz.func198 rfl Tryz.call198 rfl rfl rfl ?_
 conv => whnf
 repeat' (first | (refine CallX.exact (s211 _) rfl rfl ?_; rotate_right; conv => whnf) | (refine br_intro ?_ ?_ <;> intro hb <;> (try simp only [brs] at hb) <;> conv => whnf) | omega | (refine And.intro ?_ ?_; ((try dsimp only); first | omega | (refine szA rfl ?_; omega) | (refine szB rfl ?_; omega) | (unfold inI64; omega) | exact rfl | (simp only [lns] at *; omega) | decide | (unfold inI64; decide)); conv => whnf) | decide | assumption)
 all_goals
  refine .ret _ ?_
  conv => whnf
  refine ⟨[], ⟨?_, rfl⟩, trivial⟩
  conv => lhs; whnf
  congr 2; unfold cmpS; grind [less_tri]
theorem s182 (l : List Int) (hl : l.length ≤ 2^40) : FSpec Tryz.prog 196 [.d (ints l)] [] (fun x r => x = .d (.int .i64 (firstE l)) ∧ r = []) := by
 refine spec_of hT (C := []) Tryz.func196 rfl Tryz.call196 rfl rfl rfl ?_
 conv => whnf
 refine LoopX.rule hT (C := []) (ι := Nat) (fun i => i ≤ l.length ∧ firstE l = firstE (l.drop i)) (fun i => mkSt [(3, .d (.int .i64 0)), (6, .d (ints l)), (7, .d (.int .i64 l.length)), (8, .d (.int .i64 i))] []) (fun i => l.length - i) 0 ⟨by omega, by simp⟩ (by (refine Entails.mk' [] rfl rfl ?_ ?_ <;> repeat' (first | exact True.intro | exact lr | exact rr | exact SV.le_int (by omega) | exact SV.le_any _ | refine And.intro ?_ ?_)); done) ?_
 rintro i ⟨p1, p2⟩
 have hd : i < l.length → l.drop i = l.getD i 0 :: l.drop (i + 1) := fun hi => by rw [List.drop_eq_getElem_cons hi, List.getD_eq_getElem?_getD, List.getElem?_eq_getElem hi]; rfl
 conv => whnf
 repeat' (first | (refine br_intro ?_ ?_ <;> intro hb <;> (try simp only [brs] at hb) <;> conv => whnf) | omega | (refine And.intro ?_ ?_; ((try dsimp only); first | omega | (refine szA rfl ?_; omega) | (refine szB rfl ?_; omega) | (unfold inI64; omega) | exact rfl | (simp only [lns] at *; omega) | decide | (unfold inI64; decide)); conv => whnf) | decide | assumption)
 · refine .ret _ ?_
   conv => whnf
   refine ⟨[], ⟨?_, rfl⟩, trivial⟩
   conv => lhs; whnf
   congr 2; rw [p2, hd (by omega), firstE, if_neg hb, Int.toNat_natCast]
 · exact ⟨i + 1, ⟨by omega, by rw [p2, hd (by omega), firstE, if_pos hb]⟩, by omega, (by (refine Entails.mk' [] rfl rfl ?_ ?_ <;> repeat' (first | exact True.intro | exact lr | exact rr | exact SV.le_int (by omega) | exact SV.le_any _ | refine And.intro ?_ ?_)); done)⟩
 · refine .ret _ ?_
   conv => whnf
   refine ⟨[], ⟨?_, rfl⟩, trivial⟩
   conv => lhs; whnf
   congr 2; rw [p2, List.drop_eq_nil_iff.2 (by omega)]; rfl
def pasCmp (a b : Pas) : Int := firstE [cmpI a.tm b.tm, cmpS a.gate b.gate, cmpS a.plate b.plate]
theorem s150 (a b : Pas) : FSpec Tryz.prog 180 [.agg ((paF a).map .d), .agg ((paF b).map .d)] [] (fun x r => x = .d (.int .i64 (pasCmp a b)) ∧ r = []) := by
 refine spec_of hT (C := []) Tryz.func180 rfl Tryz.call180 rfl rfl rfl ?_
 conv => whnf
 repeat' (first | (refine CallX.exact (s183 _ _) rfl rfl ?_; rotate_right; conv => whnf) | (refine CallX.exact (s184 _ _) rfl rfl ?_; rotate_right; conv => whnf) | (refine CallX.pure (s182 [_, _, _] (by simp)) ⟨SV.le_lit rfl rfl, trivial⟩ rfl ?_; conv => whnf) | (refine br_intro ?_ ?_ <;> intro hb <;> (try simp only [brs] at hb) <;> conv => whnf) | (refine RegX.rule (id := 1) hT rfl [] oTCoW180_1 (by decide +kernel) ?_; conv => whnf) | omega | (refine And.intro ?_ ?_; ((try dsimp only); first | omega | (refine szA rfl ?_; omega) | (refine szB rfl ?_; omega) | (unfold inI64; omega) | exact rfl | (simp only [lns] at *; omega) | decide | (unfold inI64; decide)); conv => whnf) | decide | assumption)
 all_goals
  refine .ret _ ?_
  conv => whnf
  refine ⟨[], ⟨?_, rfl⟩, trivial⟩
  conv => lhs; whnf
  rfl
def oTCoX122_14 : List (Nat × List Nat) := [(0, []), (1, []), (2, []), (3, []), (4, [3]), (5, [3]), (6, []), (7, []), (8, [3, 4, 5, 6, 7]), (9, []), (10, []), (11, []), (12, [])]
def ixF (p : Nat → Bool) : Nat → Int
 | 0 => -1
 | n + 1 => if ixF p n = -1 then (if p n = true then n else -1) else ixF p n
theorem ixF_none {p : Nat → Bool} : ∀ {n : Nat}, (∀ j, j < n → p j = false) → ixF p n = -1 := by
 intro n
 induction n with
 | zero => intro _; rfl
 | succ n ih => intro h; rw [ixF, if_pos (ih fun j hj => h j (by omega)), h n (by omega)]; rfl
theorem ixF_hit {p : Nat → Bool} {n i : Nat} (hi : i < n) (h : ∀ j, j < i → p j = false) (h1 : p i = true) : ixF p n = i := by
 induction n with
 | zero => omega
 | succ n ih =>
   rw [ixF]
   by_cases q : i < n
   · rw [ih q, if_neg (by omega)]
   · have : i = n := by omega
     subst this
     rw [if_pos (ixF_none h), if_pos h1]
theorem ixF_bd {p : Nat → Bool} : ∀ {n : Nat}, -1 ≤ ixF p n ∧ ixF p n < n ∧ (0 ≤ ixF p n → p (ixF p n).toNat = true) := by
 intro n
 induction n with
 | zero => simp [ixF]
 | succ n ih =>
   rw [ixF]
   split
   · split
     · rename_i h; exact ⟨by omega, by omega, fun _ => by simpa using h⟩
     · exact ⟨by omega, by omega, fun h => by omega⟩
   · exact ⟨ih.1, by omega, ih.2.2⟩
theorem s154 (n : Int) : FSpec Tryz.prog 80 [.d (.int .i64 n)] [] (fun x r => x = .d (.bool (decide (0 ≤ n ∧ n ≤ 5761439))) ∧ r = []) := by
 refine spec_of hT (C := []) Tryz.func80 rfl Tryz.call80 rfl rfl rfl ?_
 conv => whnf
 repeat' (first | (refine CallX.exact (s119 _ _ _) rfl rfl ?_; rotate_right; conv => whnf) | (refine br_intro ?_ ?_ <;> intro hb <;> (try simp only [brs] at hb) <;> conv => whnf) | omega | (refine And.intro ?_ ?_; ((try dsimp only); first | omega | (refine szA rfl ?_; omega) | (refine szB rfl ?_; omega) | (unfold inI64; omega) | exact rfl | (simp only [lns] at *; omega) | decide | (unfold inI64; decide)); conv => whnf) | decide | assumption)
 refine .ret _ ?_
 conv => whnf
 refine ⟨[], ⟨?_, rfl⟩, trivial⟩
 conv => lhs; whnf
def pasE (l : List Pas) (i : Nat) : Int :=
 if ¬ (0 ≤ (l.getD i pa0).tm ∧ (l.getD i pa0).tm ≤ 5761439) then 1 else if isKeyB (l.getD i pa0).gate = false then 5 else if isPlateB (l.getD i pa0).plate = false then 3
 else if ¬ (0 ≤ (l.getD i pa0).cents ∧ (l.getD i pa0).cents ≤ 1000000) then 1 else if 0 < i ∧ 0 ≤ pasCmp (l.getD (i - 1) pa0) (l.getD i pa0) then 7 else 0
def formE (l : List Pas) : Int := if 1000 < l.length then 2 else firstAt (pasE l) l.length
def pOk (l : List Pas) : Prop := l.length ≤ 2^40 ∧ ∀ p ∈ l, p.gate.length ≤ 2^40 ∧ p.plate.length ≤ 2^40
theorem s152 (l : List Pas) (hk : pOk l) : FSpec Tryz.prog 122 [.d (pass l)] [] (fun x r => x = .d (.int .i64 (formE l)) ∧ r = []) := by
 refine spec_of hT (C := []) Tryz.func122 rfl Tryz.call122 rfl rfl rfl ?_
 conv => whnf
 refine br_intro (fun h0 => ?_) (fun h0 => ?_)
 · simp at h0
   conv => whnf
   refine .ret _ ?_
   conv => whnf
   refine ⟨[], ⟨?_, rfl⟩, trivial⟩
   conv => lhs; whnf
   unfold formE; rw [if_pos (by omega)]
 simp at h0
 conv => whnf
 refine LoopX.rule hT (C := []) (ι := Nat) (fun i => i ≤ l.length ∧ ∀ j, j < i → pasE l j = 0) (fun i => mkSt [(0, .d (pass l)), (8, .d (pass l)), (9, .d (.int .i64 l.length)), (10, .d (.int .i64 i))] []) (fun i => l.length - i) 0 ⟨by omega, by omega⟩ (by (refine Entails.mk' [] rfl rfl ?_ ?_ <;> repeat' (first | exact True.intro | exact lr | exact rr | exact SV.le_int (by omega) | exact SV.le_any _ | refine And.intro ?_ ?_)); done) ?_
 rintro i ⟨p1, p2⟩
 have hx : (i : Int) < l.length → (l.getD (i : Int).toNat pa0).gate.length ≤ 2^40 ∧ (l.getD (i : Int).toNat pa0).plate.length ≤ 2^40 := fun hi => hk.2 _ (getD_mem (by omega))
 have e1 : (i : Int).toNat = i := Int.toNat_natCast i
 have hbad : ∀ e : Int, i < l.length → e ≠ 0 → pasE l i = e → formE l = e := fun e h h1 h2 => by
  unfold formE; rw [if_neg (by omega)]
  exact firstAt_eq h p2 h1 h2
 conv => whnf
 repeat' (first | (refine CallX.exact (s154 _) rfl rfl ?_; rotate_right; conv => whnf) | (refine CallX.exact (s108 _ (hx (by omega)).1) rfl rfl ?_; rotate_right; conv => whnf) | (refine CallX.exact (s185 _ (hx (by omega)).2) rfl rfl ?_; rotate_right; conv => whnf) | (refine CallX.exact (s119 _ _ _) rfl rfl ?_; rotate_right; conv => whnf) | (refine CallX.exact (s150 (l.getD ((i : Int) - 1).toNat pa0) (l.getD (i : Int).toNat pa0)) rfl rfl ?_; rotate_right; conv => whnf) | (refine br_intro ?_ ?_ <;> intro hb <;> (try simp only [brs] at hb) <;> conv => whnf) | (refine RegX.rule (id := 14) hT rfl [] oTCoX122_14 (by decide +kernel) ?_; conv => whnf) | omega | (refine And.intro ?_ ?_; ((try dsimp only); first | omega | (refine szA rfl ?_; omega) | (refine szB rfl ?_; omega) | (unfold inI64; omega) | exact rfl | (simp only [lns] at *; omega) | decide | (unfold inI64; decide)); conv => whnf) | decide | assumption)
 all_goals first
  | (refine ⟨i + 1, ⟨by omega, first_step p2 (by clear p2 hbad hk hx; simp only [e1, toNat_pred] at *; unfold pasE; grind)⟩, by omega, (by (refine Entails.mk' [] rfl rfl ?_ ?_ <;> repeat' (first | exact True.intro | exact lr | exact rr | exact SV.le_int (by omega) | exact SV.le_any _ | refine And.intro ?_ ?_)); done)⟩)
  | (refine .ret _ ?_
     conv => whnf
     refine ⟨[], ⟨?_, rfl⟩, trivial⟩
     conv => lhs; whnf
     congr 2
     first
      | exact (hbad _ (by omega) (by decide) (by clear p2 hbad hk hx; simp only [e1, toNat_pred] at *; unfold pasE; grind)).symm
      | (have : i = l.length := by omega
         subst this
         unfold formE; rw [if_neg (by omega), firstAt_zero p2]))
theorem form_zero {l : List Pas} (h : formE l = 0) : l.length ≤ 1000 ∧ ∀ p ∈ l, 0 ≤ p.tm ∧ p.tm ≤ 5761439 := by
 unfold formE at h
 split at h
 · omega
 · refine ⟨by omega, fun x hx => ?_⟩
   obtain ⟨j, hj, rfl⟩ := mem_getD (d := pa0) hx
   have := firstAt_all h j hj
   unfold pasE at this
   grind
structure Chg where
 hire : List UInt8
 vehicle : List UInt8
 pas : Int
 cents : Int
structure Lin where
 kind : Int
 key : List UInt8
 cents : Int
deriving DecidableEq
theorem mem_len {l : List (List UInt8)} {u : List UInt8} (h : u ∈ l) (q : l.all (fun x => decide (x.length ≤ 8)) = true) : u.length ≤ 8 := by
 have := List.all_eq_true.1 q u h
 exact of_decide_eq_true this
theorem s133 (n : Int) : FSpec Tryz.prog 76 [.d (.int .i64 n)] [] (fun x r => x = .d (.bool (decide (0 ≤ n ∧ n ≤ 5761439))) ∧ r = []) := by
 refine spec_of hT (C := []) Tryz.func76 rfl Tryz.call76 rfl rfl rfl ?_
 conv => whnf
 repeat' (first | (refine CallX.exact (s110 _ _ _) rfl rfl ?_; rotate_right; conv => whnf) | (refine br_intro ?_ ?_ <;> intro hb <;> (try simp only [brs] at hb) <;> conv => whnf) | omega | (refine And.intro ?_ ?_; ((try dsimp only); first | omega | (refine szA rfl ?_; omega) | (refine szB rfl ?_; omega) | (unfold inI64; omega) | exact rfl | (simp only [lns] at *; omega) | decide | (unfold inI64; decide)); conv => whnf) | decide | assumption)
 refine .ret _ ?_
 conv => whnf
 refine ⟨[], ⟨?_, rfl⟩, trivial⟩
 conv => lhs; whnf
def plateL : List UInt8 := [65, 66, 67, 68, 69, 70, 71, 72, 73, 74, 75, 76, 77, 78, 79, 80, 81, 82, 83, 84, 85, 86, 87, 88, 89, 90, 48, 49, 50, 51, 52, 53, 54, 55, 56, 57]
theorem plate_iff (c : UInt8) : plateL.contains c = plCh c := by
 have := u8_all (p := fun c => plateL.contains c == plCh c) (by decide +kernel) c
 simpa using this
theorem plate_eq (s : List UInt8) : isPlateB s = (decide (2 ≤ (s.length : Int) ∧ (s.length : Int) ≤ 10) && onlyB s plateL) := by
 have : s.all plCh = onlyB s plateL := by
  unfold onlyB; congr 1; funext c; exact (plate_iff c).symm
 unfold isPlateB; rw [this]
 cases onlyB s plateL
 · simp
 · rw [Bool.eq_iff_iff]; simp; omega
def cmpL : List (List UInt8) → List (List UInt8) → Int
 | [], [] => 0
 | [], _ :: _ => -1
 | _ :: _, [] => 1
 | x :: xs, y :: ys => if cmpS x y ≠ 0 then cmpS x y else cmpL xs ys
theorem s169 (l m : List (List UInt8)) (hl : l.length ≤ 2^40) (hm : m.length ≤ 2^40) : FSpec Tryz.prog 160 [.d (strs l), .d (strs m)] [] (fun x r => x = .d (.int .i64 (cmpL l m)) ∧ r = []) := by
 refine spec_of hT (C := []) Tryz.func160 rfl Tryz.call160 rfl rfl rfl ?_
 conv => whnf
 refine LoopX.rule hT (C := []) (ι := Nat) (fun i => i ≤ l.length ∧ i ≤ m.length ∧ cmpL l m = cmpL (l.drop i) (m.drop i)) (fun i => mkSt [(0, .d (strs l)), (1, .d (strs m)), (9, .d (strs l)), (10, .d (.int .i64 l.length)), (11, .d (.int .i64 i))] []) (fun i => l.length - i) 0 ⟨by omega, by omega, by simp⟩ (by (refine Entails.mk' [] rfl rfl ?_ ?_ <;> repeat' (first | exact True.intro | exact lr | exact rr | exact SV.le_int (by omega) | exact SV.le_any _ | refine And.intro ?_ ?_)); done) ?_
 rintro i ⟨p1, p2, p3⟩
 have hd : i < l.length → l.drop i = l.getD i [] :: l.drop (i + 1) := fun hi => by rw [List.drop_eq_getElem_cons hi, List.getD_eq_getElem?_getD, List.getElem?_eq_getElem hi]; rfl
 have hd2 : i < m.length → m.drop i = m.getD i [] :: m.drop (i + 1) := fun hi => by rw [List.drop_eq_getElem_cons hi, List.getD_eq_getElem?_getD, List.getElem?_eq_getElem hi]; rfl
 have e1 : (i : Int).toNat = i := Int.toNat_natCast i
 conv => whnf
 repeat' (first | (refine CallX.exact (s184 _ _) rfl rfl ?_; rotate_right; conv => whnf) | (refine br_intro ?_ ?_ <;> intro hb <;> (try simp only [brs] at hb) <;> conv => whnf) | omega | (refine And.intro ?_ ?_; ((try dsimp only); first | omega | (refine szA rfl ?_; omega) | (refine szB rfl ?_; omega) | (unfold inI64; omega) | exact rfl | (simp only [lns] at *; omega) | decide | (unfold inI64; decide)); conv => whnf) | decide | assumption)
 · refine .ret _ ?_
   conv => whnf
   refine ⟨[], ⟨?_, rfl⟩, trivial⟩
   conv => lhs; whnf
   congr 2
   rw [p3, hd (by omega), List.drop_eq_nil_iff.2 (by omega : m.length ≤ i)]; rfl
 · refine .ret _ ?_
   conv => whnf
   refine ⟨[], ⟨?_, rfl⟩, trivial⟩
   conv => lhs; whnf
   congr 2
   rw [p3, hd (by omega), hd2 (by omega), cmpL, if_pos (by simpa using hb)]; simp only [e1]
 · refine ⟨i + 1, ⟨by omega, by omega, ?_⟩, by omega, (by (refine Entails.mk' [] rfl rfl ?_ ?_ <;> repeat' (first | exact True.intro | exact lr | exact rr | exact SV.le_int (by omega) | exact SV.le_any _ | refine And.intro ?_ ?_)); done)⟩
   rw [p3, hd (by omega), hd2 (by omega), cmpL, if_neg (by simpa using hb)]
 · refine .ret _ ?_
   conv => whnf
   refine ⟨[], ⟨?_, rfl⟩, trivial⟩
   conv => lhs; whnf
   congr 2
   have hm : i < m.length := by omega
   rw [p3, hd2 hm, List.drop_eq_nil_iff.2 (by omega : l.length ≤ i)]; rfl
 · refine .ret _ ?_
   conv => whnf
   refine ⟨[], ⟨?_, rfl⟩, trivial⟩
   conv => lhs; whnf
   congr 2
   rw [p3, List.drop_eq_nil_iff.2 (by omega : m.length ≤ i), List.drop_eq_nil_iff.2 (by omega : l.length ≤ i)]; rfl
theorem isKey_nil : isKeyB [] = false := by decide
theorem less_nil (a : List UInt8) : Op.bytesLess a [] = false := by cases a <;> rfl
theorem Res.le_put2 {α : Type} {f : α → List DV} {d : α} {l : List α} {x y : α} {e k j1 j2 : Nat} {ds1 ds2 : List DV} (h1 : ∀ z, setAtD (f z) 0 ds1 = f x) (h2 : ∀ z, setAtD (f z) 0 ds2 = f y) :
 Res.le (.buf e k l.length fun i => bif Nat.beq i j2 then setAtD (bif Nat.beq i j1 then setAtD (rowF f d l i) 0 ds1 else rowF f d l i) 0 ds2 else bif Nat.beq i j1 then setAtD (rowF f d l i) 0 ds1 else rowF f d l i) (seqB e k f d ((l.set j1 x).set j2 y)) := by
 refine Res.le_buf (by simp) (fun k hk => ?_)
 have e1 := rows_putG (f := f) (d := d) (l := l) (x := x) (j := j1) (off := 0) (ds := ds1) (get := rowF f d l) (fun _ _ => rfl) (fun z _ => h1 z)
 have e2 := rows_putG (f := f) (d := d) (l := l.set j1 x) (x := y) (j := j2) (off := 0) (ds := ds2) (get := fun i => bif Nat.beq i j1 then setAtD (rowF f d l i) 0 ds1 else rowF f d l i) (fun k hk => e1 k (by simpa using hk)) (fun z _ => h2 z)
 exact e2 k (by simpa using hk)
theorem SV.le_upd {α : Type} {f : α → List DV} {d : α} {l : List α} {k j off : Nat} {ds : List DV} (g : α → α) (hg : ∀ y, setAtD (f y) off ds = f (g y)) :
 SV.le (.d (.ro k l.length fun i => bif Nat.beq i j then setAtD (rowF f d l i) off ds else rowF f d l i)) (.d (seqD k f d (l.set j (g (l.getD j d))))) :=
 SV.le_putF fun y hy => by rw [hg, List.getD_eq_getElem?_getD, hy]; rfl
end Go.Proofs.YtcjfniddeibbhaaGreatDoor
namespace Go.Proofs
open Go.Shelf
end Go.Proofs
set_option maxRecDepth 20000
namespace Go.Proofs.YtcjfniddeibbhaaGreatDoor
open Go Go.Eng Go.RowKit
theorem Res.le_appF {α : Type} {f : α → List DV} {d : α} {l m : List α} {e k : Nat} : Res.le (.buf e k (l.length + m.length) (appGet l.length (rowF f d l) (rowF f d m))) (seqB e k f d (l ++ m)) := by
 refine Res.le_buf (by simp) (fun i hi => ?_)
 by_cases h : i < l.length
 · rw [appGet_lt h]; simp only [rowF]; rw [List.getD_eq_getElem?_getD, List.getD_eq_getElem?_getD, List.getElem?_append_left h]
 · rw [appGet_ge (by omega)]; simp only [rowF]; rw [List.getD_eq_getElem?_getD, List.getD_eq_getElem?_getD, List.getElem?_append_right (by omega)]
theorem pas_eq {a b : Pas} : a = b ↔ a.tm = b.tm ∧ a.gate = b.gate ∧ a.plate = b.plate ∧ a.cents = b.cents := by cases a; cases b; simp
instance : DecidableEq Pas := fun _ _ => decidable_of_iff _ pas_eq.symm
theorem Res.le_upd {α : Type} {f : α → List DV} {d : α} {l : List α} {e k j off : Nat} {ds : List DV} (g : α → α) (hg : ∀ y, setAtD (f y) off ds = f (g y)) :
 Res.le (.buf e k l.length fun i => bif Nat.beq i j then setAtD (rowF f d l i) off ds else rowF f d l i) (seqB e k f d (l.set j (g (l.getD j d)))) :=
 Res.le_putF fun y hy => by rw [hg, List.getD_eq_getElem?_getD, hy]; rfl
def allK {α : Type} (K : α → Prop) (k : Nat) (l : List α) : Prop := l.length ≤ k ∧ ∀ x ∈ l, K x
theorem allK_snoc {α : Type} {K : α → Prop} {l : List α} {k m : Nat} {x : α} (h : allK K k l) (hm : k + 1 ≤ m) (hx : K x) : allK K m (l ++ [x]) := by
 refine ⟨by rw [List.length_append]; have := h.1; simp; omega, fun p hp => ?_⟩
 rcases List.mem_append.1 hp with q | q
 · exact h.2 p q
 · simp at q; subst q; exact hx
theorem allK_le {α : Type} {K : α → Prop} {l : List α} {k m : Nat} (h : allK K k l) (hm : k ≤ m) : allK K m l := ⟨by have := h.1; omega, h.2⟩
theorem allK_upd {α : Type} {K : α → Prop} {l : List α} {k j : Nat} {d : α} {g : α → α} (h : allK K k l) (hg : ∀ y, K y → K (g y)) : allK K k (l.set j (g (l.getD j d))) := by
 refine ⟨by rw [List.length_set]; exact h.1, fun p hp => ?_⟩
 by_cases hj : j < l.length
 · rcases List.mem_or_eq_of_mem_set hp with q | q
   · exact h.2 p q
   · subst q; exact hg _ (h.2 _ (getD_mem hj))
 · rw [List.set_eq_of_length_le (by omega)] at hp; exact h.2 p hp
theorem rows_updG {α : Type} {f : α → List DV} {d : α} {l : List α} {j off : Nat} {ds : List DV} {get : Nat → List DV} (hg : ∀ i, i < l.length → get i = rowF f d l i) (g : α → α) (h : ∀ y, setAtD (f y) off ds = f (g y)) :
 ∀ i, i < (l.set j (g (l.getD j d))).length → (bif Nat.beq i j then setAtD (get i) off ds else get i) = rowF f d (l.set j (g (l.getD j d))) i := by
 rw [List.length_set]
 exact rows_putG hg (fun y hy => by rw [h, List.getD_eq_getElem?_getD, hy]; rfl)
abbrev updL {α : Type} (l : List α) (j : Nat) (d : α) (g : α → α) : List α := l.set j (g (l.getD j d))
theorem SV.le_upd2 {α : Type} {f : α → List DV} {d : α} {l : List α} {k j1 j2 o1 o2 : Nat} {ds1 ds2 : List DV} (g1 g2 : α → α) (h1 : ∀ y, setAtD (f y) o1 ds1 = f (g1 y)) (h2 : ∀ y, setAtD (f y) o2 ds2 = f (g2 y)) :
 SV.le (.d (.ro k l.length fun i => bif Nat.beq i j2 then setAtD (bif Nat.beq i j1 then setAtD (rowF f d l i) o1 ds1 else rowF f d l i) o2 ds2 else (bif Nat.beq i j1 then setAtD (rowF f d l i) o1 ds1 else rowF f d l i)))
  (.d (seqD k f d (updL (updL l j1 d g1) j2 d g2))) :=
 SV.le_ro (by simp) (fun i hi => rows_updG (rows_updG (fun _ _ => rfl) g1 h1) g2 h2 i (by simpa using hi))
structure Plt where
 frm : Int
 veh : List UInt8
 plt : List UInt8
deriving DecidableEq
structure Hld where
 veh : List UInt8
 frm : Int
 til : Int
def clashP (o p : Plt) : Bool := decide (o.veh = p.veh) || decide (o.plt = p.plt)
def livStep (acc : List Plt) (x : Plt) : List Plt := acc.filter (fun e => !clashP e x) ++ [x]
def liv (l : List Plt) : List Plt := l.foldl livStep []
def early (l : List Plt) (t : Int) : List Plt := l.filter fun p => decide (p.frm ≤ t)
theorem snoc_ind {α : Type} {P : List α → Prop} (h0 : P []) (h1 : ∀ l x, P l → P (l ++ [x])) : ∀ l, P l := by
 have : ∀ l : List α, P l.reverse := by
  intro l
  induction l with
  | nil => exact h0
  | cons x l ih => rw [List.reverse_cons]; exact h1 _ _ ih
 intro l
 have := this l.reverse
 rwa [List.reverse_reverse] at this
theorem liv_snoc (l : List Plt) (x : Plt) : liv (l ++ [x]) = (liv l).filter (fun e => !clashP e x) ++ [x] := by
 unfold liv; rw [List.foldl_append]; rfl
def srtP (l : List Plt) : Prop := l.Pairwise (fun p q => p.frm ≤ q.frm)
theorem liv_mem {l : List Plt} : ∀ {e}, e ∈ liv l → e ∈ l := by
 refine snoc_ind (P := fun l => ∀ {e}, e ∈ liv l → e ∈ l) (by intro e h; cases h) ?_ l
 intro l x ih e h
 rw [liv_snoc, List.mem_append, List.mem_filter] at h
 rw [List.mem_append]
 exact h.imp (fun q => ih q.1) id
theorem liv_apart (l : List Plt) : (liv l).Pairwise (fun p q => clashP p q = false) := by
 refine snoc_ind (P := fun l => (liv l).Pairwise (fun p q => clashP p q = false)) .nil ?_ l
 intro l x ih
 rw [liv_snoc, List.pairwise_append]
 refine ⟨ih.filter _, by simp, fun a ha b hb => ?_⟩
 rw [List.mem_singleton] at hb
 subst hb
 have := (List.mem_filter.1 ha).2
 simpa using this
theorem early_snoc (l : List Plt) (x : Plt) (t : Int) : early (l ++ [x]) t = if x.frm ≤ t then early l t ++ [x] else early l t := by
 unfold early; rw [List.filter_append]
 by_cases h : x.frm ≤ t <;> simp [h]
theorem early_all {l : List Plt} {t : Int} (h : ∀ e ∈ l, e.frm ≤ t) : early l t = l := by
 unfold early
 rw [List.filter_eq_self]
 intro e he; simpa using h e he
theorem liv_early {l : List Plt} (hs : srtP l) {t : Int} : ∀ {e}, e ∈ liv l → e.frm ≤ t → e ∈ liv (early l t) := by
 revert hs
 refine snoc_ind (P := fun l => srtP l → ∀ {e}, e ∈ liv l → e.frm ≤ t → e ∈ liv (early l t)) (by intro _ e h; cases h) ?_ l
 intro l x ih hs e he ht
 unfold srtP at hs
 rw [List.pairwise_append] at hs
 rw [early_snoc]
 by_cases hx : x.frm ≤ t
 · rw [if_pos hx, early_all (fun e he => by have := hs.2.2 e he x (by simp); omega)]
   exact he
 · rw [if_neg hx]
   rw [liv_snoc, List.mem_append] at he
   rcases he with q | q
   · exact ih hs.1 (List.mem_filter.1 q).1 ht
   · rw [List.mem_singleton] at q; subst q; exact absurd ht hx
theorem apart_eq {L : List Plt} (h : L.Pairwise (fun p q => clashP p q = false)) {a b : Plt} (ha : a ∈ L) (hb : b ∈ L) (hc : clashP a b = true) : a = b := by
 induction L with
 | nil => cases ha
 | cons y L ih =>
   rw [List.pairwise_cons] at h
   rcases List.mem_cons.1 ha with rfl | ha'
   · rcases List.mem_cons.1 hb with rfl | hb'
     · rfl
     · rw [h.1 b hb'] at hc; cases hc
   · rcases List.mem_cons.1 hb with rfl | hb'
     · have := h.1 a ha'
       have q : clashP b a = clashP a b := by unfold clashP; simp only [eq_comm]
       rw [q, hc] at this; cases this
     · exact ih h.2 ha' hb'
def findP (L : List Plt) (p : List UInt8) : Option Plt := L.find? fun e => decide (e.plt = p)
theorem findP_of {L : List Plt} (h : L.Pairwise (fun p q => clashP p q = false)) {e : Plt} (he : e ∈ L) : findP L e.plt = some e := by
 cases hf : findP L e.plt with
 | none =>
   have := List.find?_eq_none.1 hf e he
   simp at this
 | some a =>
   have h1 := List.find?_some hf
   have h2 := List.mem_of_find?_eq_some hf
   simp only [decide_eq_true_eq] at h1
   rw [apart_eq h h2 he (by unfold clashP; simp [h1])]
theorem findP_some {L : List Plt} {p : List UInt8} {e : Plt} (h : findP L p = some e) : e ∈ L ∧ e.plt = p :=
 ⟨List.mem_of_find?_eq_some h, by simpa using List.find?_some h⟩
theorem findP_none {L : List Plt} {p : List UInt8} (h : findP L p = none) : ∀ e ∈ L, e.plt ≠ p := by
 intro e he
 have := List.find?_eq_none.1 h e he
 simpa using this
structure HS where
 live : List Plt
 out : List UInt8 → List Hld
def hdrop (s : HS) (p : List UInt8) (t : Int) : HS :=
 match findP s.live p with
 | none => s
 | some e => ⟨s.live.filter fun e => !decide (e.plt = p), fun q => if q = p ∧ e.frm < t then s.out q ++ [⟨e.veh, e.frm, t⟩] else s.out q⟩
def findV (L : List Plt) (v : List UInt8) : Option Plt := L.find? fun e => decide (e.veh = v)
def hmid (s : HS) (x : Plt) : HS := match findV s.live x.veh with | none => s | some e => hdrop s e.plt x.frm
def hstep (s : HS) (x : Plt) : HS := ⟨(hdrop (hmid s x) x.plt x.frm).live ++ [x], (hdrop (hmid s x) x.plt x.frm).out⟩
def hs0 : HS := ⟨[], fun _ => []⟩
def hall (l : List Plt) : HS := l.foldl hstep hs0
def hend (l : List Plt) : HS := l.foldl (fun s x => hdrop s x.plt 5761440) (hall l)
def inH (t : Int) (h : Hld) : Bool := decide (h.frm ≤ t) && decide (t < h.til)
def findH (o : List Hld) (t : Int) : Option (List UInt8) := (o.find? (inH t)).map (·.veh)
def expH (l live : List Plt) (p : List UInt8) (t : Int) : Option (List UInt8) :=
 match findP (liv (early l t)) p with
 | some e => if e ∈ live then none else some e.veh
 | none => none
structure HInv (T : Int) (l : List Plt) (s : HS) : Prop where
 eq : ∀ p t, t < T → findH (s.out p) t = expH l s.live p t
 til : ∀ p h, h ∈ s.out p → h.til ≤ T
 sub : ∀ e ∈ s.live, e ∈ liv l
 apart : s.live.Pairwise (fun p q => clashP p q = false)
theorem hdrop_live (s : HS) (p : List UInt8) (t : Int) : (hdrop s p t).live = s.live.filter fun e => !decide (e.plt = p) := by
 unfold hdrop
 cases h : findP s.live p with
 | some e => rfl
 | none =>
   symm
   rw [List.filter_eq_self]
   intro e he
   simpa using findP_none h e he
theorem hdrop_inv {T : Int} {l : List Plt} {s : HS} (h : HInv T l s) (hs : srtP l) (p : List UInt8) : HInv T l (hdrop s p T) := by
 have hlive := hdrop_live s p T
 have hsub : ∀ e ∈ (hdrop s p T).live, e ∈ s.live := by intro e he; rw [hlive] at he; exact (List.mem_filter.1 he).1
 refine ⟨fun q t ht => ?_, fun q x hx => ?_, fun e he => h.sub e (hsub e he), by rw [hlive]; exact h.apart.filter _⟩
 · have hold := h.eq q t ht
   cases hf : findP s.live p with
   | none =>
     have : hdrop s p T = s := by unfold hdrop; rw [hf]
     rw [this]; exact hold
   | some e =>
     obtain ⟨e1, e2⟩ := findP_some hf
     have ho : (hdrop s p T).out q = if q = p ∧ e.frm < T then s.out q ++ [⟨e.veh, e.frm, T⟩] else s.out q := by unfold hdrop; rw [hf]
     rw [ho]
     by_cases hq : q = p
     · subst hq
       by_cases hte : e.frm ≤ t
       · have hin := liv_early hs (h.sub e e1) hte
         have hfe : findP (liv (early l t)) q = some e := by rw [← e2]; exact findP_of (liv_apart _) hin
         have h0 : expH l s.live q t = none := by unfold expH; rw [hfe]; simp [e1]
         have h1 : expH l (hdrop s q T).live q t = some e.veh := by
          unfold expH; rw [hfe]
          have : e ∉ (hdrop s q T).live := by rw [hlive, List.mem_filter]; simp [e2]
          simp [this]
         rw [h0] at hold
         rw [h1, if_pos ⟨rfl, by omega⟩]
         unfold findH at hold ⊢
         rw [Option.map_eq_none_iff] at hold
         rw [List.find?_append, hold]
         simp [inH, hte, ht]
       · have hex : expH l (hdrop s q T).live q t = expH l s.live q t := by
          unfold expH
          cases hg : findP (liv (early l t)) q with
          | none => rfl
          | some a =>
            obtain ⟨a1, a2⟩ := findP_some hg
            have hat : a.frm ≤ t := by
             have := (List.mem_filter.1 (liv_mem a1)).2
             simpa using this
            have hna : a ∉ s.live := fun hm => by
             have := apart_eq h.apart hm e1 (by unfold clashP; simp [a2, e2])
             subst this; exact hte hat
            have hnb : a ∉ (hdrop s q T).live := fun hm => hna (hsub a hm)
            simp [hna, hnb]
         rw [hex, ← hold]
         split
         · unfold findH
           rw [List.find?_append]
           cases (s.out q).find? (inH t) with
           | some y => rfl
           | none => simp [inH, hte]
         · rfl
     · rw [if_neg (fun c => hq c.1), hold]
       unfold expH
       cases hg : findP (liv (early l t)) q with
       | none => rfl
       | some a =>
         obtain ⟨a1, a2⟩ := findP_some hg
         have : a ∈ (hdrop s p T).live ↔ a ∈ s.live := by
          rw [hlive, List.mem_filter]
          exact ⟨fun q => q.1, fun m => ⟨m, by simp only [Bool.not_eq_true', decide_eq_false_iff_not]; rw [a2]; exact hq⟩⟩
         simp [this]
 · cases hf : findP s.live p with
   | none =>
     have : hdrop s p T = s := by unfold hdrop; rw [hf]
     rw [this] at hx; exact h.til q x hx
   | some e =>
     have ho : (hdrop s p T).out q = if q = p ∧ e.frm < T then s.out q ++ [⟨e.veh, e.frm, T⟩] else s.out q := by unfold hdrop; rw [hf]
     rw [ho] at hx
     split at hx
     · rcases List.mem_append.1 hx with m | m
       · exact h.til q x m
       · rw [List.mem_singleton] at m; subst m; exact Int.le_refl _
     · exact h.til q x hx
theorem HInv.raise {T0 T : Int} {l : List Plt} {s : HS} (h : HInv T0 l s) (hl : ∀ e, e ∈ liv l → e ∈ s.live) (hf : ∀ e ∈ l, e.frm ≤ T0) (hT : T0 ≤ T) : HInv T l s := by
 refine ⟨fun p t ht => ?_, fun p x hx => Int.le_trans (h.til p x hx) hT, h.sub, h.apart⟩
 by_cases h0 : t < T0
 · exact h.eq p t h0
 · have he : early l t = l := early_all (fun e he => by have := hf e he; omega)
   have h1 : expH l s.live p t = none := by
    unfold expH
    rw [he]
    cases hg : findP (liv l) p with
    | none => rfl
    | some a => simp [hl a (findP_some hg).1]
   rw [h1]
   unfold findH
   rw [Option.map_eq_none_iff, List.find?_eq_none]
   intro x hx
   have := h.til p x hx
   simp [inH]; omega
theorem hmid_live {s : HS} (h : s.live.Pairwise (fun p q => clashP p q = false)) (x : Plt) : (hmid s x).live = s.live.filter fun e => !decide (e.veh = x.veh) := by
 unfold hmid
 cases hf : findV s.live x.veh with
 | none =>
   symm
   rw [List.filter_eq_self]
   intro e he
   have := List.find?_eq_none.1 hf e he
   simpa using this
 | some e =>
   have h1 := List.find?_some hf
   have h2 := List.mem_of_find?_eq_some hf
   simp only [decide_eq_true_eq] at h1
   simp only
   rw [hdrop_live]
   refine List.filter_congr fun a ha => ?_
   congr 1
   rw [decide_eq_decide]
   constructor
   · intro q
     rw [apart_eq h ha h2 (by unfold clashP; simp [q])]; exact h1
   · intro q
     rw [apart_eq h ha h2 (by unfold clashP; simp [q, h1])]
theorem hstep_live {s : HS} (h : s.live.Pairwise (fun p q => clashP p q = false)) (x : Plt) : (hstep s x).live = s.live.filter (fun e => !clashP e x) ++ [x] := by
 show (hdrop (hmid s x) x.plt x.frm).live ++ [x] = _
 rw [hdrop_live, hmid_live h, List.filter_filter]
 congr 1
 refine List.filter_congr fun a ha => ?_
 unfold clashP
 rw [Bool.not_or, Bool.and_comm]
theorem hmid_inv {l : List Plt} {s : HS} {x : Plt} (h : HInv x.frm l s) (hs : srtP l) : HInv x.frm l (hmid s x) := by
 unfold hmid
 cases findV s.live x.veh with
 | none => exact h
 | some e => exact hdrop_inv h hs _
theorem hstep_inv {l : List Plt} {s : HS} {x : Plt} (h : HInv x.frm l s) (hl : s.live = liv l) (hs : srtP (l ++ [x])) : HInv x.frm (l ++ [x]) (hstep s x) ∧ (hstep s x).live = liv (l ++ [x]) := by
 unfold srtP at hs
 rw [List.pairwise_append] at hs
 have hlive : (hstep s x).live = liv (l ++ [x]) := by rw [hstep_live h.apart, liv_snoc, hl]
 have h2 := hdrop_inv (hmid_inv h hs.1) hs.1 x.plt
 refine ⟨⟨fun p t ht => ?_, h2.til, fun e he => by rwa [hlive] at he, by rw [hlive]; exact liv_apart _⟩, hlive⟩
 have := h2.eq p t ht
 show findH ((hdrop (hmid s x) x.plt x.frm).out p) t = _
 rw [this]
 unfold expH
 rw [early_snoc, if_neg (by omega)]
 cases hg : findP (liv (early l t)) p with
 | none => rfl
 | some a =>
   obtain ⟨a1, a2⟩ := findP_some hg
   have hat : a.frm ≤ t := by
    have := (List.mem_filter.1 (liv_mem a1)).2
    simpa using this
   have : a ∈ (hstep s x).live ↔ a ∈ (hdrop (hmid s x) x.plt x.frm).live := by
    show a ∈ (hdrop (hmid s x) x.plt x.frm).live ++ [x] ↔ _
    rw [List.mem_append, List.mem_singleton]
    exact ⟨fun q => q.resolve_right (by rintro rfl; omega), .inl⟩
   simp [this]
theorem hall_snoc (l : List Plt) (x : Plt) : hall (l ++ [x]) = hstep (hall l) x := by unfold hall; rw [List.foldl_append]; rfl
theorem hall_inv (l : List Plt) (hs : srtP l) : (hall l).live = liv l ∧ ∀ T, (∀ e ∈ l, e.frm ≤ T) → HInv T l (hall l) := by
 revert hs
 refine snoc_ind (P := fun l => srtP l → (hall l).live = liv l ∧ ∀ T, (∀ e ∈ l, e.frm ≤ T) → HInv T l (hall l)) ?_ ?_ l
 · intro _
   exact ⟨rfl, fun T _ => ⟨fun p t _ => rfl, fun p h hh => (List.not_mem_nil hh).elim, fun e he => (List.not_mem_nil he).elim, .nil⟩⟩
 · intro l x ih hs
   have hs' := hs
   unfold srtP at hs'
   rw [List.pairwise_append] at hs'
   obtain ⟨i1, i2⟩ := ih hs'.1
   have h1 := i2 x.frm (fun e he => hs'.2.2 e he x (by simp))
   have h2 := hstep_inv h1 i1 hs
   rw [hall_snoc]
   refine ⟨h2.2, fun T hT => ?_⟩
   have hx : x.frm ≤ T := hT x (by simp)
   refine h2.1.raise (fun e he => by rw [h2.2]; exact he) (fun e he => ?_) hx
   rcases List.mem_append.1 he with q | q
   · exact hs'.2.2 e q x (by simp)
   · rw [List.mem_singleton] at q; subst q; exact Int.le_refl _
def oTHiA272_1 : List (Nat × List Nat) := [(0, []), (1, []), (3, [0, 1]), (4, [0, 1]), (8, [0, 1, 3, 4]), (9, [0, 1, 3, 4]), (2, [3, 4, 8, 9]), (5, [8, 9]), (6, [8, 9]), (7, [8, 9]), (10, []), (11, []), (12, []), (13, []), (14, []), (15, []), (16, []), (17, []), (18, []), (19, []), (20, []), (21, [])]
def oTHiA211_2 : List (Nat × List Nat) := [(0, []), (1, []), (5, [0, 1]), (6, [0, 1]), (2, [5, 6]), (3, [5, 6]), (4, [5, 6]), (7, []), (8, []), (9, []), (10, [])]
def oTHiA211_16 : List (Nat × List Nat) := [(0, []), (1, []), (2, [0, 1]), (3, []), (5, [0, 1, 2, 3]), (6, [0, 1, 2, 3, 5]), (7, [0, 1, 2, 3, 5]), (8, [0, 1, 2, 3, 5]), (9, [0, 1, 2, 3, 5]), (10, [0, 1, 2, 3]), (4, [5, 6, 7, 8, 9, 10]), (11, []), (12, []), (13, []), (14, [])]
def oTHiA211_17 : List (Nat × List Nat) := [(0, []), (1, []), (3, [0, 1]), (4, [0, 1]), (5, [0, 1]), (6, [0, 1, 3, 4, 5]), (7, [0, 1, 3, 4, 5]), (8, [0, 1, 3, 4, 5]), (9, [0, 1]), (2, [3, 4, 5, 6, 7, 8, 9]), (10, []), (11, []), (12, []), (13, [])]
def oTHiA164_1 : List (Nat × List Nat) := [(0, []), (1, []), (11, [0, 1]), (12, [0, 1]), (2, [11, 12]), (3, [11, 12]), (4, [11, 12]), (5, [11, 12]), (6, [11, 12]), (7, [11, 12]), (8, [11, 12]), (9, [11, 12]), (10, [11, 12]), (13, []), (14, []), (15, []), (16, [])]
def oTHiA94_6 : List (Nat × List Nat) := [(0, []), (2, [0]), (3, [0]), (1, [2, 3]), (4, []), (5, []), (6, []), (7, [5, 6]), (8, [5, 6, 7]), (9, [5, 6, 7]), (10, [5, 6, 7]), (11, [5, 6]), (12, [5, 6]), (13, [5, 6]), (14, []), (15, []), (16, []), (17, []), (18, []), (19, [])]
structure Rdg where
 tm : Int
 st : List UInt8
 meter : Int
 fuel : Int
def rgF : Rdg → List DV := fun r => [.int .i64 r.tm, .str r.st, .int .i64 r.meter, .int .i64 r.fuel]
structure Leg where
 veh : List UInt8
 out : Rdg
 inn : Rdg
def lgF : Leg → List DV := fun x => [.str x.veh, .int .i64 x.out.tm, .str x.out.st, .int .i64 x.out.meter, .int .i64 x.out.fuel, .int .i64 x.inn.tm, .str x.inn.st, .int .i64 x.inn.meter, .int .i64 x.inn.fuel]
def rg0 : Rdg := ⟨0, [], 0, 0⟩
def lg0 : Leg := ⟨[], rg0, rg0⟩
abbrev legs (l : List Leg) : DV := seqD 9 lgF lg0 l
structure Hir where
 key : List UInt8
 drv : List UInt8
 frm : Int
 to : Int
 legs : List Leg
def hiF : Hir → List DV := fun h => [.str h.key, .str h.drv, .int .i64 h.frm, .int .i64 h.to, Go.Proofs.YtcjfniddeibbhaaGreatDoor.legs h.legs]
def hi0 : Hir := ⟨[], [], 0, 0, []⟩
abbrev hirs (l : List Hir) : DV := seqD 5 hiF hi0 l
abbrev hcell (h : Hir) : Res := .cells 130 [.d (.str h.key), .d (.str h.drv), .d (.int .i64 h.frm), .d (.int .i64 h.to), .d (Go.Proofs.YtcjfniddeibbhaaGreatDoor.legs h.legs)]
def lgK (x : Leg) : Prop := x.veh.length ≤ 2^40 ∧ x.out.st.length ≤ 2^40 ∧ x.inn.st.length ≤ 2^40
def hiK (h : Hir) : Prop := h.key.length ≤ 2^40 ∧ h.drv.length ≤ 2^40 ∧ h.legs.length ≤ 2^40 ∧ ∀ x ∈ h.legs, lgK x
def hiOk (l : List Hir) : Prop := l.length ≤ 2^40 ∧ ∀ h ∈ l, hiK h
def rdgE (r : Rdg) : Int := if ¬ (0 ≤ r.tm ∧ r.tm ≤ 5761439) then 1 else if isKeyB r.st = false then 5 else if ¬ ((0 ≤ r.meter ∧ r.meter ≤ 999999) ∧ (0 ≤ r.fuel ∧ r.fuel ≤ 8)) then 1 else 0
def timE (a b : Int) : Int := if a < 0 ∨ b ≤ a ∨ 5761439 < b then 1 else if 172800 < b - a then 2 else 0
def legE (h : Hir) (i : Nat) : Int :=
 if isKeyB (h.legs.getD i lg0).veh = false then 5
 else if rdgE (h.legs.getD i lg0).out ≠ 0 then rdgE (h.legs.getD i lg0).out
 else if i = 0 ∧ (h.legs.getD i lg0).out.tm ≠ h.frm then 7
 else if 0 < i ∧ (h.legs.getD i lg0).out.tm ≠ (h.legs.getD (i - 1) lg0).inn.tm then 7
 else if 0 < i ∧ (h.legs.getD i lg0).veh = (h.legs.getD (i - 1) lg0).veh then 16
 else if 0 < i ∧ (h.legs.getD i lg0).out.st ≠ (h.legs.getD (i - 1) lg0).inn.st then 8
 else if (h.legs.getD i lg0).inn.tm = -1 then (if ¬ ((h.legs.getD i lg0).inn.st = [] ∧ (h.legs.getD i lg0).inn.meter = 0 ∧ (h.legs.getD i lg0).inn.fuel = 0) then 3 else if (i : Int) < (h.legs.length : Int) - 1 then 11 else 0)
 else if rdgE (h.legs.getD i lg0).inn ≠ 0 then rdgE (h.legs.getD i lg0).inn
 else if (h.legs.getD i lg0).inn.tm ≤ (h.legs.getD i lg0).out.tm then 7 else 0
def hirE (h : Hir) : Int :=
 if isKeyB h.key = false ∨ isKeyB h.drv = false then 5 else if timE h.frm h.to ≠ 0 then timE h.frm h.to
 else if h.legs.length = 0 then 3 else if 20 < h.legs.length then 2 else firstAt (legE h) h.legs.length
def hirsE1 (l : List Hir) (i : Nat) : Int := if hirE (l.getD i hi0) ≠ 0 then hirE (l.getD i hi0) else if 0 < i ∧ strLe (l.getD i hi0).key (l.getD (i - 1) hi0).key = true then 7 else 0
def hirsE (l : List Hir) : Int := if 500 < l.length then 2 else firstAt (hirsE1 l) l.length
theorem z220 (n : Int) : FSpec Tryz.prog 92 [.d (.int .i64 n)] [] (fun x o => x = .d (.int .i64 (if 0 ≤ n ∧ n ≤ 5761439 then 0 else 1)) ∧ o = []) := by
 refine spec_of hT (C := []) Tryz.func92 rfl Tryz.call92 rfl rfl rfl ?_
 conv => whnf
 repeat' (first | (refine CallX.exact (s154 _) rfl rfl ?_; rotate_right; conv => whnf) | (refine CallX.exact (s107 _ _) rfl rfl ?_; rotate_right; conv => whnf) | (refine br_intro ?_ ?_ <;> intro hb <;> (try simp only [brs] at hb) <;> conv => whnf) | omega | (refine And.intro ?_ ?_; ((try dsimp only); first | omega | (refine szA rfl ?_; omega) | (refine szB rfl ?_; omega) | (unfold inI64; omega) | exact rfl | (simp only [lns] at *; omega) | decide | (unfold inI64; decide)); conv => whnf) | decide | assumption)
 refine .ret _ ?_
 conv => whnf
 refine ⟨[], ⟨?_, rfl⟩, trivial⟩
 conv => lhs; whnf
 congr 2
 grind
theorem z284 (r : Rdg) (h : r.st.length ≤ 2^40) : FSpec Tryz.prog 209 [.agg ((rgF r).map .d)] [] (fun x o => x = .d (.int .i64 (rdgE r)) ∧ o = []) := by
 refine spec_of hT (C := []) Tryz.func209 rfl Tryz.call209 rfl rfl rfl ?_
 conv => whnf
 repeat' (first | (refine CallX.exact (s133 _) rfl rfl ?_; rotate_right; conv => whnf) | (refine CallX.exact (s21 _ h) rfl rfl ?_; rotate_right; conv => whnf) | (refine CallX.exact (s110 _ _ _) rfl rfl ?_; rotate_right; conv => whnf) | (refine br_intro ?_ ?_ <;> intro hb <;> (try simp only [brs] at hb) <;> conv => whnf) | omega | (refine And.intro ?_ ?_; ((try dsimp only); first | omega | (refine szA rfl ?_; omega) | (refine szB rfl ?_; omega) | (unfold inI64; omega) | exact rfl | (simp only [lns] at *; omega) | decide | (unfold inI64; decide)); conv => whnf) | decide | assumption)
 all_goals
  refine .ret _ ?_
  conv => whnf
  refine ⟨[], ⟨?_, rfl⟩, trivial⟩
  conv => lhs; whnf
  congr 2
  unfold rdgE; grind
theorem z312 (r : Rdg) (h : r.st.length ≤ 2^40) : FSpec Tryz.prog 272 [.agg ((rgF r).map .d)] [] (fun x o => x = .d (.int .i64 (rdgE r)) ∧ o = []) := by
 refine spec_of hT (C := []) Tryz.func272 rfl Tryz.call272 rfl rfl rfl ?_
 conv => whnf
 repeat' (first | (refine CallX.exact (z220 _) rfl rfl ?_; rotate_right; conv => whnf) | (refine CallX.exact (s108 _ h) rfl rfl ?_; rotate_right; conv => whnf) | (refine CallX.exact (s119 _ _ _) rfl rfl ?_; rotate_right; conv => whnf) | (refine CallX.exact (s107 _ _) rfl rfl ?_; rotate_right; conv => whnf) | (refine CallX.pure (s105 [_, _, _] (by simp)) ⟨SV.le_lit (by rfl) (by rfl), trivial⟩ rfl ?_; conv => whnf) | (refine br_intro ?_ ?_ <;> intro hb <;> (try simp only [brs] at hb) <;> conv => whnf) | (refine RegX.rule (id := 1) hT rfl [] oTHiA272_1 (by decide +kernel) ?_; conv => whnf) | omega | (refine And.intro ?_ ?_; ((try dsimp only); first | omega | (refine szA rfl ?_; omega) | (refine szB rfl ?_; omega) | (unfold inI64; omega) | exact rfl | (simp only [lns] at *; omega) | decide | (unfold inI64; decide)); conv => whnf) | decide | assumption)
 all_goals
  refine .ret _ ?_
  conv => whnf
  refine ⟨[], ⟨?_, rfl⟩, trivial⟩
  conv => lhs; whnf
  congr 2
  unfold rdgE; simp only [firstE]; grind
theorem z239 (a b : Int) : FSpec Tryz.prog 162 [.agg [.d (.int .i64 a), .d (.int .i64 b)]] [] (fun x o => x = .d (.int .i64 (timE a b)) ∧ o = []) := by
 refine spec_of hT (C := []) Tryz.func162 rfl Tryz.call162 rfl rfl rfl ?_
 conv => whnf
 repeat' (first | (refine br_intro ?_ ?_ <;> intro hb <;> (try simp only [brs] at hb) <;> conv => whnf) | omega | (refine And.intro ?_ ?_; ((try dsimp only); first | omega | (refine szA rfl ?_; omega) | (refine szB rfl ?_; omega) | (unfold inI64; omega) | exact rfl | (simp only [lns] at *; omega) | decide | (unfold inI64; decide)); conv => whnf) | decide | assumption)
 all_goals
  refine .ret _ ?_
  conv => whnf
  refine ⟨[], ⟨?_, rfl⟩, trivial⟩
  conv => lhs; whnf
  congr 2
  unfold timE; grind
def daysW (a b : Int) : Int := (b - a + 1440 - 1).tdiv 1440
theorem daysW_lt {a b : Int} (h : a < b) : 120 < daysW a b ↔ 172800 < b - a := by
 unfold daysW
 rw [Int.tdiv_eq_ediv_of_nonneg (by omega)]
 omega
theorem z311 (a b : Int) (h : 0 ≤ a ∧ a < b ∧ b ≤ 5761439) : FSpec Tryz.prog 271 [.agg [.d (.int .i64 a), .d (.int .i64 b)]] [] (fun x o => x = .d (.int .i64 (daysW a b)) ∧ o = []) := by
 obtain ⟨h1, h2, h3⟩ := h
 have hd : inI64 ((b - a + 1440 - 1).tdiv 1440) := by unfold inI64; rw [Int.tdiv_eq_ediv_of_nonneg (by omega)]; omega
 refine spec_of hT (C := []) Tryz.func271 rfl Tryz.call271 rfl rfl rfl ?_
 conv => whnf
 repeat' (first | (refine And.intro hd ?_; conv => whnf) | (refine br_intro ?_ ?_ <;> intro hb <;> (try simp only [brs] at hb) <;> conv => whnf) | omega | (refine And.intro ?_ ?_; ((try dsimp only); first | omega | (refine szA rfl ?_; omega) | (refine szB rfl ?_; omega) | (unfold inI64; omega) | exact rfl | (simp only [lns] at *; omega) | decide | (unfold inI64; decide)); conv => whnf) | decide | assumption)
 refine .ret _ ?_
 conv => whnf
 refine ⟨[], ⟨?_, rfl⟩, trivial⟩
 conv => lhs; whnf
 rfl
theorem z263 (a b : Int) : FSpec Tryz.prog 210 [.agg [.d (.int .i64 a), .d (.int .i64 b)]] [] (fun x o => x = .d (.int .i64 (timE a b)) ∧ o = []) := by
 have hd := daysW_lt (a := a) (b := b)
 refine spec_of hT (C := []) Tryz.func210 rfl Tryz.call210 rfl rfl rfl ?_
 conv => whnf
 repeat' (first | (refine CallX.exact (z311 a b ⟨by omega, by omega, by omega⟩) rfl rfl ?_; rotate_right; conv => whnf) | (refine CallX.exact (s107 _ _) rfl rfl ?_; rotate_right; conv => whnf) | (refine br_intro ?_ ?_ <;> intro hb <;> (try simp only [brs] at hb) <;> conv => whnf) | omega | (refine And.intro ?_ ?_; ((try dsimp only); first | omega | (refine szA rfl ?_; omega) | (refine szB rfl ?_; omega) | (unfold inI64; omega) | exact rfl | (simp only [lns] at *; omega) | decide | (unfold inI64; decide)); conv => whnf) | decide | assumption)
 all_goals
  refine .ret _ ?_
  conv => whnf
  refine ⟨[], ⟨?_, rfl⟩, trivial⟩
  conv => lhs; whnf
  congr 2
  unfold timE; grind
set_option maxHeartbeats 2000000 in
theorem z240 (h : Hir) (hk : hiK h) (i : Nat) (hi : i < h.legs.length) : FSpec Tryz.prog 163 [.agg ((hiF h).map .d), .d (.int .i64 i)] [] (fun x o => x = .d (.int .i64 (legE h i)) ∧ o = []) := by
 have e1 : (i : Int).toNat = i := Int.toNat_natCast i
 have hl := hk.2.2.1
 have hx : lgK (h.legs.getD (i : Int).toNat lg0) := hk.2.2.2 _ (getD_mem (by omega))
 refine spec_of hT (C := []) Tryz.func163 rfl Tryz.call163 rfl rfl rfl ?_
 conv => whnf
 repeat' (first | (refine CallX.exact (s21 _ hx.1) rfl rfl ?_; rotate_right; conv => whnf) | (refine CallX.exact (z284 (h.legs.getD (i : Int).toNat lg0).out hx.2.1) rfl rfl ?_; rotate_right; conv => whnf) | (refine CallX.exact (z284 (h.legs.getD (i : Int).toNat lg0).inn hx.2.2) rfl rfl ?_; rotate_right; conv => whnf) | (refine br_intro ?_ ?_ <;> intro hb <;> (try simp only [brs] at hb) <;> conv => whnf) | omega | (refine And.intro ?_ ?_; ((try dsimp only); first | omega | (refine szA rfl ?_; omega) | (refine szB rfl ?_; omega) | (unfold inI64; omega) | exact rfl | (simp only [lns] at *; omega) | decide | (unfold inI64; decide)); conv => whnf) | decide | assumption)
 all_goals
  refine .ret _ ?_
  conv => whnf
  refine ⟨[], ⟨?_, rfl⟩, trivial⟩
  conv => lhs; whnf
  congr 2
  clear hx hk
  simp only [e1, toNat_pred] at *
  unfold legE; grind
set_option maxHeartbeats 2000000 in
theorem z264 (h : Hir) (hk : hiK h) (i : Nat) (hi : i < h.legs.length) : FSpec Tryz.prog 211 [.agg ((hiF h).map .d), .d (.int .i64 i)] [] (fun x o => x = .d (.int .i64 (legE h i)) ∧ o = []) := by
 have e1 : (i : Int).toNat = i := Int.toNat_natCast i
 have hl := hk.2.2.1
 have hx : lgK (h.legs.getD (i : Int).toNat lg0) := hk.2.2.2 _ (getD_mem (by omega))
 refine spec_of hT (C := []) Tryz.func211 rfl Tryz.call211 rfl rfl rfl ?_
 conv => whnf
 repeat' (first | (refine CallX.exact (s108 _ hx.1) rfl rfl ?_; rotate_right; conv => whnf) | (refine CallX.exact (z312 (h.legs.getD (i : Int).toNat lg0).out hx.2.1) rfl rfl ?_; rotate_right; conv => whnf) | (refine CallX.exact (z312 (h.legs.getD (i : Int).toNat lg0).inn hx.2.2) rfl rfl ?_; rotate_right; conv => whnf) | (refine CallX.exact (s107 _ _) rfl rfl ?_; rotate_right; conv => whnf) | (refine CallX.pure (s105 [_, _] (by simp)) ⟨SV.le_lit (by rfl) (by rfl), trivial⟩ rfl ?_; conv => whnf) | (refine br_intro ?_ ?_ <;> intro hb <;> (try simp only [brs] at hb) <;> conv => whnf) | (refine RegX.rule (id := 2) hT rfl [] oTHiA211_2 (by decide +kernel) ?_; conv => whnf) | (refine RegX.rule (id := 16) hT rfl [] oTHiA211_16 (by decide +kernel) ?_; conv => whnf) | (refine RegX.rule (id := 17) hT rfl [] oTHiA211_17 (by decide +kernel) ?_; conv => whnf) | omega | (refine And.intro ?_ ?_; ((try dsimp only); first | omega | (refine szA rfl ?_; omega) | (refine szB rfl ?_; omega) | (unfold inI64; omega) | exact rfl | (simp only [lns] at *; omega) | decide | (unfold inI64; decide)); conv => whnf) | decide | assumption)
 all_goals
  refine .ret _ ?_
  conv => whnf
  refine ⟨[], ⟨?_, rfl⟩, trivial⟩
  conv => lhs; whnf
  congr 2
  clear hx hk
  simp only [e1, toNat_pred, firstE] at *
  unfold legE; grind
theorem hirE_bad {h : Hir} (q : isKeyB h.key = false ∨ isKeyB h.drv = false) : hirE h = 5 := by unfold hirE; rw [if_pos q]
theorem hirE_time {h : Hir} (q1 : isKeyB h.key = true) (q2 : isKeyB h.drv = true) (q : timE h.frm h.to ≠ 0) : hirE h = timE h.frm h.to := by
 unfold hirE; rw [if_neg (by rw [q1, q2]; simp), if_pos q]
theorem hirE_legs {h : Hir} (q1 : isKeyB h.key = true) (q2 : isKeyB h.drv = true) (q : timE h.frm h.to = 0) : hirE h = if h.legs.length = 0 then 3 else if 20 < h.legs.length then 2 else firstAt (legE h) h.legs.length := by
 unfold hirE; rw [if_neg (by rw [q1, q2]; simp), if_neg (by omega)]
set_option maxHeartbeats 2000000 in
theorem z183 (h : Hir) (hk : hiK h) : FSpec Tryz.prog 89 [.agg ((hiF h).map .d)] [] (fun x o => x = .d (.int .i64 (hirE h)) ∧ o = []) := by
 have c1 := s21 h.key hk.1
 have c2 := s21 h.drv hk.2.1
 have c3 := z239 h.frm h.to
 have hl := hk.2.2.1
 cases q1 : isKeyB h.key with
 | false =>
   rw [hirE_bad (.inl q1)]
   rw [q1] at c1
   refine spec_of hT (C := []) Tryz.func89 rfl Tryz.call89 rfl rfl rfl ?_
   conv => whnf
   repeat' (first | (refine CallX.exact (c1) rfl rfl ?_; rotate_right; conv => whnf) | (refine br_intro ?_ ?_ <;> intro hb <;> (try simp only [brs] at hb) <;> conv => whnf) | omega | (refine And.intro ?_ ?_; ((try dsimp only); first | omega | (refine szA rfl ?_; omega) | (refine szB rfl ?_; omega) | (unfold inI64; omega) | exact rfl | (simp only [lns] at *; omega) | decide | (unfold inI64; decide)); conv => whnf) | decide | assumption)
   refine .ret _ ?_
   conv => whnf
   refine ⟨[], ⟨?_, rfl⟩, trivial⟩
   conv => lhs; whnf
 | true =>
 rw [q1] at c1
 cases q2 : isKeyB h.drv with
 | false =>
   rw [hirE_bad (.inr q2)]
   rw [q2] at c2
   refine spec_of hT (C := []) Tryz.func89 rfl Tryz.call89 rfl rfl rfl ?_
   conv => whnf
   repeat' (first | (refine CallX.exact (c1) rfl rfl ?_; rotate_right; conv => whnf) | (refine CallX.exact (c2) rfl rfl ?_; rotate_right; conv => whnf) | (refine br_intro ?_ ?_ <;> intro hb <;> (try simp only [brs] at hb) <;> conv => whnf) | omega | (refine And.intro ?_ ?_; ((try dsimp only); first | omega | (refine szA rfl ?_; omega) | (refine szB rfl ?_; omega) | (unfold inI64; omega) | exact rfl | (simp only [lns] at *; omega) | decide | (unfold inI64; decide)); conv => whnf) | decide | assumption)
   refine .ret _ ?_
   conv => whnf
   refine ⟨[], ⟨?_, rfl⟩, trivial⟩
   conv => lhs; whnf
 | true =>
 rw [q2] at c2
 by_cases q3 : timE h.frm h.to = 0
 · have hE := hirE_legs q1 q2 q3
   rw [hE]
   clear hE
   rw [q3] at c3
   by_cases q4 : h.legs.length = 0
   · rw [if_pos q4]
     refine spec_of hT (C := []) Tryz.func89 rfl Tryz.call89 rfl rfl rfl ?_
     conv => whnf
     repeat' (first | (refine CallX.exact (c1) rfl rfl ?_; rotate_right; conv => whnf) | (refine CallX.exact (c2) rfl rfl ?_; rotate_right; conv => whnf) | (refine CallX.exact (c3) rfl rfl ?_; rotate_right; conv => whnf) | (refine br_intro ?_ ?_ <;> intro hb <;> (try simp only [brs] at hb) <;> conv => whnf) | omega | (refine And.intro ?_ ?_; ((try dsimp only); first | omega | (refine szA rfl ?_; omega) | (refine szB rfl ?_; omega) | (unfold inI64; omega) | exact rfl | (simp only [lns] at *; omega) | decide | (unfold inI64; decide)); conv => whnf) | decide | assumption)
     all_goals first
      | (exfalso; omega)
      | (refine .ret _ ?_
         conv => whnf
         refine ⟨[], ⟨?_, rfl⟩, trivial⟩
         conv => lhs; whnf
         all_goals rfl)
   by_cases q5 : 20 < h.legs.length
   · rw [if_neg q4, if_pos q5]
     refine spec_of hT (C := []) Tryz.func89 rfl Tryz.call89 rfl rfl rfl ?_
     conv => whnf
     repeat' (first | (refine CallX.exact (c1) rfl rfl ?_; rotate_right; conv => whnf) | (refine CallX.exact (c2) rfl rfl ?_; rotate_right; conv => whnf) | (refine CallX.exact (c3) rfl rfl ?_; rotate_right; conv => whnf) | (refine br_intro ?_ ?_ <;> intro hb <;> (try simp only [brs] at hb) <;> conv => whnf) | omega | (refine And.intro ?_ ?_; ((try dsimp only); first | omega | (refine szA rfl ?_; omega) | (refine szB rfl ?_; omega) | (unfold inI64; omega) | exact rfl | (simp only [lns] at *; omega) | decide | (unfold inI64; decide)); conv => whnf) | decide | assumption)
     all_goals first
      | (exfalso; omega)
      | (refine .ret _ ?_
         conv => whnf
         refine ⟨[], ⟨?_, rfl⟩, trivial⟩
         conv => lhs; whnf
         all_goals rfl)
   obtain ⟨F, hfin⟩ : ∃ F : Int, F = firstAt (legE h) h.legs.length := ⟨_, rfl⟩
   rw [if_neg q4, if_neg q5, ← hfin]
   refine spec_of hT (C := []) Tryz.func89 rfl Tryz.call89 rfl rfl rfl ?_
   conv => whnf
   repeat' (first | (refine CallX.exact (c1) rfl rfl ?_; rotate_right; conv => whnf) | (refine CallX.exact (c2) rfl rfl ?_; rotate_right; conv => whnf) | (refine CallX.exact (c3) rfl rfl ?_; rotate_right; conv => whnf) | (refine br_intro ?_ ?_ <;> intro hb <;> (try simp only [brs] at hb) <;> conv => whnf) | omega | (refine And.intro ?_ ?_; ((try dsimp only); first | omega | (refine szA rfl ?_; omega) | (refine szB rfl ?_; omega) | (unfold inI64; omega) | exact rfl | (simp only [lns] at *; omega) | decide | (unfold inI64; decide)); conv => whnf) | decide | assumption)
   all_goals first
    | (exfalso; omega)
    | skip
   refine LoopX.rule hT (C := []) (ι := Nat) (fun i => i ≤ h.legs.length ∧ ∀ j, j < i → legE h j = 0) (fun i => mkSt [(1, .ptr 1 0), (34, .d (.int .i64 h.legs.length)), (35, .d (.int .i64 i))] [(1, hcell h)]) (fun i => h.legs.length - i) 0 ⟨by omega, by omega⟩ (by (refine Entails.mk' [(1, 1)] rfl rfl ?_ ?_ <;> repeat' (first | exact True.intro | exact lr | exact rr | exact SV.le_int (by omega) | exact SV.le_any _ | refine And.intro ?_ ?_)); done) ?_
   rintro i ⟨p1, p2⟩
   have e1 : (i : Int).toNat = i := Int.toNat_natCast i
   conv => whnf
   repeat' (first | (refine CallX.pure (z240 h hk i (by omega)) ⟨lr, lr, trivial⟩ rfl ?_; conv => whnf) | (refine br_intro ?_ ?_ <;> intro hb <;> (try simp only [brs] at hb) <;> conv => whnf) | omega | (refine And.intro ?_ ?_; ((try dsimp only); first | omega | (refine szA rfl ?_; omega) | (refine szB rfl ?_; omega) | (unfold inI64; omega) | exact rfl | (simp only [lns] at *; omega) | decide | (unfold inI64; decide)); conv => whnf) | decide | assumption)
   · refine .ret _ ?_
     conv => whnf
     refine ⟨[], ⟨?_, rfl⟩, trivial⟩
     conv => lhs; whnf
     congr 2
     rw [hfin]
     exact (firstAt_eq (by omega) p2 (by simpa using hb) rfl).symm
   · exact ⟨i + 1, ⟨by omega, first_step p2 (by simpa using hb)⟩, by omega, (by (refine Entails.mk' [(1, 1)] rfl rfl ?_ ?_ <;> repeat' (first | exact True.intro | exact lr | exact rr | exact SV.le_int (by omega) | exact SV.le_any _ | refine And.intro ?_ ?_)); done)⟩
   · refine .ret _ ?_
     conv => whnf
     refine ⟨[], ⟨?_, rfl⟩, trivial⟩
     conv => lhs; whnf
     congr 2
     have : i = h.legs.length := by omega
     subst this
     rw [hfin, firstAt_zero p2]
 · rw [hirE_time q1 q2 q3]
   generalize timE h.frm h.to = E at c3 q3
   refine spec_of hT (C := []) Tryz.func89 rfl Tryz.call89 rfl rfl rfl ?_
   conv => whnf
   repeat' (first | (refine CallX.exact (c1) rfl rfl ?_; rotate_right; conv => whnf) | (refine CallX.exact (c2) rfl rfl ?_; rotate_right; conv => whnf) | (refine CallX.exact (c3) rfl rfl ?_; rotate_right; conv => whnf) | (refine br_intro ?_ ?_ <;> intro hb <;> (try simp only [brs] at hb) <;> conv => whnf) | omega | (refine And.intro ?_ ?_; ((try dsimp only); first | omega | (refine szA rfl ?_; omega) | (refine szB rfl ?_; omega) | (unfold inI64; omega) | exact rfl | (simp only [lns] at *; omega) | decide | (unfold inI64; decide)); conv => whnf) | decide | assumption)
   all_goals first
    | (exfalso; omega)
    | (refine .ret _ ?_
       conv => whnf
       refine ⟨[], ⟨?_, rfl⟩, trivial⟩
       conv => lhs; whnf
       all_goals rfl)
set_option maxHeartbeats 2000000 in
theorem z210 (h : Hir) (hk : hiK h) : FSpec Tryz.prog 164 [.agg ((hiF h).map .d)] [] (fun x o => x = .d (.int .i64 (hirE h)) ∧ o = []) := by
 have c1 := s108 h.key hk.1
 have c2 := s108 h.drv hk.2.1
 have c3 := z263 h.frm h.to
 have hl := hk.2.2.1
 have c5 := s105 [5, timE h.frm h.to] (by simp)
 rw [show firstE [5, timE h.frm h.to] = 5 from rfl] at c5
 have c6 := s105 [0, timE h.frm h.to] (by simp)
 rw [show firstE [0, timE h.frm h.to] = timE h.frm h.to from by simp only [firstE]; grind] at c6
 cases q1 : isKeyB h.key with
 | false =>
   rw [hirE_bad (.inl q1)]
   rw [q1] at c1
   generalize timE h.frm h.to = E at c3 c5 c6
   refine spec_of hT (C := []) Tryz.func164 rfl Tryz.call164 rfl rfl rfl ?_
   conv => whnf
   repeat' (first | (refine CallX.exact (c1) rfl rfl ?_; rotate_right; conv => whnf) | (refine CallX.exact (c3) rfl rfl ?_; rotate_right; conv => whnf) | (refine CallX.exact (s107 _ _) rfl rfl ?_; rotate_right; conv => whnf) | (refine CallX.pure c5 ⟨SV.le_lit (by rfl) (by rfl), trivial⟩ rfl ?_; conv => whnf) | (refine br_intro ?_ ?_ <;> intro hb <;> (try simp only [brs] at hb) <;> conv => whnf) | (refine RegX.rule (id := 1) hT rfl [] oTHiA164_1 (by decide +kernel) ?_; conv => whnf) | omega | (refine And.intro ?_ ?_; ((try dsimp only); first | omega | (refine szA rfl ?_; omega) | (refine szB rfl ?_; omega) | (unfold inI64; omega) | exact rfl | (simp only [lns] at *; omega) | decide | (unfold inI64; decide)); conv => whnf) | decide | assumption)
   refine .ret _ ?_
   conv => whnf
   refine ⟨[], ⟨?_, rfl⟩, trivial⟩
   conv => lhs; whnf
 | true =>
 rw [q1] at c1
 cases q2 : isKeyB h.drv with
 | false =>
   rw [hirE_bad (.inr q2)]
   rw [q2] at c2
   generalize timE h.frm h.to = E at c3 c5 c6
   refine spec_of hT (C := []) Tryz.func164 rfl Tryz.call164 rfl rfl rfl ?_
   conv => whnf
   repeat' (first | (refine CallX.exact (c1) rfl rfl ?_; rotate_right; conv => whnf) | (refine CallX.exact (c2) rfl rfl ?_; rotate_right; conv => whnf) | (refine CallX.exact (c3) rfl rfl ?_; rotate_right; conv => whnf) | (refine CallX.exact (s107 _ _) rfl rfl ?_; rotate_right; conv => whnf) | (refine CallX.pure c5 ⟨SV.le_lit (by rfl) (by rfl), trivial⟩ rfl ?_; conv => whnf) | (refine br_intro ?_ ?_ <;> intro hb <;> (try simp only [brs] at hb) <;> conv => whnf) | (refine RegX.rule (id := 1) hT rfl [] oTHiA164_1 (by decide +kernel) ?_; conv => whnf) | omega | (refine And.intro ?_ ?_; ((try dsimp only); first | omega | (refine szA rfl ?_; omega) | (refine szB rfl ?_; omega) | (unfold inI64; omega) | exact rfl | (simp only [lns] at *; omega) | decide | (unfold inI64; decide)); conv => whnf) | decide | assumption)
   refine .ret _ ?_
   conv => whnf
   refine ⟨[], ⟨?_, rfl⟩, trivial⟩
   conv => lhs; whnf
 | true =>
 rw [q2] at c2
 by_cases q3 : timE h.frm h.to = 0
 · have hE := hirE_legs q1 q2 q3
   rw [hE]
   clear hE
   rw [q3] at c3 c6
   by_cases q4 : h.legs.length = 0
   · rw [if_pos q4]
     refine spec_of hT (C := []) Tryz.func164 rfl Tryz.call164 rfl rfl rfl ?_
     conv => whnf
     repeat' (first | (refine CallX.exact (c1) rfl rfl ?_; rotate_right; conv => whnf) | (refine CallX.exact (c2) rfl rfl ?_; rotate_right; conv => whnf) | (refine CallX.exact (c3) rfl rfl ?_; rotate_right; conv => whnf) | (refine CallX.exact (s107 _ _) rfl rfl ?_; rotate_right; conv => whnf) | (refine CallX.pure c6 ⟨SV.le_lit (by rfl) (by rfl), trivial⟩ rfl ?_; conv => whnf) | (refine br_intro ?_ ?_ <;> intro hb <;> (try simp only [brs] at hb) <;> conv => whnf) | (refine RegX.rule (id := 1) hT rfl [] oTHiA164_1 (by decide +kernel) ?_; conv => whnf) | omega | (refine And.intro ?_ ?_; ((try dsimp only); first | omega | (refine szA rfl ?_; omega) | (refine szB rfl ?_; omega) | (unfold inI64; omega) | exact rfl | (simp only [lns] at *; omega) | decide | (unfold inI64; decide)); conv => whnf) | decide | assumption)
     all_goals first
      | (exfalso; omega)
      | (refine .ret _ ?_
         conv => whnf
         refine ⟨[], ⟨?_, rfl⟩, trivial⟩
         conv => lhs; whnf
         all_goals rfl)
   by_cases q5 : 20 < h.legs.length
   · rw [if_neg q4, if_pos q5]
     refine spec_of hT (C := []) Tryz.func164 rfl Tryz.call164 rfl rfl rfl ?_
     conv => whnf
     repeat' (first | (refine CallX.exact (c1) rfl rfl ?_; rotate_right; conv => whnf) | (refine CallX.exact (c2) rfl rfl ?_; rotate_right; conv => whnf) | (refine CallX.exact (c3) rfl rfl ?_; rotate_right; conv => whnf) | (refine CallX.exact (s107 _ _) rfl rfl ?_; rotate_right; conv => whnf) | (refine CallX.pure c6 ⟨SV.le_lit (by rfl) (by rfl), trivial⟩ rfl ?_; conv => whnf) | (refine br_intro ?_ ?_ <;> intro hb <;> (try simp only [brs] at hb) <;> conv => whnf) | (refine RegX.rule (id := 1) hT rfl [] oTHiA164_1 (by decide +kernel) ?_; conv => whnf) | omega | (refine And.intro ?_ ?_; ((try dsimp only); first | omega | (refine szA rfl ?_; omega) | (refine szB rfl ?_; omega) | (unfold inI64; omega) | exact rfl | (simp only [lns] at *; omega) | decide | (unfold inI64; decide)); conv => whnf) | decide | assumption)
     all_goals first
      | (exfalso; omega)
      | (refine .ret _ ?_
         conv => whnf
         refine ⟨[], ⟨?_, rfl⟩, trivial⟩
         conv => lhs; whnf
         all_goals rfl)
   obtain ⟨F, hfin⟩ : ∃ F : Int, F = firstAt (legE h) h.legs.length := ⟨_, rfl⟩
   rw [if_neg q4, if_neg q5, ← hfin]
   refine spec_of hT (C := []) Tryz.func164 rfl Tryz.call164 rfl rfl rfl ?_
   conv => whnf
   repeat' (first | (refine CallX.exact (c1) rfl rfl ?_; rotate_right; conv => whnf) | (refine CallX.exact (c2) rfl rfl ?_; rotate_right; conv => whnf) | (refine CallX.exact (c3) rfl rfl ?_; rotate_right; conv => whnf) | (refine CallX.exact (s107 _ _) rfl rfl ?_; rotate_right; conv => whnf) | (refine CallX.pure c6 ⟨SV.le_lit (by rfl) (by rfl), trivial⟩ rfl ?_; conv => whnf) | (refine br_intro ?_ ?_ <;> intro hb <;> (try simp only [brs] at hb) <;> conv => whnf) | (refine RegX.rule (id := 1) hT rfl [] oTHiA164_1 (by decide +kernel) ?_; conv => whnf) | omega | (refine And.intro ?_ ?_; ((try dsimp only); first | omega | (refine szA rfl ?_; omega) | (refine szB rfl ?_; omega) | (unfold inI64; omega) | exact rfl | (simp only [lns] at *; omega) | decide | (unfold inI64; decide)); conv => whnf) | decide | assumption)
   all_goals first
    | (exfalso; omega)
    | skip
   refine LoopX.rule hT (C := []) (ι := Nat) (fun i => i ≤ h.legs.length ∧ ∀ j, j < i → legE h j = 0) (fun i => mkSt [(1, .ptr 1 0), (37, .d (.int .i64 h.legs.length)), (38, .d (.int .i64 i))] [(1, hcell h)]) (fun i => h.legs.length - i) 0 ⟨by omega, by omega⟩ (by (refine Entails.mk' [(1, 1)] rfl rfl ?_ ?_ <;> repeat' (first | exact True.intro | exact lr | exact rr | exact SV.le_int (by omega) | exact SV.le_any _ | refine And.intro ?_ ?_)); done) ?_
   rintro i ⟨p1, p2⟩
   have e1 : (i : Int).toNat = i := Int.toNat_natCast i
   conv => whnf
   repeat' (first | (refine CallX.pure (z264 h hk i (by omega)) ⟨lr, lr, trivial⟩ rfl ?_; conv => whnf) | (refine br_intro ?_ ?_ <;> intro hb <;> (try simp only [brs] at hb) <;> conv => whnf) | (refine RegX.rule (id := 1) hT rfl [] oTHiA164_1 (by decide +kernel) ?_; conv => whnf) | omega | (refine And.intro ?_ ?_; ((try dsimp only); first | omega | (refine szA rfl ?_; omega) | (refine szB rfl ?_; omega) | (unfold inI64; omega) | exact rfl | (simp only [lns] at *; omega) | decide | (unfold inI64; decide)); conv => whnf) | decide | assumption)
   · refine .ret _ ?_
     conv => whnf
     refine ⟨[], ⟨?_, rfl⟩, trivial⟩
     conv => lhs; whnf
     congr 2
     rw [hfin]
     exact (firstAt_eq (by omega) p2 (by simpa using hb) rfl).symm
   · exact ⟨i + 1, ⟨by omega, first_step p2 (by simpa using hb)⟩, by omega, (by (refine Entails.mk' [(1, 1)] rfl rfl ?_ ?_ <;> repeat' (first | exact True.intro | exact lr | exact rr | exact SV.le_int (by omega) | exact SV.le_any _ | refine And.intro ?_ ?_)); done)⟩
   · refine .ret _ ?_
     conv => whnf
     refine ⟨[], ⟨?_, rfl⟩, trivial⟩
     conv => lhs; whnf
     congr 2
     have : i = h.legs.length := by omega
     subst this
     rw [hfin, firstAt_zero p2]
 · rw [hirE_time q1 q2 q3]
   generalize timE h.frm h.to = E at c3 q3 c5 c6
   refine spec_of hT (C := []) Tryz.func164 rfl Tryz.call164 rfl rfl rfl ?_
   conv => whnf
   repeat' (first | (refine CallX.exact (c1) rfl rfl ?_; rotate_right; conv => whnf) | (refine CallX.exact (c2) rfl rfl ?_; rotate_right; conv => whnf) | (refine CallX.exact (c3) rfl rfl ?_; rotate_right; conv => whnf) | (refine CallX.exact (s107 _ _) rfl rfl ?_; rotate_right; conv => whnf) | (refine CallX.pure c6 ⟨SV.le_lit (by rfl) (by rfl), trivial⟩ rfl ?_; conv => whnf) | (refine br_intro ?_ ?_ <;> intro hb <;> (try simp only [brs] at hb) <;> conv => whnf) | (refine RegX.rule (id := 1) hT rfl [] oTHiA164_1 (by decide +kernel) ?_; conv => whnf) | omega | (refine And.intro ?_ ?_; ((try dsimp only); first | omega | (refine szA rfl ?_; omega) | (refine szB rfl ?_; omega) | (unfold inI64; omega) | exact rfl | (simp only [lns] at *; omega) | decide | (unfold inI64; decide)); conv => whnf) | decide | assumption)
   all_goals first
    | (exfalso; omega)
    | (refine .ret _ ?_
       conv => whnf
       refine ⟨[], ⟨?_, rfl⟩, trivial⟩
       conv => lhs; whnf
       all_goals rfl)
set_option maxHeartbeats 2000000 in
theorem z124 (l : List Hir) (hk : hiOk l) : FSpec Tryz.prog 94 [.d (hirs l)] [] (fun x r => x = .d (.int .i64 (hirsE l)) ∧ r = []) := by
 refine spec_of hT (C := []) Tryz.func94 rfl Tryz.call94 rfl rfl rfl ?_
 conv => whnf
 refine br_intro (fun h0 => ?_) (fun h0 => ?_)
 · simp at h0
   conv => whnf
   refine .ret _ ?_
   conv => whnf
   refine ⟨[], ⟨?_, rfl⟩, trivial⟩
   conv => lhs; whnf
   unfold hirsE; rw [if_pos (by omega)]
 simp at h0
 conv => whnf
 refine LoopX.rule hT (C := []) (ι := Nat) (fun i => i ≤ l.length ∧ ∀ j, j < i → hirsE1 l j = 0) (fun i => mkSt [(0, .d (hirs l)), (9, .d (hirs l)), (10, .d (.int .i64 l.length)), (11, .d (.int .i64 i))] []) (fun i => l.length - i) 0 ⟨by omega, by omega⟩ (by (refine Entails.mk' [] rfl rfl ?_ ?_ <;> repeat' (first | exact True.intro | exact lr | exact rr | exact SV.le_int (by omega) | exact SV.le_any _ | refine And.intro ?_ ?_)); done) ?_
 rintro i ⟨p1, p2⟩
 have hx : (i : Int) < l.length → hiK (l.getD (i : Int).toNat hi0) := fun hi => hk.2 _ (getD_mem (by omega))
 have e1 : (i : Int).toNat = i := Int.toNat_natCast i
 have em : (max ((i : Int) - 1) 0).toNat = i - 1 := by omega
 have hbad : ∀ e : Int, i < l.length → e ≠ 0 → hirsE1 l i = e → hirsE l = e := fun e h h1 h2 => by
  unfold hirsE; rw [if_neg (by omega)]
  exact firstAt_eq h p2 h1 h2
 conv => whnf
 repeat' (first | (refine And.intro (show 0 ≤ max ((i : Int) - 1) 0 ∧ max ((i : Int) - 1) 0 < (l.length : Int) from by omega) ?_; conv => whnf) | (refine CallX.pure (z210 (l.getD (i : Int).toNat hi0) (hx (by omega))) ⟨lr, trivial⟩ rfl ?_; conv => whnf) | (refine CallX.exact (s107 _ _) rfl rfl ?_; rotate_right; conv => whnf) | (refine CallX.pure (s105 [_, _] (by simp)) ⟨SV.le_lit (by rfl) (by rfl), trivial⟩ rfl ?_; conv => whnf) | (refine br_intro ?_ ?_ <;> intro hb <;> (try simp only [brs] at hb) <;> conv => whnf) | (refine RegX.rule (id := 6) hT rfl [] oTHiA94_6 (by decide +kernel) ?_; conv => whnf) | omega | (refine And.intro ?_ ?_; ((try dsimp only); first | omega | (refine szA rfl ?_; omega) | (refine szB rfl ?_; omega) | (unfold inI64; omega) | exact rfl | (simp only [lns] at *; omega) | decide | (unfold inI64; decide)); conv => whnf) | decide | assumption)
 all_goals first
  | (refine ⟨i + 1, ⟨by omega, first_step p2 (by clear p2 hbad hk hx; simp only [e1, em, cond_true, firstE] at *; unfold hirsE1 strLe; grind)⟩, by omega, (by (refine Entails.mk' [] rfl rfl ?_ ?_ <;> repeat' (first | exact True.intro | exact lr | exact rr | exact SV.le_int (by omega) | exact SV.le_any _ | refine And.intro ?_ ?_)); done)⟩)
  | (refine .ret _ ?_
     conv => whnf
     refine ⟨[], ⟨?_, rfl⟩, trivial⟩
     conv => lhs; whnf
     congr 2
     first
      | exact (hbad _ (by omega) (by clear p2 hbad hk hx; simp only [e1, em, cond_true, firstE] at *; grind) (by clear p2 hbad hk hx; simp only [e1, em, cond_true, firstE] at *; unfold hirsE1 strLe; grind)).symm
      | (have : i = l.length := by omega
         subst this
         unfold hirsE; rw [if_neg (by omega), firstAt_zero p2]))
theorem SV.le_agg {l m : List SV} (h : argsLe0 l m) : SV.le (.agg l) (.agg m) := by
 obtain ⟨h1, h2⟩ := argsLe0_get h
 intro G β v hv
 cases hv with | agg _ vs hl hd =>
 refine .agg _ _ (hl.trans h1) (fun i y v hy hv => ?_)
 have hi : i < l.length := by rw [h1]; exact (List.getElem?_eq_some_iff.1 hy).1
 exact h2 i _ y (List.getElem?_eq_getElem hi) hy G β v (hd i _ v (List.getElem?_eq_getElem hi) hv)
def cellsLe : List SV → List SV → Prop
 | [], [] => True
 | x :: l, y :: m => SV.le x y ∧ cellsLe l m
 | _, _ => False
theorem cellsLe_get : ∀ {l m : List SV}, cellsLe l m → l.length = m.length ∧ ∀ (i : Nat) x y, l[i]? = some x → m[i]? = some y → SV.le x y := by
 intro l
 induction l with
 | nil =>
   intro m h
   cases m with
   | nil => exact ⟨rfl, by simp⟩
   | cons y m => exact h.elim
 | cons x l ih =>
   intro m h
   cases m with
   | nil => exact h.elim
   | cons y m =>
     obtain ⟨h1, h2⟩ := h
     obtain ⟨i1, i2⟩ := ih h2
     refine ⟨by simp [i1], fun i a b ha hb => ?_⟩
     cases i with
     | zero => simp at ha hb; subst ha; subst hb; exact h1
     | succ i => exact i2 i a b (by simpa using ha) (by simpa using hb)
theorem Res.le_cellsL {e : TypeId} {l m : List SV} (h : cellsLe l m) : Res.le (.cells e l) (.cells e m) :=
 Res.le_cells (cellsLe_get h).1 (cellsLe_get h).2
theorem getD_app_lt {α : Type} {l m : List α} {i : Nat} {z : α} (h : i < l.length) : (l ++ m).getD i z = l.getD i z := by
 rw [List.getD_eq_getElem?_getD, List.getD_eq_getElem?_getD, List.getElem?_append_left h]
def oTHiB203_0 : List (Nat × List Nat) := [(0, []), (1, []), (2, []), (3, []), (4, [0, 1, 2, 3]), (5, [0, 1, 2, 3]), (6, [0, 1, 2, 3]), (7, [0, 1, 2, 3]), (8, [0, 1, 2, 3]), (9, [0, 1, 2, 3]), (10, [0, 1, 2, 3, 4, 5, 6, 7, 8, 9]), (11, []), (12, []), (13, [])]
def oTHiB202_0 : List (Nat × List Nat) := [(0, []), (1, []), (2, []), (3, []), (4, [0, 1, 2, 3]), (5, [0, 1, 2, 3]), (6, [0, 1, 2, 3]), (7, [0, 1, 2, 3]), (8, [0, 1, 2, 3]), (9, [0, 1, 2, 3]), (10, [0, 1, 2, 3, 4, 5, 6, 7, 8, 9]), (11, []), (12, []), (13, [])]
def oTHiB202_1 : List (Nat × List Nat) := [(0, []), (1, [0]), (2, [0]), (3, [0]), (4, [0]), (5, [0, 1, 2, 3, 4]), (6, [0, 1, 2, 3, 4, 5]), (7, [0, 1, 2, 3, 4, 5, 6]), (8, [0, 1, 2, 3, 4]), (9, [0, 1, 2, 3, 4]), (10, [0]), (11, []), (12, []), (13, [])]
def rgB (r : Rdg) : Prop := r.st.length ≤ 8
def lgBd (x : Leg) : Prop := x.veh.length ≤ 8 ∧ rgB x.out ∧ rgB x.inn
def hiB (k : Nat) (h : Hir) : Prop := h.key.length ≤ 8 ∧ h.drv.length ≤ 8 ∧ h.legs.length ≤ k ∧ ∀ x ∈ h.legs, lgBd x
theorem hiB_le {k m : Nat} {h : Hir} (q : hiB k h) (hk : k ≤ m) : hiB m h := ⟨q.1, q.2.1, by have := q.2.2.1; omega, q.2.2.2⟩
theorem hiB_K {k : Nat} {h : Hir} (q : hiB k h) (hk : k ≤ 1000) : hiK h := by
 obtain ⟨h1, h2, h3, h4⟩ := q
 refine ⟨by omega, by omega, by omega, fun x hx => ?_⟩
 obtain ⟨a, b, c⟩ := h4 x hx
 unfold rgB at b c
 exact ⟨by omega, by omega, by omega⟩
theorem hiB_0 {k : Nat} : hiB k hi0 := ⟨by simp [hi0], by simp [hi0], by simp [hi0], fun x hx => by cases hx⟩
abbrev rcell (r : Rdg) : Res := .cells 160 [.d (.int .i64 r.tm), .d (.str r.st), .d (.int .i64 r.meter), .d (.int .i64 r.fuel)]
abbrev vcell (v : List UInt8) : Res := .cells 9 [.d (.str v)]
abbrev hbuf (h : Hir) (d : Nat) : Res := .cells 130 [.d (.str h.key), .d (.str h.drv), .d (.int .i64 h.frm), .d (.int .i64 h.to), .buf d]
abbrev zcell : Res := .cells 130 [.d (.str []), .d (.str []), .d (.int .i64 0), .d (.int .i64 0), .d .nilsl]
abbrev lgBf (l : List Leg) : Res := seqB 162 9 lgF lg0 l
def rgN : Rdg := ⟨-1, [], 0, 0⟩
def setIn (l : List Leg) (r : Rdg) : List Leg := l.set ((l.length : Int) - 1).toNat { l.getD ((l.length : Int) - 1).toNat lg0 with inn := r }
theorem setIn_len (l : List Leg) (r : Rdg) : (setIn l r).length = l.length := by simp [setIn]
theorem setIn_B {l : List Leg} {r : Rdg} (h : ∀ x ∈ l, lgBd x) (hr : rgB r) : ∀ x ∈ setIn l r, lgBd x := fun x hx => by
 unfold setIn at hx
 rcases List.mem_or_eq_of_mem_set hx with q | q
 · exact h x q
 · subst q
   by_cases e : ((l.length : Int) - 1).toNat < l.length
   · have := h _ (getD_mem (x := lg0) e)
     exact ⟨this.1, this.2.1, hr⟩
   · have : l.getD ((l.length : Int) - 1).toNat lg0 = lg0 := by rw [List.getD_eq_getElem?_getD, List.getElem?_eq_none (by omega)]; rfl
     rw [this]
     exact ⟨by simp [lg0], by simp [lg0, rgB, rg0], hr⟩
theorem Res.le_put_snocF {α : Type} {f : α → List DV} {d x y : α} {l : List α} {e k j off : Nat} {ds : List DV} {h : Nat → List DV} (hj : ∀ z, l[j]? = some z → setAtD (f z) off ds = f x) (hx : h 0 = f y) :
 Res.le (.buf e k (l.length + 1) (appGet l.length (fun i => bif Nat.beq i j then setAtD (rowF f d l i) off ds else rowF f d l i) h)) (seqB e k f d (l.set j x ++ [y])) := by
 refine Res.le_buf (by simp) (fun i hi => ?_)
 have h1 := rows_putF (f := f) (d := d) (l := l) (x := x) (j := j) (off := off) (ds := ds) hj
 rcases Nat.lt_or_ge i l.length with q | q
 · rw [appGet_lt q, h1 i q]
   simp only [rowF]
   rw [getD_app_lt (by simpa using q)]
 · have : i = l.length := by omega
   subst this
   rw [appGet_ge (Nat.le_refl _), Nat.sub_self, hx]
   simp only [rowF]
   congr 1
   rw [List.getD_eq_getElem?_getD, List.getElem?_append_right (by simp)]
   simp
theorem setIn_put {l : List Leg} {r : Rdg} : ∀ z, l[((l.length : Int) - 1).toNat]? = some z → setAtD (lgF z) 5 [.int .i64 r.tm, .str r.st, .int .i64 r.meter, .int .i64 r.fuel] = lgF { l.getD ((l.length : Int) - 1).toNat lg0 with inn := r } := fun z hz => by
 rw [List.getD_eq_getElem?_getD, hz]; rfl
theorem sRdg (n : Nat) (L : Nat → Int) (hL : Rok n L) (a : Int) (h0 : 0 ≤ a) (ha : a ≤ 2^38) (t : Int) (h1 : -2^41 ≤ t) (h2 : t ≤ 2^41) :
 FSpec Tryz.prog 145 [.ptr 1000000 0, .d (.int .i64 t)] [(1000000, strm n L a)] (fun y r => (∃ x : Rdg, rgB x ∧ y = .agg ((rgF x).map .d)) ∧ Moved n L a 12 r) := by
 refine spec_of hT (C := []) Tryz.func145 rfl Tryz.call145 rfl rfl rfl ?_
 conv => whnf
 repeat' (first | (refine CallX.of (s15 n L hL _ ?_ ?_ [[115, 49], [115, 49], [115, 50], [115, 51]] (by simp) (by simp)) [(1000000, 1000000)] rfl ⟨lr, SV.le_lit rfl rfl, trivial⟩ ⟨rr, trivial⟩ rfl rfl ?_; rotate_right; rintro x rout ⟨⟨u1, hu1, rfl⟩, ⟨c, c1, c2, rfl⟩⟩; have hw1 := mem_len hu1 rfl; refine ⟨rfl, ?_⟩; conv => whnf) | (refine CallX.of (s33 n L hL _ ?_ ?_ [0, 5, 100, 500, 999990, 999999] ?_ ?_) [(1000000, 1000000)] rfl ⟨lr, SV.le_lit rfl rfl, trivial⟩ ⟨rr, trivial⟩ rfl rfl ?_; rotate_right; rintro x rout ⟨⟨u2, hu2, rfl⟩, ⟨c, c1, c2, rfl⟩⟩; refine ⟨rfl, ?_⟩; conv => whnf) | (refine CallX.of (s64 n L hL _ ?_ ?_ 0 8 ?_ ?_ ?_ ?_) [(1000000, 1000000)] rfl ⟨lr, lr, lr, trivial⟩ ⟨rr, trivial⟩ rfl rfl ?_; rotate_right; rintro x rout ⟨⟨u3, hu3, hu3', rfl⟩, ⟨c, c1, c2, rfl⟩⟩; refine ⟨rfl, ?_⟩; conv => whnf) | (refine CallX.of (s84 n L hL _ ?_ ?_ _ ?_) [(1000000, 1000000)] rfl ⟨lr, lr, trivial⟩ ⟨rr, trivial⟩ rfl rfl ?_; rotate_right; rintro x rout ⟨⟨f, rfl⟩, ⟨c, c1, c2, rfl⟩⟩; refine ⟨rfl, ?_⟩; conv => whnf) | (refine CallX.of (s33 n L hL _ ?_ ?_ [t, t + 1, -1, 5761440] (by simp) (by simp)) [(1000000, 1000000)] rfl ⟨lr, SV.le_lit rfl rfl, trivial⟩ ⟨rr, trivial⟩ rfl rfl ?_; rotate_right; rintro x rout ⟨⟨u4, hu4, rfl⟩, ⟨c, c1, c2, rfl⟩⟩; refine ⟨rfl, ?_⟩; conv => whnf) | (refine CallX.of (s15 n L hL _ ?_ ?_ [[115, 49], [], [65]] (by simp) (by simp)) [(1000000, 1000000)] rfl ⟨lr, SV.le_lit rfl rfl, trivial⟩ ⟨rr, trivial⟩ rfl rfl ?_; rotate_right; rintro x rout ⟨⟨u5, hu5, rfl⟩, ⟨c, c1, c2, rfl⟩⟩; have hw1 := mem_len hu5 rfl; refine ⟨rfl, ?_⟩; conv => whnf) | (refine CallX.of (s104 n L hL _ ?_ ?_ 0 999999 ?_ ?_ ?_) [(1000000, 1000000)] rfl ⟨lr, lr, lr, trivial⟩ ⟨rr, trivial⟩ rfl rfl ?_; rotate_right; rintro x rout ⟨⟨u6, h6, h6', rfl⟩, ⟨c, c1, c2, rfl⟩⟩; refine ⟨rfl, ?_⟩; conv => whnf) | (refine CallX.of (s104 n L hL _ ?_ ?_ 0 8 ?_ ?_ ?_) [(1000000, 1000000)] rfl ⟨lr, lr, lr, trivial⟩ ⟨rr, trivial⟩ rfl rfl ?_; rotate_right; rintro x rout ⟨⟨u7, h7, h7', rfl⟩, ⟨c, c1, c2, rfl⟩⟩; refine ⟨rfl, ?_⟩; conv => whnf) | (refine br_intro ?_ ?_ <;> intro hb <;> (try simp only [brs] at hb) <;> conv => whnf) | omega | (refine And.intro ?_ ?_; ((try dsimp only); first | omega | (refine szA rfl ?_; omega) | (refine szB rfl ?_; omega) | (unfold inI64; omega) | exact rfl | (simp only [lns] at *; omega) | decide | (unfold inI64; decide)); conv => whnf) | decide | assumption)
 all_goals
  refine .ret _ ?_
  conv => whnf
  exact ⟨[(1000000, strm n L _)], ⟨⟨⟨_, _, _, _⟩, hw1, rfl⟩, _, by omega, by omega, rfl⟩, rr, trivial⟩
theorem pkB {l : List Int} {x : Int} (h : x ∈ l) (hl : (l.all fun y => decide (0 ≤ y) && decide (y ≤ 100000)) = true) : 0 ≤ x ∧ x ≤ 100000 := by
 have := List.all_eq_true.1 hl x h
 simpa using this
theorem sTim (n : Nat) (L : Nat → Int) (hL : Rok n L) (a : Int) (h0 : 0 ≤ a) (ha : a ≤ 2^38) :
 FSpec Tryz.prog 149 [.ptr 1000000 0] [(1000000, strm n L a)] (fun y r => (∃ u v : Int, y = .agg [.d (.int .i64 u), .d (.int .i64 v)]) ∧ Moved n L a 12 r) := by
 refine spec_of hT (C := []) Tryz.func149 rfl Tryz.call149 rfl rfl rfl ?_
 conv => whnf
 repeat' (first | (refine CallX.of (s33 n L hL _ ?_ ?_ [0, 0, 700, 5040, 5700, 6480, 6500, 8000, 10079, 20000] ?_ ?_) [(1000000, 1000000)] rfl ⟨lr, SV.le_lit rfl rfl, trivial⟩ ⟨rr, trivial⟩ rfl rfl ?_; rotate_right; rintro x rout ⟨⟨u1, hu1, rfl⟩, ⟨c, c1, c2, rfl⟩⟩; have hw1 := pkB hu1 (by decide); refine ⟨rfl, ?_⟩; conv => whnf) | (refine CallX.of (s33 n L hL _ ?_ ?_ [1, 59, 60, 61, 300, 1440, 1441, 1500, 2880, 4320, 5850, 7200, 8641, 10080, 11520, 14800, 21600] ?_ ?_) [(1000000, 1000000)] rfl ⟨lr, SV.le_lit rfl rfl, trivial⟩ ⟨rr, trivial⟩ rfl rfl ?_; rotate_right; rintro x rout ⟨⟨u2, hu2, rfl⟩, ⟨c, c1, c2, rfl⟩⟩; have hw2 := pkB hu2 (by decide); refine ⟨rfl, ?_⟩; conv => whnf) | (refine CallX.of (s84 n L hL _ ?_ ?_ _ ?_) [(1000000, 1000000)] rfl ⟨lr, lr, trivial⟩ ⟨rr, trivial⟩ rfl rfl ?_; rotate_right; rintro x rout ⟨⟨f, rfl⟩, ⟨c, c1, c2, rfl⟩⟩; refine ⟨rfl, ?_⟩; conv => whnf) | (refine CallX.of (s104 n L hL _ ?_ ?_ 0 1000 ?_ ?_ ?_) [(1000000, 1000000)] rfl ⟨lr, lr, lr, trivial⟩ ⟨rr, trivial⟩ rfl rfl ?_; rotate_right; rintro x rout ⟨⟨u3, h3, h3', rfl⟩, ⟨c, c1, c2, rfl⟩⟩; refine ⟨rfl, ?_⟩; conv => whnf) | (refine CallX.of (s33 n L hL _ ?_ ?_ [0, 1000, 5761439, 5761440, 172800, 173801] ?_ ?_) [(1000000, 1000000)] rfl ⟨lr, SV.le_lit rfl rfl, trivial⟩ ⟨rr, trivial⟩ rfl rfl ?_; rotate_right; rintro x rout ⟨⟨u4, hu4, rfl⟩, ⟨c, c1, c2, rfl⟩⟩; refine ⟨rfl, ?_⟩; conv => whnf) | (refine br_intro ?_ ?_ <;> intro hb <;> (try simp only [brs] at hb) <;> conv => whnf) | omega | (refine And.intro ?_ ?_; ((try dsimp only); first | omega | (refine szA rfl ?_; omega) | (refine szB rfl ?_; omega) | (unfold inI64; omega) | exact rfl | (simp only [lns] at *; omega) | decide | (unfold inI64; decide)); conv => whnf) | decide | assumption)
 all_goals
  refine .ret _ ?_
  conv => whnf
  exact ⟨[(1000000, strm n L _)], ⟨⟨_, _, rfl⟩, _, by omega, by omega, rfl⟩, rr, trivial⟩
theorem z265 (h : Hir) (hk : hiK h) : FSpec Tryz.prog 200 [.agg ((hiF h).map .d)] [] (fun y r => y = .tup [.agg ((hiF (if hirE h = 0 then h else hi0)).map .d), .d (.int .i64 (hirE h))] ∧ r = []) := by
 have h183 := z183 h hk
 by_cases q : hirE h = 0
 · rw [if_pos q]
   rw [q] at h183 ⊢
   refine spec_of hT (C := []) Tryz.func200 rfl Tryz.call200 rfl rfl rfl ?_
   conv => whnf
   repeat' (first | (refine CallX.exact (h183) rfl rfl ?_; rotate_right; conv => whnf) | (refine br_intro ?_ ?_ <;> intro hb <;> (try simp only [brs] at hb) <;> conv => whnf) | omega | (refine And.intro ?_ ?_; ((try dsimp only); first | omega | (refine szA rfl ?_; omega) | (refine szB rfl ?_; omega) | (unfold inI64; omega) | exact rfl | (simp only [lns] at *; omega) | decide | (unfold inI64; decide)); conv => whnf) | decide | assumption)
   refine .ret _ ?_
   conv => whnf
   exact ⟨[], ⟨rfl, rfl⟩, trivial⟩
 · rw [if_neg q]
   generalize hirE h = E at h183 q
   refine spec_of hT (C := []) Tryz.func200 rfl Tryz.call200 rfl rfl rfl ?_
   conv => whnf
   repeat' (first | (refine CallX.exact (h183) rfl rfl ?_; rotate_right; conv => whnf) | (refine br_intro ?_ ?_ <;> intro hb <;> (try simp only [brs] at hb) <;> conv => whnf) | omega | (refine And.intro ?_ ?_; ((try dsimp only); first | omega | (refine szA rfl ?_; omega) | (refine szB rfl ?_; omega) | (unfold inI64; omega) | exact rfl | (simp only [lns] at *; omega) | decide | (unfold inI64; decide)); conv => whnf) | decide | assumption)
   all_goals first
    | (exfalso; omega)
    | (refine .weak _ ?_
       conv => whnf
       exact ⟨.tup [.agg ((hiF hi0).map .d), .d (.int .i64 E)], [], SV.le_tup ⟨SV.le_agg ⟨lr, lr, lr, lr, SV.le_nilS, trivial⟩, lr, trivial⟩, ⟨rfl, rfl⟩, trivial⟩)
theorem z313 (h : Hir) (hl : h.legs.length ≤ 2^40) : FSpec Tryz.prog 269 [.agg ((hiF h).map .d)] [] (fun y r => (∃ b : Bool, (b = true → 1 ≤ h.legs.length) ∧ y = .d (.bool b)) ∧ r = []) := by
 refine spec_of hT (C := []) Tryz.func269 rfl Tryz.call269 rfl rfl rfl ?_
 conv => whnf
 repeat' (first | (refine br_intro ?_ ?_ <;> intro hb <;> (try simp only [brs] at hb) <;> conv => whnf) | omega | (refine And.intro ?_ ?_; ((try dsimp only); first | omega | (refine szA rfl ?_; omega) | (refine szB rfl ?_; omega) | (unfold inI64; omega) | exact rfl | (simp only [lns] at *; omega) | decide | (unfold inI64; decide)); conv => whnf) | decide | assumption)
 all_goals
  refine .ret _ ?_
  conv => whnf
  exact ⟨[], ⟨⟨_, fun q => (by first | omega | cases q), rfl⟩, rfl⟩, trivial⟩
theorem z216 (l : List Leg) (h1 : 1 ≤ l.length) (hl : l.length ≤ 2^20) : FSpec Tryz.prog 148 [.d (legs l)] [] (fun y r => y = .buf 7 ∧ r = [(7, lgBf l)]) := by
 refine spec_of hT (C := [5]) Tryz.func148 rfl Tryz.call148 rfl rfl rfl ?_
 conv => whnf
 rintro b hbn
 conv => whnf
 repeat' (first | (refine br_intro ?_ ?_ <;> intro hb <;> (try simp only [brs] at hb) <;> conv => whnf) | omega | (refine And.intro ?_ ?_; ((try dsimp only); first | omega | (refine szA rfl ?_; omega) | (refine szB rfl ?_; omega) | (unfold inI64; omega) | exact rfl | (simp only [lns] at *; omega) | decide | (unfold inI64; decide)); conv => whnf) | decide | assumption)
 · exfalso
   have := hbn (by assumption)
   omega
 · refine .ret _ ?_
   conv => whnf
   refine ⟨_, ⟨rfl, rfl⟩, Res.le_buf (by simp) (fun i hi => ?_), trivial⟩
   rw [appGet_ge (by omega)]; rfl
def startH (key drv : List UInt8) (a b : Int) (v : List UInt8) (o : Rdg) : Hir := ⟨key, drv, a, b, [⟨v, o, rgN⟩]⟩
theorem startH_B {key drv : List UInt8} {a b : Int} {v : List UInt8} {o : Rdg} (h1 : key.length ≤ 8) (h2 : drv.length ≤ 8) (h3 : v.length ≤ 8) (h4 : rgB o) : hiB 1 (startH key drv a b v o) :=
 ⟨h1, h2, by simp [startH], fun x hx => by simp [startH] at hx; subst hx; exact ⟨h3, h4, by simp [rgB, rgN]⟩⟩
theorem z212 (key drv : List UInt8) (a b : Int) (v : List UInt8) (o : Rdg) (h1 : key.length ≤ 8) (h2 : drv.length ≤ 8) (h3 : v.length ≤ 8) (h4 : rgB o) :
 FSpec Tryz.prog 144 [.d (.str key), .d (.str drv), .agg [.d (.int .i64 a), .d (.int .i64 b)], .d (.str v), .agg ((rgF o).map .d)] [] (fun y r => y = .tup [.agg ((hiF (if hirE (startH key drv a b v o) = 0 then startH key drv a b v o else hi0)).map .d), .d (.int .i64 (hirE (startH key drv a b v o)))] ∧ r = []) := by
 have h265 := z265 (startH key drv a b v o) (hiB_K (startH_B h1 h2 h3 h4) (by omega))
 generalize hirE (startH key drv a b v o) = E at h265 ⊢
 generalize hH : (if E = 0 then startH key drv a b v o else hi0) = H at h265 ⊢
 refine spec_of hT (C := []) Tryz.func144 rfl Tryz.call144 rfl rfl rfl ?_
 conv => whnf
 repeat' (first | (refine CallX.pure h265 ⟨SV.le_agg ⟨lr, lr, lr, lr, SV.le_lit rfl rfl, trivial⟩, trivial⟩ rfl ?_; conv => whnf) | (refine br_intro ?_ ?_ <;> intro hb <;> (try simp only [brs] at hb) <;> conv => whnf) | omega | (refine And.intro ?_ ?_; ((try dsimp only); first | omega | (refine szA rfl ?_; omega) | (refine szB rfl ?_; omega) | (unfold inI64; omega) | exact rfl | (simp only [lns] at *; omega) | decide | (unfold inI64; decide)); conv => whnf) | decide | assumption)
 refine .ret _ ?_
 conv => whnf
 exact ⟨[], ⟨rfl, rfl⟩, trivial⟩
theorem z268 (h : Hir) (h1 : 1 ≤ h.legs.length) (hl : h.legs.length ≤ 2^20) (r : Rdg) :
 FSpec Tryz.prog 203 [.ptr 1000001 0, .ptr 1000002 0] [(1000001, hbuf h 1000005), (1000002, rcell r), (1000005, lgBf h.legs)] (fun y o => y = .tup [] ∧ o = [(1000001, hbuf h 1000005), (1000002, rcell r), (1000005, lgBf (setIn h.legs r))]) := by
 refine spec_of hT (C := []) Tryz.func203 rfl Tryz.call203 rfl rfl rfl ?_
 conv => whnf
 repeat' (first | (refine br_intro ?_ ?_ <;> intro hb <;> (try simp only [brs] at hb) <;> conv => whnf) | (refine RegX.rule (id := 0) hT rfl [] oTHiB203_0 (by decide +kernel) ?_; conv => whnf) | omega | (refine And.intro ?_ ?_; ((try dsimp only); first | omega | (refine szA rfl ?_; omega) | (refine szB rfl ?_; omega) | (unfold inI64; omega) | exact rfl | (simp only [lns] at *; omega) | decide | (unfold inI64; decide)); conv => whnf) | decide | assumption)
 refine .ret _ ?_
 conv => whnf
 exact ⟨_, ⟨rfl, rfl⟩, rr, rr, Res.le_putF setIn_put, trivial⟩
theorem z267 (h : Hir) (h1 : 1 ≤ h.legs.length) (hl : h.legs.length ≤ 2^20) (ri ro : Rdg) (v : List UInt8) :
 FSpec Tryz.prog 202 [.ptr 1000001 0, .ptr 1000002 0, .ptr 1000003 0, .ptr 1000004 0] [(1000001, hbuf h 1000005), (1000002, rcell ri), (1000003, vcell v), (1000004, rcell ro), (1000005, lgBf h.legs)]
  (fun y o => y = .tup [] ∧ o = [(1000001, hbuf h 28), (1000002, rcell ri), (1000003, vcell v), (1000004, rcell ro), (28, lgBf (setIn h.legs ri ++ [⟨v, ro, rgN⟩]))]) := by
 refine spec_of hT (C := []) Tryz.func202 rfl Tryz.call202 rfl rfl rfl ?_
 conv => whnf
 repeat' (first | (refine br_intro ?_ ?_ <;> intro hb <;> (try simp only [brs] at hb) <;> conv => whnf) | (refine RegX.rule (id := 0) hT rfl [] oTHiB202_0 (by decide +kernel) ?_; conv => whnf) | (refine RegX.rule (id := 1) hT rfl [] oTHiB202_1 (by decide +kernel) ?_; conv => whnf) | omega | (refine And.intro ?_ ?_; ((try dsimp only); first | omega | (refine szA rfl ?_; omega) | (refine szB rfl ?_; omega) | (unfold inI64; omega) | exact rfl | (simp only [lns] at *; omega) | decide | (unfold inI64; decide)); conv => whnf) | decide | assumption)
 refine .ret _ ?_
 conv => whnf
 exact ⟨_, ⟨rfl, rfl⟩, rr, rr, rr, rr, Res.le_put_snocF setIn_put rfl, trivial⟩
set_option maxHeartbeats 1000000 in
theorem z266x (k : Nat) (hk : k ≤ 100) (h : Hir) (hh : hiB k h) (ri ro : Rdg) (v : List UInt8) (h2 : rgB ri) (h3 : rgB ro) (h4 : v.length ≤ 8) :
 FSpec Tryz.prog 201 [.agg ((hiF h).map .d), .fn 202 [.ptr 1000002 0, .ptr 1000003 0, .ptr 1000004 0]] [(1000002, rcell ri), (1000003, vcell v), (1000004, rcell ro)]
  (fun y o => (∃ (h' : Hir) (e : Int), hiB (k + 1) h' ∧ (e = 0 → 1 ≤ h'.legs.length) ∧ y = .tup [.agg ((hiF h').map .d), .d (.int .i64 e)]) ∧ o = [(1000002, rcell ri), (1000003, vcell v), (1000004, rcell ro)]) := by
 have hl := hh.2.2.1
 refine spec_of hT (C := []) Tryz.func201 rfl Tryz.call201 rfl rfl rfl ?_
 conv => whnf
 repeat' (first | (refine CallX.of (z313 h (by omega)) [] rfl ⟨lr, trivial⟩ trivial rfl rfl ?_; rintro x rout ⟨⟨b, hb1, rfl⟩, rfl⟩; refine ⟨rfl, ?_⟩; conv => whnf) | (refine br_intro ?_ ?_ <;> intro hb <;> (try simp only [brs] at hb) <;> conv => whnf) | omega | (refine And.intro ?_ ?_; ((try dsimp only); first | omega | (refine szA rfl ?_; omega) | (refine szB rfl ?_; omega) | (unfold inI64; omega) | exact rfl | (simp only [lns] at *; omega) | decide | (unfold inI64; decide)); conv => whnf) | decide | assumption)
 · refine .weak _ ?_
   conv => whnf
   exact ⟨.tup [.agg ((hiF hi0).map .d), .d (.int .i64 11)], _, SV.le_tup ⟨SV.le_agg ⟨lr, lr, lr, lr, SV.le_nilS, trivial⟩, lr, trivial⟩, ⟨⟨hi0, 11, hiB_0, fun q => absurd q (by decide), rfl⟩, rfl⟩, rr, rr, rr, trivial⟩
 · have hn : 1 ≤ h.legs.length := hb1 (by simpa using hb)
   obtain ⟨H, hH⟩ : ∃ H : Hir, H = ⟨h.key, h.drv, h.frm, h.to, setIn h.legs ri ++ [⟨v, ro, rgN⟩]⟩ := ⟨_, rfl⟩
   have hB : hiB (k + 1) H := by
    subst hH
    refine ⟨hh.1, hh.2.1, by simp [setIn_len]; omega, fun x hx => ?_⟩
    rcases List.mem_append.1 hx with q | q
    · exact setIn_B hh.2.2.2 h2 x q
    · simp at q; subst q; exact ⟨h4, h3, by simp [rgB, rgN]⟩
   have hHl : 1 ≤ H.legs.length := by subst hH; simp
   have h265 := z265 H (hiB_K hB (by omega))
   generalize hirE H = E at h265
   have hres : ∃ (h' : Hir), hiB (k + 1) h' ∧ (E = 0 → 1 ≤ h'.legs.length) ∧ (if E = 0 then H else hi0) = h' := by
    by_cases q : E = 0
    · rw [if_pos q]; exact ⟨H, hB, fun _ => hHl, rfl⟩
    · rw [if_neg q]; exact ⟨hi0, hiB_0, fun p => absurd p q, rfl⟩
   obtain ⟨H', hB', hl', he'⟩ := hres
   rw [he'] at h265
   subst hH
   refine CallX.of (z216 h.legs hn (by omega)) [(7, 20)] rfl ⟨lr, trivial⟩ trivial rfl rfl ?_
   rintro x rout ⟨rfl, rfl⟩
   refine ⟨rfl, ?_⟩
   conv => whnf
   repeat' (first | (refine CallX.of (z267 h hn (by omega) ri ro v) [(1000001, 2), (1000002, 1000002), (1000003, 1000003), (1000004, 1000004), (1000005, 20), (28, 40)] rfl ⟨lr, lr, lr, lr, trivial⟩ ⟨rr, rr, rr, rr, rr, trivial⟩ rfl rfl ?_; rintro x rout ⟨rfl, rfl⟩; refine ⟨rfl, ?_⟩; conv => whnf) | (refine CallX.freeze _ _ _ _ 40 162 9 _ _ rfl rfl ?_; refine CallX.pure h265 ⟨SV.le_agg ⟨lr, lr, lr, lr, lr, trivial⟩, trivial⟩ rfl ?_; conv => whnf) | (refine br_intro ?_ ?_ <;> intro hb <;> (try simp only [brs] at hb) <;> conv => whnf) | omega | (refine And.intro ?_ ?_; ((try dsimp only); first | omega | (refine szA rfl ?_; omega) | (refine szB rfl ?_; omega) | (unfold inI64; omega) | exact rfl | (simp only [lns] at *; omega) | decide | (unfold inI64; decide)); conv => whnf) | decide | assumption)
   refine .ret _ ?_
   conv => whnf
   exact ⟨_, ⟨⟨H', _, hB', hl', rfl⟩, rfl⟩, rr, rr, rr, trivial⟩
set_option maxHeartbeats 1000000 in
theorem z266c (k : Nat) (hk : k ≤ 100) (h : Hir) (hh : hiB k h) (ri : Rdg) (h2 : rgB ri) :
 FSpec Tryz.prog 201 [.agg ((hiF h).map .d), .fn 203 [.ptr 1000002 0]] [(1000002, rcell ri)]
  (fun y o => (∃ (h' : Hir) (e : Int), hiB k h' ∧ (e = 0 → 1 ≤ h'.legs.length) ∧ y = .tup [.agg ((hiF h').map .d), .d (.int .i64 e)]) ∧ o = [(1000002, rcell ri)]) := by
 have hl := hh.2.2.1
 refine spec_of hT (C := []) Tryz.func201 rfl Tryz.call201 rfl rfl rfl ?_
 conv => whnf
 repeat' (first | (refine CallX.of (z313 h (by omega)) [] rfl ⟨lr, trivial⟩ trivial rfl rfl ?_; rintro x rout ⟨⟨b, hb1, rfl⟩, rfl⟩; refine ⟨rfl, ?_⟩; conv => whnf) | (refine br_intro ?_ ?_ <;> intro hb <;> (try simp only [brs] at hb) <;> conv => whnf) | omega | (refine And.intro ?_ ?_; ((try dsimp only); first | omega | (refine szA rfl ?_; omega) | (refine szB rfl ?_; omega) | (unfold inI64; omega) | exact rfl | (simp only [lns] at *; omega) | decide | (unfold inI64; decide)); conv => whnf) | decide | assumption)
 · refine .weak _ ?_
   conv => whnf
   exact ⟨.tup [.agg ((hiF hi0).map .d), .d (.int .i64 11)], _, SV.le_tup ⟨SV.le_agg ⟨lr, lr, lr, lr, SV.le_nilS, trivial⟩, lr, trivial⟩, ⟨⟨hi0, 11, hiB_0, fun q => absurd q (by decide), rfl⟩, rfl⟩, rr, trivial⟩
 · have hn : 1 ≤ h.legs.length := hb1 (by simpa using hb)
   obtain ⟨H, hH⟩ : ∃ H : Hir, H = ⟨h.key, h.drv, h.frm, h.to, setIn h.legs ri⟩ := ⟨_, rfl⟩
   have hB : hiB k H := by
    subst hH
    exact ⟨hh.1, hh.2.1, by simp [setIn_len]; omega, setIn_B hh.2.2.2 h2⟩
   have hHl : 1 ≤ H.legs.length := by subst hH; simp [setIn_len]; omega
   have h265 := z265 H (hiB_K hB (by omega))
   generalize hirE H = E at h265
   have hres : ∃ (h' : Hir), hiB k h' ∧ (E = 0 → 1 ≤ h'.legs.length) ∧ (if E = 0 then H else hi0) = h' := by
    by_cases q : E = 0
    · rw [if_pos q]; exact ⟨H, hB, fun _ => hHl, rfl⟩
    · rw [if_neg q]; exact ⟨hi0, hiB_0, fun p => absurd p q, rfl⟩
   obtain ⟨H', hB', hl', he'⟩ := hres
   rw [he'] at h265
   subst hH
   refine CallX.of (z216 h.legs hn (by omega)) [(7, 20)] rfl ⟨lr, trivial⟩ trivial rfl rfl ?_
   rintro x rout ⟨rfl, rfl⟩
   refine ⟨rfl, ?_⟩
   conv => whnf
   repeat' (first | (refine CallX.of (z268 h hn (by omega) ri) [(1000001, 2), (1000002, 1000002), (1000005, 20)] rfl ⟨lr, lr, trivial⟩ ⟨rr, rr, rr, trivial⟩ rfl rfl ?_; rintro x rout ⟨rfl, rfl⟩; refine ⟨rfl, ?_⟩; conv => whnf) | (refine CallX.freeze _ _ _ _ 20 162 9 _ _ rfl rfl ?_; refine CallX.pure h265 ⟨SV.le_agg ⟨lr, lr, lr, lr, lr, trivial⟩, trivial⟩ rfl ?_; conv => whnf) | (refine br_intro ?_ ?_ <;> intro hb <;> (try simp only [brs] at hb) <;> conv => whnf) | omega | (refine And.intro ?_ ?_; ((try dsimp only); first | omega | (refine szA rfl ?_; omega) | (refine szB rfl ?_; omega) | (unfold inI64; omega) | exact rfl | (simp only [lns] at *; omega) | decide | (unfold inI64; decide)); conv => whnf) | decide | assumption)
   refine .ret _ ?_
   conv => whnf
   exact ⟨_, ⟨⟨H', _, hB', hl', rfl⟩, rfl⟩, rr, trivial⟩
theorem z214 (k : Nat) (hk : k ≤ 100) (h : Hir) (hh : hiB k h) (ri ro : Rdg) (v : List UInt8) (h2 : rgB ri) (h3 : rgB ro) (h4 : v.length ≤ 8) :
 FSpec Tryz.prog 146 [.agg ((hiF h).map .d), .agg ((rgF ri).map .d), .d (.str v), .agg ((rgF ro).map .d)] []
  (fun y o => (∃ (h' : Hir) (e : Int), hiB (k + 1) h' ∧ (e = 0 → 1 ≤ h'.legs.length) ∧ y = .tup [.agg ((hiF h').map .d), .d (.int .i64 e)]) ∧ o = []) := by
 refine spec_of hT (C := []) Tryz.func146 rfl Tryz.call146 rfl rfl rfl ?_
 conv => whnf
 repeat' (first | (refine CallX.of (z266x k hk h hh ri ro v h2 h3 h4) [(1000002, 5), (1000003, 6), (1000004, 7)] rfl ⟨lr, lr, trivial⟩ ⟨rr, rr, rr, trivial⟩ rfl rfl ?_; rintro x rout ⟨⟨h5, e5, hb5, hl5, rfl⟩, rfl⟩; refine ⟨rfl, ?_⟩; conv => whnf) | (refine br_intro ?_ ?_ <;> intro hb <;> (try simp only [brs] at hb) <;> conv => whnf) | omega | (refine And.intro ?_ ?_; ((try dsimp only); first | omega | (refine szA rfl ?_; omega) | (refine szB rfl ?_; omega) | (unfold inI64; omega) | exact rfl | (simp only [lns] at *; omega) | decide | (unfold inI64; decide)); conv => whnf) | decide | assumption)
 refine .ret _ ?_
 conv => whnf
 exact ⟨[], ⟨⟨h5, e5, hb5, hl5, rfl⟩, rfl⟩, trivial⟩
theorem z215 (k : Nat) (hk : k ≤ 100) (h : Hir) (hh : hiB k h) (ri : Rdg) (h2 : rgB ri) :
 FSpec Tryz.prog 147 [.agg ((hiF h).map .d), .agg ((rgF ri).map .d)] []
  (fun y o => (∃ (h' : Hir) (e : Int), hiB k h' ∧ (e = 0 → 1 ≤ h'.legs.length) ∧ y = .tup [.agg ((hiF h').map .d), .d (.int .i64 e)]) ∧ o = []) := by
 refine spec_of hT (C := []) Tryz.func147 rfl Tryz.call147 rfl rfl rfl ?_
 conv => whnf
 repeat' (first | (refine CallX.of (z266c k hk h hh ri h2) [(1000002, 3)] rfl ⟨lr, lr, trivial⟩ ⟨rr, trivial⟩ rfl rfl ?_; rintro x rout ⟨⟨h5, e5, hb5, hl5, rfl⟩, rfl⟩; refine ⟨rfl, ?_⟩; conv => whnf) | (refine br_intro ?_ ?_ <;> intro hb <;> (try simp only [brs] at hb) <;> conv => whnf) | omega | (refine And.intro ?_ ?_; ((try dsimp only); first | omega | (refine szA rfl ?_; omega) | (refine szB rfl ?_; omega) | (unfold inI64; omega) | exact rfl | (simp only [lns] at *; omega) | decide | (unfold inI64; decide)); conv => whnf) | decide | assumption)
 refine .ret _ ?_
 conv => whnf
 exact ⟨[], ⟨⟨h5, e5, hb5, hl5, rfl⟩, rfl⟩, trivial⟩
def oTHiC69_4 : List (Nat × List Nat) := [(0, []), (1, [0]), (2, [0, 1]), (4, [0, 1, 2]), (5, [0, 1, 2, 4]), (6, [0, 1, 2, 4, 5]), (8, [0, 1, 2, 4, 5, 6]), (9, [0, 1, 2, 4, 5, 6, 8]), (15, [0, 1, 2, 4, 5, 6, 8, 9]), (3, [0, 4, 5, 6, 8, 9, 15]), (7, [0, 4, 8, 9, 15]), (10, [0, 4, 15]), (11, [15]), (12, [15]), (13, [15]), (14, [15, 13]), (16, [14]), (17, [])]
def oTHiC69_13 : List (Nat × List Nat) := [(0, []), (1, [0]), (2, [0, 1]), (3, [0, 1, 2]), (5, [0, 1, 2, 3]), (10, [0, 1, 2, 3, 5]), (4, [0, 1, 5, 10]), (6, [10]), (7, [10]), (8, [10]), (9, [10, 8]), (11, [9]), (12, [])]
def oTHiC69_19 : List (Nat × List Nat) := [(0, []), (1, [0]), (2, [0, 1]), (8, [0, 1, 2]), (3, [0, 8]), (4, [8]), (5, [8]), (6, [8]), (7, [8, 6]), (9, [7]), (10, [])]
theorem hirE_start {key : List UInt8} {f : Int} (hk : isKeyB key = true) (h0 : 0 ≤ f) (h1 : f ≤ 10000) : hirE (startH key [97, 110, 110] f (f + 60) [118, 49] ⟨f, [115, 49], 0, 0⟩) = 0 := by
 have k1 : isKeyB [97, 110, 110] = true := by decide
 have k2 : isKeyB [118, 49] = true := by decide
 have k3 : isKeyB [115, 49] = true := by decide
 have ht : timE f (f + 60) = 0 := by unfold timE; grind
 have hr : rdgE ⟨f, [115, 49], 0, 0⟩ = 0 := by unfold rdgE; simp only [k3]; grind
 rw [hirE_legs (by exact hk) (by exact k1) (by exact ht)]
 have hl : legE (startH key [97, 110, 110] f (f + 60) [118, 49] ⟨f, [115, 49], 0, 0⟩) 0 = 0 := by
  unfold legE startH
  simp only [List.getD_cons_zero, k2, hr, rgN]
  simp
 rw [if_neg (by simp [startH]), if_neg (by simp [startH])]
 show firstAt _ 1 = 0
 simp [firstAt, hl]
theorem pkD {l : List Int} {x : Int} (h : x ∈ l) (hl : (l.all fun y => decide (0 ≤ y) && decide (y ≤ 3000)) = true) : 0 ≤ x ∧ x ≤ 3000 := by
 have := List.all_eq_true.1 hl x h
 simpa using this
theorem pkT {x : Int} (h : x ∈ [(0 : Int), 0, 1, 2]) : 0 ≤ x ∧ x ≤ 2 := by simp at h; omega
set_option maxHeartbeats 4000000 in
theorem sRh (n : Nat) (L : Nat → Int) (hL : Rok n L) (a : Int) (h0 : 0 ≤ a) (ha : a ≤ 2^37) (key : List UInt8) (hkl : key.length ≤ 8) (f : Int) (hf0 : 0 ≤ f) (hf1 : f ≤ 10000) :
 FSpec Tryz.prog 69 [.ptr 1000000 0, .d (.str key), .d (.int .i64 f)] [(1000000, strm n L a)] (fun y r => (∃ h : Hir, hiB 3 h ∧ (isKeyB key = true → 1 ≤ h.legs.length) ∧ y = .agg ((hiF h).map .d)) ∧ Moved n L a 400 r) := by
 refine spec_of hT (C := []) Tryz.func69 rfl Tryz.call69 rfl rfl rfl ?_
 conv => whnf
 repeat' (first | (refine br_intro ?_ ?_ <;> intro hb <;> (try simp only [brs] at hb) <;> conv => whnf) | (refine RegX.rule (id := 4) hT rfl [] oTHiC69_4 (by decide +kernel) ?_; conv => whnf) | (refine RegX.rule (id := 13) hT rfl [] oTHiC69_13 (by decide +kernel) ?_; conv => whnf) | (refine RegX.rule (id := 19) hT rfl [] oTHiC69_19 (by decide +kernel) ?_; conv => whnf) | omega | (refine And.intro ?_ ?_; ((try dsimp only); first | omega | (refine szA rfl ?_; omega) | (refine szB rfl ?_; omega) | (unfold inI64; omega) | exact rfl | (simp only [lns] at *; omega) | decide | (unfold inI64; decide)); conv => whnf) | decide | assumption)
 refine LoopX.rule hT (C := []) (ι := Int × Nat) (fun (b, i) => a ≤ b ∧ b ≤ a + 20 * i ∧ i ≤ 6) (fun (b, i) => mkSt [(0, .ptr 1000000 0), (1, .d (.str key)), (2, .d (.int .i64 f)), (6, .ptr 6 0), (19, .d (.int .i64 i))] [(1000000, strm n L b), (6, zcell)]) (fun (_, i) => 6 - i) (a, 0) (by simp) (by (refine Entails.mk' [(1000000, 1000000), (6, 6)] rfl rfl ?_ ?_ <;> repeat' (first | exact True.intro | exact lr | exact rr | exact SV.le_int (by omega) | exact SV.le_any _ | refine And.intro ?_ ?_)); done) ?_
 rintro ⟨b, i⟩ ⟨p1, p2, p3⟩
 have p1 : a ≤ b := p1
 have p2 : b ≤ a + 20 * i := p2
 have p3 : i ≤ 6 := p3
 conv => whnf
 repeat' (first | (refine CallX.of (s33 n L hL _ ?_ ?_ [60, 100, 1440, 2000, 3000] ?_ ?_) [(1000000, 1000000)] rfl ⟨lr, SV.le_lit rfl rfl, trivial⟩ ⟨rr, trivial⟩ rfl rfl ?_; rotate_right; rintro x rout ⟨⟨u1, hu1, rfl⟩, ⟨c, c1, c2, rfl⟩⟩; have hw1 := pkD hu1 (by decide); refine ⟨rfl, ?_⟩; conv => whnf) | (refine CallX.of (s15 n L hL _ ?_ ?_ [[97, 110, 110], [97, 110, 110], [98, 111, 98], [99, 105, 100]] (by simp) (by simp)) [(1000000, 1000000)] rfl ⟨lr, SV.le_lit rfl rfl, trivial⟩ ⟨rr, trivial⟩ rfl rfl ?_; rotate_right; rintro x rout ⟨⟨u2, hu2, rfl⟩, ⟨c, c1, c2, rfl⟩⟩; have hw2 := mem_len hu2 rfl; refine ⟨rfl, ?_⟩; conv => whnf) | (refine CallX.of (s15 n L hL _ ?_ ?_ [[118, 49], [118, 49], [118, 50], [118, 51]] (by simp) (by simp)) [(1000000, 1000000)] rfl ⟨lr, SV.le_lit rfl rfl, trivial⟩ ⟨rr, trivial⟩ rfl rfl ?_; rotate_right; rintro x rout ⟨⟨u3, hu3, rfl⟩, ⟨c, c1, c2, rfl⟩⟩; have hw3 := mem_len hu3 rfl; refine ⟨rfl, ?_⟩; conv => whnf) | (refine CallX.of (sRdg n L hL _ ?_ ?_ f ?_ ?_) [(1000000, 1000000)] rfl ⟨lr, lr, trivial⟩ ⟨rr, trivial⟩ rfl rfl ?_; rotate_right; rintro x rout ⟨⟨r1, hr1, rfl⟩, ⟨c, c1, c2, rfl⟩⟩; refine ⟨rfl, ?_⟩; conv => whnf) | (refine CallX.pure (z212 key u2 f (f + u1) u3 r1 hkl hw2 hw3 hr1) ⟨lr, lr, lr, lr, lr, trivial⟩ rfl ?_; conv => whnf) | (refine CallX.pure (z212 key [97, 110, 110] f (f + 60) [118, 49] ⟨f, [115, 49], 0, 0⟩ hkl (by decide) (by decide) (show ([115, 49] : List UInt8).length ≤ 8 by decide)) ⟨lr, lr, lr, lr, lr, trivial⟩ rfl ?_; conv => whnf) | (refine br_intro ?_ ?_ <;> intro hb <;> (try simp only [brs] at hb) <;> conv => whnf) | (refine RegX.rule (id := 4) hT rfl [] oTHiC69_4 (by decide +kernel) ?_; conv => whnf) | (refine RegX.rule (id := 13) hT rfl [] oTHiC69_13 (by decide +kernel) ?_; conv => whnf) | (refine RegX.rule (id := 19) hT rfl [] oTHiC69_19 (by decide +kernel) ?_; conv => whnf) | omega | (refine And.intro ?_ ?_; ((try dsimp only); first | omega | (refine szA rfl ?_; omega) | (refine szB rfl ?_; omega) | (unfold inI64; omega) | exact rfl | (simp only [lns] at *; omega) | decide | (unfold inI64; decide)); conv => whnf) | decide | assumption)
 all_goals first
  | (refine ⟨(_, i + 1), ⟨by omega, ?_, by omega⟩, (show 6 - (i + 1) < 6 - i by omega), Entails.mk' [(1000000, 1000000), (6, 6)] rfl rfl ⟨lr, lr, lr, lr, lr, trivial⟩ ⟨rr, rr, trivial⟩⟩
     show _ ≤ a + 20 * ((i + 1 : Nat) : Int)
     omega)
  | (have hE := fun h => hirE_start (key := key) (f := f) h hf0 hf1
     have hB := startH_B (key := key) (drv := [97, 110, 110]) (a := f) (b := f + 60) (v := [118, 49]) (o := ⟨f, [115, 49], 0, 0⟩) hkl (by decide) (by decide) (show ([115, 49] : List UInt8).length ≤ 8 by decide)
     obtain ⟨H, hH⟩ : ∃ H : Hir, H = if hirE (startH key [97, 110, 110] f (f + 60) [118, 49] ⟨f, [115, 49], 0, 0⟩) = 0 then startH key [97, 110, 110] f (f + 60) [118, 49] ⟨f, [115, 49], 0, 0⟩ else hi0 := ⟨_, rfl⟩
     have hfin : hiB 3 H := by
      subst hH
      split
      · exact hiB_le hB (by omega)
      · exact hiB_0
     have hfl : isKeyB key = true → 1 ≤ H.legs.length := fun q => by
      subst hH
      rw [if_pos (hE q)]; simp [startH]
     refine .ret _ ?_
     conv => whnf
     exact ⟨[(1000000, strm n L _)], ⟨⟨_, by rw [← hH]; exact hfin, by rw [← hH]; exact hfl, rfl⟩, _, by omega, by omega, rfl⟩, rr, trivial⟩)
  | skip
 all_goals
  have hE : hirE (startH key u2 f (f + u1) u3 r1) = 0 := by omega
  rw [if_pos hE]
  have hB := startH_B (key := key) (drv := u2) (a := f) (b := f + u1) (v := u3) (o := r1) hkl hw2 hw3 hr1
  have hBl : 1 ≤ (startH key u2 f (f + u1) u3 r1).legs.length := by simp [startH]
  generalize startH key u2 f (f + u1) u3 r1 = H0 at hB hBl ⊢
  repeat' (first | (refine CallX.of (s33 n L hL _ ?_ ?_ [0, 0, 1, 2] ?_ ?_) [(1000000, 1000000)] rfl ⟨lr, SV.le_lit rfl rfl, trivial⟩ ⟨rr, trivial⟩ rfl rfl ?_; rotate_right; rintro x rout ⟨⟨k, hk, rfl⟩, ⟨c, c1, c2, rfl⟩⟩; have hk2 := pkT hk; refine ⟨rfl, ?_⟩; conv => whnf) | (refine br_intro ?_ ?_ <;> intro hb <;> (try simp only [brs] at hb) <;> conv => whnf) | (refine RegX.rule (id := 4) hT rfl [] oTHiC69_4 (by decide +kernel) ?_; conv => whnf) | (refine RegX.rule (id := 13) hT rfl [] oTHiC69_13 (by decide +kernel) ?_; conv => whnf) | (refine RegX.rule (id := 19) hT rfl [] oTHiC69_19 (by decide +kernel) ?_; conv => whnf) | omega | (refine And.intro ?_ ?_; ((try dsimp only); first | omega | (refine szA rfl ?_; omega) | (refine szB rfl ?_; omega) | (unfold inI64; omega) | exact rfl | (simp only [lns] at *; omega) | decide | (unfold inI64; decide)); conv => whnf) | decide | assumption)
  obtain ⟨c0, hc0⟩ : ∃ c0, c0 = c := ⟨_, rfl⟩
  refine LoopX.rule hT (C := []) (ι := Int × Int × Hir × Nat) (fun (d, t, h, j) => (c0 ≤ d ∧ d ≤ c0 + 1 + 30 * j) ∧ (f ≤ t ∧ t ≤ f + 3000 * j) ∧ ((j : Int) ≤ k ∧ hiB (1 + j) h ∧ 1 ≤ h.legs.length))
   (fun (d, t, h, j) => mkSt [(0, .ptr 1000000 0), (6, .ptr 6 0), (8, .ptr 8 0), (10, .d (.int .i64 t)), (48, .d (.int .i64 k)), (49, .d (.int .i64 j))] [(1000000, strm n L d), (6, zcell), (8, hcell h)])
   (fun (_, _, _, j) => (k - j).toNat) (c, f, H0, 0) ⟨⟨by omega, by omega⟩, ⟨by omega, by omega⟩, ⟨by omega, hB, hBl⟩⟩ (by (refine Entails.mk' [(1000000, 1000000), (6, 6), (8, 8)] rfl rfl ?_ ?_ <;> repeat' (first | exact True.intro | exact lr | exact rr | exact SV.le_int (by omega) | exact SV.le_any _ | refine And.intro ?_ ?_)); done) ?_
  rintro ⟨d, t, h, j⟩ ⟨⟨r1', r2'⟩, ⟨r3, r4⟩, ⟨r5, r6, r7⟩⟩
  have r1' : c0 ≤ d := r1'
  have r2' : d ≤ c0 + 1 + 30 * j := r2'
  have r3 : f ≤ t := r3
  have r4 : t ≤ f + 3000 * j := r4
  have r5 : (j : Int) ≤ k := r5
  have r6 : hiB (1 + j) h := r6
  have r7 : 1 ≤ h.legs.length := r7
  have hj2 : j ≤ 2 := by omega
  conv => whnf
  repeat' (first | (refine CallX.of (s33 n L hL _ ?_ ?_ [1, 30, 100, 500] ?_ ?_) [(1000000, 1000000)] rfl ⟨lr, SV.le_lit rfl rfl, trivial⟩ ⟨rr, trivial⟩ rfl rfl ?_; rotate_right; rintro x rout ⟨⟨v1, hv1, rfl⟩, ⟨c, c1, c2, rfl⟩⟩; have hy1 := pkD hv1 (by decide); refine ⟨rfl, ?_⟩; conv => whnf) | (refine br_intro ?_ ?_ <;> intro hb <;> (try simp only [brs] at hb) <;> conv => whnf) | (refine RegX.rule (id := 4) hT rfl [] oTHiC69_4 (by decide +kernel) ?_; conv => whnf) | (refine RegX.rule (id := 13) hT rfl [] oTHiC69_13 (by decide +kernel) ?_; conv => whnf) | (refine RegX.rule (id := 19) hT rfl [] oTHiC69_19 (by decide +kernel) ?_; conv => whnf) | omega | (refine And.intro ?_ ?_; ((try dsimp only); first | omega | (refine szA rfl ?_; omega) | (refine szB rfl ?_; omega) | (unfold inI64; omega) | exact rfl | (simp only [lns] at *; omega) | decide | (unfold inI64; decide)); conv => whnf) | decide | assumption)
  · refine CallX.of (sRdg n L hL _ (by omega) (by omega) (t + v1) (by omega) (by omega)) [(1000000, 1000000)] rfl ⟨lr, lr, trivial⟩ ⟨rr, trivial⟩ rfl rfl ?_
    rintro x rout ⟨⟨ri, hri, rfl⟩, ⟨c3, c4, c5, rfl⟩⟩
    refine ⟨rfl, ?_⟩
    conv => whnf
    repeat' (first | (refine br_intro ?_ ?_ <;> intro hb <;> (try simp only [brs] at hb) <;> conv => whnf) | (refine RegX.rule (id := 4) hT rfl [] oTHiC69_4 (by decide +kernel) ?_; conv => whnf) | (refine RegX.rule (id := 13) hT rfl [] oTHiC69_13 (by decide +kernel) ?_; conv => whnf) | (refine RegX.rule (id := 19) hT rfl [] oTHiC69_19 (by decide +kernel) ?_; conv => whnf) | omega | (refine And.intro ?_ ?_; ((try dsimp only); first | omega | (refine szA rfl ?_; omega) | (refine szB rfl ?_; omega) | (unfold inI64; omega) | exact rfl | (simp only [lns] at *; omega) | decide | (unfold inI64; decide)); conv => whnf) | decide | assumption)
    refine CallX.of (sRdg n L hL _ (by omega) (by omega) (t + v1) (by omega) (by omega)) [(1000000, 1000000)] rfl ⟨lr, lr, trivial⟩ ⟨rr, trivial⟩ rfl rfl ?_
    rintro x rout ⟨⟨ro, hro, rfl⟩, ⟨c6, c7, c8, rfl⟩⟩
    refine ⟨rfl, ?_⟩
    conv => whnf
    repeat' (first | (refine CallX.of (s15 n L hL _ ?_ ?_ [[118, 49], [118, 50], [118, 51], [118, 52]] (by simp) (by simp)) [(1000000, 1000000)] rfl ⟨lr, SV.le_lit rfl rfl, trivial⟩ ⟨rr, trivial⟩ rfl rfl ?_; rotate_right; rintro x rout ⟨⟨v2, hv2, rfl⟩, ⟨c, c1, c2, rfl⟩⟩; have hy2 := mem_len hv2 rfl; refine ⟨rfl, ?_⟩; conv => whnf) | (refine CallX.of (z214 (1 + j) (by omega) h r6 ri { ro with st := ri.st } v2 hri hri hy2) [] rfl ⟨lr, lr, lr, lr, trivial⟩ trivial rfl rfl ?_; rintro x rout ⟨⟨h5, e5, hb5, hl5, rfl⟩, rfl⟩; refine ⟨rfl, ?_⟩; conv => whnf) | (refine br_intro ?_ ?_ <;> intro hb <;> (try simp only [brs] at hb) <;> conv => whnf) | (refine RegX.rule (id := 4) hT rfl [] oTHiC69_4 (by decide +kernel) ?_; conv => whnf) | (refine RegX.rule (id := 13) hT rfl [] oTHiC69_13 (by decide +kernel) ?_; conv => whnf) | (refine RegX.rule (id := 19) hT rfl [] oTHiC69_19 (by decide +kernel) ?_; conv => whnf) | omega | (refine And.intro ?_ ?_; ((try dsimp only); first | omega | (refine szA rfl ?_; omega) | (refine szB rfl ?_; omega) | (unfold inI64; omega) | exact rfl | (simp only [lns] at *; omega) | decide | (unfold inI64; decide)); conv => whnf) | decide | assumption)
    · refine ⟨(_, t + v1, h5, j + 1), ⟨⟨by omega, ?_⟩, ⟨by omega, ?_⟩, ⟨by omega, hb5, hl5 (by omega)⟩⟩, (show (k - ((j + 1 : Nat) : Int)).toNat < (k - (j : Int)).toNat by omega), Entails.mk' [(1000000, 1000000), (6, 6), (8, 8)] rfl rfl ⟨lr, lr, lr, lr, lr, lr, trivial⟩ ⟨rr, rr, rr, trivial⟩⟩
      · show _ ≤ c0 + 1 + 30 * ((j + 1 : Nat) : Int)
        omega
      · show _ ≤ f + 3000 * ((j + 1 : Nat) : Int)
        omega
    · refine ⟨(_, t + v1, h, j + 1), ⟨⟨by omega, ?_⟩, ⟨by omega, ?_⟩, ⟨by omega, hiB_le r6 (by omega), r7⟩⟩, (show (k - ((j + 1 : Nat) : Int)).toNat < (k - (j : Int)).toNat by omega), Entails.mk' [(1000000, 1000000), (6, 6), (8, 8)] rfl rfl ⟨lr, lr, lr, lr, lr, lr, trivial⟩ ⟨rr, rr, rr, trivial⟩⟩
      · show _ ≤ c0 + 1 + 30 * ((j + 1 : Nat) : Int)
        omega
      · show _ ≤ f + 3000 * ((j + 1 : Nat) : Int)
        omega
  · have r6 : hiB 3 h := hiB_le r6 (by omega)
    repeat' (first | (refine CallX.of (s84 n L hL _ ?_ ?_ _ ?_) [(1000000, 1000000)] rfl ⟨lr, lr, trivial⟩ ⟨rr, trivial⟩ rfl rfl ?_; rotate_right; rintro x rout ⟨⟨w, rfl⟩, ⟨c, c1, c2, rfl⟩⟩; refine ⟨rfl, ?_⟩; conv => whnf) | (refine CallX.of (s33 n L hL _ ?_ ?_ [1, 50, 100, 1440, 1470, 1471, 1500, 3000] ?_ ?_) [(1000000, 1000000)] rfl ⟨lr, SV.le_lit rfl rfl, trivial⟩ ⟨rr, trivial⟩ rfl rfl ?_; rotate_right; rintro x rout ⟨⟨v1, hv1, rfl⟩, ⟨c, c1, c2, rfl⟩⟩; have hy1 := pkD hv1 (by decide); refine ⟨rfl, ?_⟩; conv => whnf) | (refine CallX.of (sRdg n L hL _ ?_ ?_ (t + v1) ?_ ?_) [(1000000, 1000000)] rfl ⟨lr, lr, trivial⟩ ⟨rr, trivial⟩ rfl rfl ?_; rotate_right; rintro x rout ⟨⟨ri, hri, rfl⟩, ⟨c9, c10, c11, rfl⟩⟩; refine ⟨rfl, ?_⟩; conv => whnf) | (refine CallX.of (z215 3 (by omega) h r6 ri hri) [] rfl ⟨lr, lr, trivial⟩ trivial rfl rfl ?_; rintro x rout ⟨⟨h5, e5, hb5, hl5, rfl⟩, rfl⟩; refine ⟨rfl, ?_⟩; conv => whnf) | (refine br_intro ?_ ?_ <;> intro hb <;> (try simp only [brs] at hb) <;> conv => whnf) | (refine RegX.rule (id := 4) hT rfl [] oTHiC69_4 (by decide +kernel) ?_; conv => whnf) | (refine RegX.rule (id := 13) hT rfl [] oTHiC69_13 (by decide +kernel) ?_; conv => whnf) | (refine RegX.rule (id := 19) hT rfl [] oTHiC69_19 (by decide +kernel) ?_; conv => whnf) | omega | (refine And.intro ?_ ?_; ((try dsimp only); first | omega | (refine szA rfl ?_; omega) | (refine szB rfl ?_; omega) | (unfold inI64; omega) | exact rfl | (simp only [lns] at *; omega) | decide | (unfold inI64; decide)); conv => whnf) | decide | assumption)
    all_goals first
     | (refine .ret _ ?_
        conv => whnf
        exact ⟨[(1000000, strm n L _)], ⟨⟨h, r6, fun _ => r7, rfl⟩, _, by omega, by omega, rfl⟩, rr, trivial⟩)
     | (refine .ret _ ?_
        conv => whnf
        exact ⟨[(1000000, strm n L _)], ⟨⟨h5, hb5, fun _ => hl5 (by omega), rfl⟩, _, by omega, by omega, rfl⟩, rr, trivial⟩)
def oTDNtA18_8 : List (Nat × List Nat) := [(0, []), (1, []), (2, []), (3, []), (4, []), (5, [3, 4]), (6, [3, 4, 5]), (7, [3, 4, 5]), (8, [3, 4]), (9, [3, 4]), (10, [3, 4]), (11, []), (12, []), (13, [])]
def oTDNtA26_1 : List (Nat × List Nat) := [(0, []), (2, [0]), (3, [0]), (5, [0, 2, 3]), (7, [0, 2, 3, 5]), (8, [0, 2, 3, 5, 7]), (9, [0, 2, 3, 5, 7]), (10, [0, 2, 3, 5]), (1, [2, 3, 5, 7, 8, 9, 10]), (4, [5, 7, 8, 9, 10]), (6, [7, 8, 9, 10]), (11, []), (12, []), (13, []), (14, [])]
def oTDNtA26_5 : List (Nat × List Nat) := [(0, []), (1, []), (2, [0, 1]), (3, [0, 1, 2]), (4, [0, 1, 2]), (5, [0, 1]), (6, [0, 1]), (7, [0, 1, 2, 3, 4, 5, 6]), (8, [0, 1, 2, 3, 4, 5, 6]), (9, [0, 1]), (10, [0, 1, 2, 3, 4, 5, 6, 7, 8, 9]), (11, [0, 1, 2, 3, 4, 5, 6, 7, 8, 9]), (12, [0, 1]), (13, []), (14, []), (15, [])]
structure Ntr where
 name : Int
 pay : Int
 step : Int
 late : Int
def ntrF : Ntr → List DV := fun r => [.int .i64 r.name, .int .i64 r.pay, .int .i64 r.step, .int .i64 r.late]
structure Ntc where
 key : List UInt8
 plate : List UInt8
 tm : Int
 came : Int
 cents : Int
def ntcF : Ntc → List DV := fun n => [.str n.key, .str n.plate, .int .i64 n.tm, .int .i64 n.came, .int .i64 n.cents]
def ntc0 : Ntc := ⟨[], [], 0, 0, 0⟩
abbrev ntcs (l : List Ntc) : DV := seqD 5 ntcF ntc0 l
def ntrE (r : Ntr) : Int := if (0 ≤ r.name ∧ r.name ≤ 4000) ∧ (0 ≤ r.pay ∧ r.pay ≤ 4000) ∧ (1 ≤ r.step ∧ r.step ≤ 4000) ∧ (0 ≤ r.late ∧ r.late ≤ 1000000) then 0 else 1
def ntcE (l : List Ntc) (i : Nat) : Int :=
 if isKeyB (l.getD i ntc0).key = false then 5 else if 0 < i ∧ strLe (l.getD i ntc0).key (l.getD (i - 1) ntc0).key = true then 7 else if isPlateB (l.getD i ntc0).plate = false then 3
 else if ¬ ((0 ≤ (l.getD i ntc0).tm ∧ (l.getD i ntc0).tm ≤ (l.getD i ntc0).came) ∧ (0 ≤ (l.getD i ntc0).came ∧ (l.getD i ntc0).came ≤ 5761439) ∧ (0 ≤ (l.getD i ntc0).cents ∧ (l.getD i ntc0).cents ≤ 1000000)) then 1 else 0
def ntcsE (l : List Ntc) : Int := if 200 < l.length then 2 else firstAt (ntcE l) l.length
def ntK (n : Ntc) : Prop := n.key.length ≤ 2^40 ∧ n.plate.length ≤ 2^40
def ntOk (l : List Ntc) : Prop := l.length ≤ 2^40 ∧ ∀ x ∈ l, ntK x
theorem sNtRules (r : Ntr) : FSpec Tryz.prog 19 [.agg ((ntrF r).map .d)] [] (fun x o => x = .d (.int .i64 (ntrE r)) ∧ o = []) := by
 refine spec_of hT (C := []) Tryz.func19 rfl Tryz.call19 rfl rfl rfl ?_
 conv => whnf
 repeat' (first | (refine CallX.exact (s119 _ _ _) rfl rfl ?_; rotate_right; conv => whnf) | (refine CallX.exact (s107 _ _) rfl rfl ?_; rotate_right; conv => whnf) | (refine br_intro ?_ ?_ <;> intro hb <;> (try simp only [brs] at hb) <;> conv => whnf) | omega | (refine And.intro ?_ ?_; ((try dsimp only); first | omega | (refine szA rfl ?_; omega) | (refine szB rfl ?_; omega) | (unfold inI64; omega) | exact rfl | (simp only [lns] at *; omega) | decide | (unfold inI64; decide)); conv => whnf) | decide | assumption)
 all_goals
  refine .ret _ ?_
  conv => whnf
  refine ⟨[], ⟨?_, rfl⟩, trivial⟩
  conv => lhs; whnf
  congr 2
  unfold ntrE; grind
theorem sMoment (n : Int) : FSpec Tryz.prog 92 [.d (.int .i64 n)] [] (fun x o => x = .d (.int .i64 (if 0 ≤ n ∧ n ≤ 5761439 then 0 else 1)) ∧ o = []) := by
 refine spec_of hT (C := []) Tryz.func92 rfl Tryz.call92 rfl rfl rfl ?_
 conv => whnf
 repeat' (first | (refine CallX.exact (s154 _) rfl rfl ?_; rotate_right; conv => whnf) | (refine CallX.exact (s107 _ _) rfl rfl ?_; rotate_right; conv => whnf) | (refine br_intro ?_ ?_ <;> intro hb <;> (try simp only [brs] at hb) <;> conv => whnf) | omega | (refine And.intro ?_ ?_; ((try dsimp only); first | omega | (refine szA rfl ?_; omega) | (refine szB rfl ?_; omega) | (unfold inI64; omega) | exact rfl | (simp only [lns] at *; omega) | decide | (unfold inI64; decide)); conv => whnf) | decide | assumption)
 refine .ret _ ?_
 conv => whnf
 refine ⟨[], ⟨?_, rfl⟩, trivial⟩
 conv => lhs; whnf
 congr 2
 grind
theorem sNotices (l : List Ntc) (hk : ntOk l) : FSpec Tryz.prog 18 [.d (ntcs l)] [] (fun x r => x = .d (.int .i64 (ntcsE l)) ∧ r = []) := by
 refine spec_of hT (C := []) Tryz.func18 rfl Tryz.call18 rfl rfl rfl ?_
 conv => whnf
 refine br_intro (fun h0 => ?_) (fun h0 => ?_)
 · simp at h0
   conv => whnf
   refine .ret _ ?_
   conv => whnf
   refine ⟨[], ⟨?_, rfl⟩, trivial⟩
   conv => lhs; whnf
   unfold ntcsE; rw [if_pos (by omega)]
 simp at h0
 conv => whnf
 refine LoopX.rule hT (C := []) (ι := Nat) (fun i => i ≤ l.length ∧ ∀ j, j < i → ntcE l j = 0) (fun i => mkSt [(0, .d (ntcs l)), (8, .d (ntcs l)), (9, .d (.int .i64 l.length)), (10, .d (.int .i64 i))] []) (fun i => l.length - i) 0 ⟨by omega, by omega⟩ (by (refine Entails.mk' [] rfl rfl ?_ ?_ <;> repeat' (first | exact True.intro | exact lr | exact rr | exact SV.le_int (by omega) | exact SV.le_any _ | refine And.intro ?_ ?_)); done) ?_
 rintro i ⟨p1, p2⟩
 have hx : (i : Int) < l.length → ntK (l.getD (i : Int).toNat ntc0) := fun hi => hk.2 _ (getD_mem (by omega))
 have e1 : (i : Int).toNat = i := Int.toNat_natCast i
 have hbad : ∀ e : Int, i < l.length → e ≠ 0 → ntcE l i = e → ntcsE l = e := fun e h h1 h2 => by
  unfold ntcsE; rw [if_neg (by omega)]
  exact firstAt_eq h p2 h1 h2
 conv => whnf
 repeat' (first | (refine CallX.exact (s108 _ (hx (by omega)).1) rfl rfl ?_; rotate_right; conv => whnf) | (refine CallX.exact (s185 _ (hx (by omega)).2) rfl rfl ?_; rotate_right; conv => whnf) | (refine CallX.exact (s119 _ _ _) rfl rfl ?_; rotate_right; conv => whnf) | (refine CallX.exact (s154 _) rfl rfl ?_; rotate_right; conv => whnf) | (refine br_intro ?_ ?_ <;> intro hb <;> (try simp only [brs] at hb) <;> conv => whnf) | (refine RegX.rule (id := 8) hT rfl [] oTDNtA18_8 (by decide +kernel) ?_; conv => whnf) | omega | (refine And.intro ?_ ?_; ((try dsimp only); first | omega | (refine szA rfl ?_; omega) | (refine szB rfl ?_; omega) | (unfold inI64; omega) | exact rfl | (simp only [lns] at *; omega) | decide | (unfold inI64; decide)); conv => whnf) | decide | assumption)
 all_goals first
  | (refine ⟨i + 1, ⟨by omega, first_step p2 (by clear p2 hbad hk hx; simp only [e1, toNat_pred] at *; unfold ntcE strLe; grind)⟩, by omega, (by (refine Entails.mk' [] rfl rfl ?_ ?_ <;> repeat' (first | exact True.intro | exact lr | exact rr | exact SV.le_int (by omega) | exact SV.le_any _ | refine And.intro ?_ ?_)); done)⟩)
  | (refine .ret _ ?_
     conv => whnf
     refine ⟨[], ⟨?_, rfl⟩, trivial⟩
     conv => lhs; whnf
     congr 2
     first
      | exact (hbad _ (by omega) (by decide) (by clear p2 hbad hk hx; simp only [e1, toNat_pred] at *; unfold ntcE strLe; grind)).symm
      | (have : i = l.length := by omega
         subst this
         unfold ntcsE; rw [if_neg (by omega), firstAt_zero p2]))
def dueE (r : Ntr) (n : Ntc) (t : Int) : Int := firstE [ntrE r, ntcsE [n], if 0 ≤ t ∧ t ≤ 5761439 then 0 else 1, if t < n.came then 11 else 0]
def dueO (r : Ntr) (n : Ntc) (t : Int) : Int := (max 0 (t.tdiv 1440 - n.came.tdiv 1440 - r.pay) + r.step - 1).tdiv r.step
def dueV (r : Ntr) (n : Ntc) (t : Int) : Int := n.cents + dueO r n t * r.late
theorem ntc_one {n : Ntc} (h : ntcsE [n] = 0) : isKeyB n.key = true ∧ isPlateB n.plate = true ∧ (0 ≤ n.tm ∧ n.tm ≤ n.came) ∧ (0 ≤ n.came ∧ n.came ≤ 5761439) ∧ (0 ≤ n.cents ∧ n.cents ≤ 1000000) := by
 have h : ntcE [n] 0 = 0 := by simpa [ntcsE, firstAt] using h
 unfold ntcE at h
 simp only [List.getD_cons_zero] at h
 grind
theorem ntr_zero {r : Ntr} (h : ntrE r = 0) : (0 ≤ r.name ∧ r.name ≤ 4000) ∧ (0 ≤ r.pay ∧ r.pay ≤ 4000) ∧ (1 ≤ r.step ∧ r.step ≤ 4000) ∧ (0 ≤ r.late ∧ r.late ≤ 1000000) := by unfold ntrE at h; grind
theorem dueE_zero {r : Ntr} {n : Ntc} {t : Int} (h : dueE r n t = 0) : ntrE r = 0 ∧ ntcsE [n] = 0 ∧ (0 ≤ t ∧ t ≤ 5761439) ∧ n.came ≤ t := by
 unfold dueE at h
 simp only [firstE] at h
 grind
theorem mul_bd {a b A B : Int} (h0 : 0 ≤ a) (h1 : a ≤ A) (h2 : 0 ≤ b) (h3 : b ≤ B) : 0 ≤ a * b ∧ a * b ≤ A * B :=
 ⟨Int.mul_nonneg h0 h2, Int.mul_le_mul h1 h3 h2 (by omega)⟩
theorem tdiv_bd {a b : Int} (h0 : 0 ≤ a) (h1 : 1 ≤ b) : 0 ≤ a.tdiv b ∧ a.tdiv b ≤ a := by
 refine ⟨Int.tdiv_nonneg h0 (by omega), ?_⟩
 have h4 := Int.tmod_add_mul_tdiv a b
 have h2 : 0 ≤ a.tmod b := Int.tmod_nonneg _ h0
 have h5 : a.tdiv b * 1 ≤ a.tdiv b * b := Int.mul_le_mul_of_nonneg_left h1 (Int.tdiv_nonneg h0 (by omega))
 rw [Int.mul_comm] at h4
 omega
theorem dueO_bd {r : Ntr} {n : Ntc} {t : Int} (h1 : ntrE r = 0) (hc : 0 ≤ n.came) (ht : n.came ≤ t) (ht2 : t ≤ 5761439) : 0 ≤ dueO r n t ∧ dueO r n t ≤ 10000 := by
 obtain ⟨_, h2, h3, _⟩ := ntr_zero h1
 unfold dueO
 have a1 := tdiv_bd (a := t) (b := 1440) (by omega) (by omega)
 have a2 := tdiv_bd (a := n.came) (b := 1440) (by omega) (by omega)
 have h4 := Int.tmod_add_mul_tdiv t 1440
 have h5 : 0 ≤ t.tmod 1440 := Int.tmod_nonneg _ (by omega)
 obtain ⟨q, hq⟩ : ∃ q, q = max 0 (t.tdiv 1440 - n.came.tdiv 1440 - r.pay) + r.step - 1 := ⟨_, rfl⟩
 have hq0 : 0 ≤ q ∧ q ≤ 10000 := by omega
 rw [← hq]
 have := tdiv_bd hq0.1 h3.1
 omega
def dueW (r : Ntr) (n : Ntc) (t : Int) : SV := if dueE r n t = 0 then .tup [.d (.int .i64 (dueV r n t)), .d (.int .i64 0)] else .tup [.d (.int .i64 0), .d (.int .i64 (dueE r n t))]
theorem ntOk_one {n : Ntc} (h : ntK n) : ntOk [n] := ⟨by simp, fun x hx => by rw [List.mem_singleton] at hx; rw [hx]; exact h⟩
theorem sDue (r : Ntr) (n : Ntc) (t : Int) (hn : ntK n) : FSpec Tryz.prog 26 [.agg ((ntrF r).map .d), .agg ((ntcF n).map .d), .d (.int .i64 t)] [] (fun x o => x = dueW r n t ∧ o = []) := by
 have h105 := s105 [ntrE r, ntcsE [n], if 0 ≤ t ∧ t ≤ 5761439 then 0 else 1, if decide (t < n.came) = true then 11 else 0] (by simp)
 have hE : firstE [ntrE r, ntcsE [n], if 0 ≤ t ∧ t ≤ 5761439 then 0 else 1, if decide (t < n.came) = true then 11 else 0] = dueE r n t := by
  unfold dueE; simp only [decide_eq_true_eq]
 rw [hE] at h105
 unfold dueW
 by_cases hz : dueE r n t = 0
 · rw [if_pos hz]
   rw [hz] at h105
   obtain ⟨h1, h2, h3, h4⟩ := dueE_zero hz
   obtain ⟨_, _, _, h5, h6⟩ := ntc_one h2
   obtain ⟨_, h7, h8, h9⟩ := ntr_zero h1
   have hO := dueO_bd h1 h5.1 h4 h3.2
   have hM := mul_bd hO.1 hO.2 h9.1 h9.2
   have a1 := tdiv_bd (a := t) (b := 1440) (by omega) (by omega)
   have a2 := tdiv_bd (a := n.came) (b := 1440) (by omega) (by omega)
   have hM1 : inI64 (dueO r n t * r.late) := by unfold inI64; omega
   have hM2 : inI64 (dueV r n t) := by unfold dueV inI64; omega
   have hq : inI64 (max 0 (t.tdiv 1440 - n.came.tdiv 1440 - r.pay) + r.step) := by unfold inI64; omega
   have hq2 : inI64 (max 0 (t.tdiv 1440 - n.came.tdiv 1440 - r.pay) + r.step - 1) := by unfold inI64; omega
   have hq3 : inI64 (dueO r n t) := by unfold inI64; omega
   refine spec_of hT (C := []) Tryz.func26 rfl Tryz.call26 rfl rfl rfl ?_
   conv => whnf
   repeat' (first | (refine CallX.exact (sNtRules r) rfl rfl ?_; rotate_right; conv => whnf) | (refine CallX.pure (sNotices [n] (ntOk_one hn)) ⟨SV.le_lit (by rfl) (by rfl), trivial⟩ rfl ?_; conv => whnf) | (refine CallX.exact (sMoment t) rfl rfl ?_; rotate_right; conv => whnf) | (refine CallX.exact (s107 _ _) rfl rfl ?_; rotate_right; conv => whnf) | (refine CallX.pure h105 ⟨SV.le_lit (by rfl) (by rfl), trivial⟩ rfl ?_; conv => whnf) | (refine And.intro hq ?_; conv => whnf) | (refine And.intro hq2 ?_; conv => whnf) | (refine And.intro hq3 ?_; conv => whnf) | (refine And.intro hM1 ?_; conv => whnf) | (refine And.intro hM2 ?_; conv => whnf) | (refine br_intro ?_ ?_ <;> intro hb <;> (try simp only [brs] at hb) <;> conv => whnf) | (refine RegX.rule (id := 1) hT rfl [] oTDNtA26_1 (by decide +kernel) ?_; conv => whnf) | (refine RegX.rule (id := 5) hT rfl [] oTDNtA26_5 (by decide +kernel) ?_; conv => whnf) | omega | (refine And.intro ?_ ?_; ((try dsimp only); first | omega | (refine szA rfl ?_; omega) | (refine szB rfl ?_; omega) | (unfold inI64; omega) | exact rfl | (simp only [lns] at *; omega) | decide | (unfold inI64; decide)); conv => whnf) | decide | assumption)
   refine .ret _ ?_
   conv => whnf
   refine ⟨[], ⟨congrArg SV.tup ?_, rfl⟩, trivial⟩
   repeat' (refine cons_eq ?_ ?_)
   all_goals (conv => lhs; whnf)
   all_goals try (with_reducible rfl)
   all_goals rfl
 · rw [if_neg hz]
   generalize dueE r n t = e at h105 hz
   refine spec_of hT (C := []) Tryz.func26 rfl Tryz.call26 rfl rfl rfl ?_
   conv => whnf
   repeat' (first | (refine CallX.exact (sNtRules r) rfl rfl ?_; rotate_right; conv => whnf) | (refine CallX.pure (sNotices [n] (ntOk_one hn)) ⟨SV.le_lit (by rfl) (by rfl), trivial⟩ rfl ?_; conv => whnf) | (refine CallX.exact (sMoment t) rfl rfl ?_; rotate_right; conv => whnf) | (refine CallX.exact (s107 _ _) rfl rfl ?_; rotate_right; conv => whnf) | (refine CallX.pure h105 ⟨SV.le_lit (by rfl) (by rfl), trivial⟩ rfl ?_; conv => whnf) | (refine br_intro ?_ ?_ <;> intro hb <;> (try simp only [brs] at hb) <;> conv => whnf) | (refine RegX.rule (id := 1) hT rfl [] oTDNtA26_1 (by decide +kernel) ?_; conv => whnf) | (refine RegX.rule (id := 5) hT rfl [] oTDNtA26_5 (by decide +kernel) ?_; conv => whnf) | omega | (refine And.intro ?_ ?_; ((try dsimp only); first | omega | (refine szA rfl ?_; omega) | (refine szB rfl ?_; omega) | (unfold inI64; omega) | exact rfl | (simp only [lns] at *; omega) | decide | (unfold inI64; decide)); conv => whnf) | decide | assumption)
   refine .ret _ ?_
   conv => whnf
   refine ⟨[], ⟨congrArg SV.tup ?_, rfl⟩, trivial⟩
   repeat' (refine cons_eq ?_ ?_)
   all_goals (conv => lhs; whnf)
   all_goals try (with_reducible rfl)
   all_goals rfl
end Go.Proofs.YtcjfniddeibbhaaGreatDoor
