/- ChargesHold is proved: for every input the law returns true, and its argument reads afterwards as it read before. Conditions: those of the given row alone. -/
import Derived.Test.YtcjfniddeibbhaaGreatDoorChEngTwo
import Derived.Test.YtcjfniddeibbhaaGreatDoorProg
import Derived.Shelf.Strings.SlTrimAscii
set_option linter.unusedVariables false
set_option linter.unusedSimpArgs false
set_option maxRecDepth 20000
namespace Go.Proofs.YtcjfniddeibbhaaGreatDoor
open Go Go.Eng
def oTCoA65_4 : List (Nat × List Nat) := [(0, []), (1, []), (2, []), (3, []), (4, []), (5, [0, 1, 2, 3, 4]), (6, [0, 1, 2, 3, 4]), (7, [0, 1, 2, 3, 4]), (8, [0, 1, 2, 3, 4]), (9, [0, 1, 2, 3, 4]), (10, []), (11, [])]
def oTCoA65_5 : List (Nat × List Nat) := [(0, []), (1, []), (2, []), (3, []), (4, []), (5, [0, 1, 2, 3, 4]), (6, [0, 1, 2, 3, 4]), (7, [0, 1, 2, 3, 4]), (8, [0, 1, 2, 3, 4]), (9, [0, 1, 2, 3, 4]), (10, []), (11, [])]
def eqTab : List Nat := [65, 74, 270, 331, 217, 160, 162, 278, 52, 103, 106, 113, 116, 195, 253, 257]
theorem eqTab_ok : eqTab.all (eqFits Tryz.prog) = true := by decide +kernel
noncomputable def T : Tab := tiOf Tryz.prog (mem eqTab)
theorem hT : TabOk Tryz.prog T := ⟨mem eqTab, fun _ _ h => h, fun t ht => List.all_eq_true.1 eqTab_ok t ((mem_iff _ _).1 ht)⟩
abbrev i64 (n : Int) : DV := .int .i64 n
def strm (n : Nat) (L : Nat → Int) (at' : Int) : Res := .cells 25 [.d (.ro 1 n fun i => [.int .i64 (L i)]), .d (.int .i64 at')]
def Rok (n : Nat) (L : Nat → Int) : Prop := n ≤ maxLen ∧ ∀ i, -2^63 ≤ L i ∧ L i < 2^63
theorem s148 (x n : Int) (hn : n ≤ 2^40) : FSpec Tryz.prog 143 [.d (.int .i64 x), .d (.int .i64 n)] [] (fun y r => (∃ m : Int, 0 ≤ m ∧ (1 ≤ n → m < n) ∧ (n < 1 → m = 0) ∧ y = .d (.int .i64 m)) ∧ r = []) := by
 refine spec_of hT (C := []) Tryz.func143 rfl Tryz.call143 rfl rfl rfl ?_
 conv => whnf
 refine br_intro (fun h => ?_) (fun h => ?_)
 · conv => whnf
   refine .ret _ ?_
   conv => whnf
   refine ⟨[], ⟨⟨_, ?_, ?_, ?_, rfl⟩, rfl⟩, trivial⟩
   all_goals (simp at h; omega)
 · conv => whnf
   refine ⟨?_, ?_⟩
   · simp at h; omega
   conv => whnf
   simp at h
   have h1 := Int.tmod_lt_of_pos x (b := n) (by omega)
   have h2 := Int.lt_tmod_of_pos x (b := n) (by omega)
   refine br_intro (fun h2 => ?_) (fun h2 => ?_)
   · conv => whnf
     simp at h2
     refine ⟨?_, ?_⟩
     · unfold inI64; omega
     · conv => whnf
       refine .ret _ ?_
       conv => whnf
       refine ⟨[], ⟨⟨_, ?_, ?_, ?_, rfl⟩, rfl⟩, trivial⟩
       all_goals omega
   · conv => whnf
     simp at h2
     refine .ret _ ?_
     conv => whnf
     refine ⟨[], ⟨⟨_, ?_, ?_, ?_, rfl⟩, rfl⟩, trivial⟩
     all_goals omega
theorem nextB {a n : Int} (h0 : 0 ≤ a) (hn : 1 ≤ n) : 0 ≤ a.tdiv n ∧ a.tdiv n ≤ a ∧ 0 ≤ a.tmod n ∧ a.tmod n < n ∧ 0 ≤ a.tdiv n * a.tmod n ∧ a.tdiv n * a.tmod n ≤ a ∧ a.tmod n ≤ a := by
 have h1 : 0 ≤ a.tdiv n := Int.tdiv_nonneg h0 (by omega)
 have h2 : 0 ≤ a.tmod n := Int.tmod_nonneg _ h0
 have h3 : a.tmod n < n := Int.tmod_lt_of_pos _ (by omega)
 have h4 := Int.tmod_add_mul_tdiv a n
 have h5 : a.tdiv n * 1 ≤ a.tdiv n * n := Int.mul_le_mul_of_nonneg_left hn h1
 have h6 : a.tdiv n * a.tmod n ≤ a.tdiv n * n := Int.mul_le_mul_of_nonneg_left (by omega) h1
 have h7 : 0 ≤ a.tdiv n * a.tmod n := Int.mul_nonneg h1 h2
 rw [Int.mul_comm] at h4
 have h8 : 0 ≤ a.tdiv n * n := Int.mul_nonneg h1 (by omega)
 refine ⟨h1, ?_, h2, h3, h7, ?_, ?_⟩ <;> omega
theorem s86 (n : Nat) (L : Nat → Int) (hL : Rok n L) (a : Int) (h0 : 0 ≤ a) (ha : a ≤ 2^40) (m : Int) (hm : m ≤ 2^40) :
 FSpec Tryz.prog 65 [.ptr 1000000 0, .d (.int .i64 m)] [(1000000, strm n L a)] (fun y r => (∃ j : Int, 0 ≤ j ∧ (1 ≤ m → j < m) ∧ (m < 1 → j = 0) ∧ y = .d (.int .i64 j)) ∧ r = [(1000000, strm n L (a + 1))]) := by
 refine spec_of hT (C := []) Tryz.func65 rfl Tryz.call65 rfl rfl rfl ?_
 conv => whnf
 refine ⟨by unfold inI64; omega, ?_⟩
 conv => whnf
 refine br_intro (fun h => ?_) (fun h => ?_)
 · conv => whnf
   refine ⟨by unfold inI64; omega, ?_⟩
   conv => whnf
   refine CallX.of (s148 _ _ hm) [] rfl ⟨lr, lr, trivial⟩ trivial rfl rfl ?_
   rintro x rout ⟨⟨j, j1, j2, j3, rfl⟩, rfl⟩
   refine ⟨rfl, ?_⟩
   conv => whnf
   refine .ret _ ?_
   conv => whnf
   exact ⟨[(1000000, strm n L (a + 1))], ⟨⟨_, j1, j2, j3, rfl⟩, rfl⟩, rr, trivial⟩
 · conv => whnf
   simp at h
   have hnp : (1:Int) ≤ n := by omega
   refine RegX.rule hT rfl [] oTCoA65_4 (by decide +kernel) ?_
   conv => whnf
   refine ⟨by unfold inI64; omega, ?_⟩
   conv => whnf
   refine ⟨by omega, ?_⟩
   conv => whnf
   have ea : a + 1 - 1 = a := by omega
   obtain ⟨b1, b2, b3, b4, b5, b6, b7⟩ := nextB h0 hnp
   refine RegX.rule hT rfl [] oTCoA65_5 (by decide +kernel) ?_
   conv => whnf
   refine ⟨by unfold inI64; omega, ?_⟩
   conv => whnf
   refine ⟨by omega, ?_⟩
   conv => whnf
   refine ⟨by unfold inI64; rw [ea]; omega, ?_⟩
   conv => whnf
   rw [ea]
   refine ⟨⟨b3, b4⟩, ?_⟩
   conv => whnf
   refine CallX.of (s148 _ _ (by omega)) [] rfl ⟨lr, lr, trivial⟩ trivial rfl rfl ?_
   rintro x rout ⟨⟨j, j1, j2, j3, rfl⟩, rfl⟩
   refine ⟨rfl, ?_⟩
   conv => whnf
   refine ⟨by unfold inI64; omega, ?_⟩
   conv => whnf
   have e2 : a.tdiv n * (7919 + a.tmod n) = 7919 * a.tdiv n + a.tdiv n * a.tmod n := by rw [Int.mul_add, Int.mul_comm _ 7919]
   rw [e2]
   refine ⟨by unfold inI64; omega, ?_⟩
   conv => whnf
   refine ⟨by unfold inI64; omega, ?_⟩
   conv => whnf
   refine CallX.of (s148 _ _ hm) [] rfl ⟨lr, lr, trivial⟩ trivial rfl rfl ?_
   rintro x rout ⟨⟨j, k1, k2, k3, rfl⟩, rfl⟩
   refine ⟨rfl, ?_⟩
   conv => whnf
   refine .ret _ ?_
   conv => whnf
   exact ⟨[(1000000, strm n L (a + 1))], ⟨⟨_, k1, k2, k3, rfl⟩, rfl⟩, rr, trivial⟩
def Moved (n : Nat) (L : Nat → Int) (a : Int) (c : Int) (r : List (Nat × Res)) : Prop := ∃ b, a ≤ b ∧ b ≤ a + c ∧ r = [(1000000, strm n L b)]
theorem s64 (n : Nat) (L : Nat → Int) (hL : Rok n L) (a : Int) (h0 : 0 ≤ a) (ha : a ≤ 2^40) (lo hi : Int) (h1 : -2^41 ≤ lo) (h2 : hi ≤ lo + 2^40 - 1) (h3 : lo ≤ 2^41) (h4 : lo ≤ hi) :
 FSpec Tryz.prog 12 [.ptr 1000000 0, .d (.int .i64 lo), .d (.int .i64 hi)] [(1000000, strm n L a)] (fun y r => (∃ j : Int, lo ≤ j ∧ j ≤ hi ∧ y = .d (.int .i64 j)) ∧ Moved n L a 1 r) := by
 refine spec_of hT (C := []) Tryz.func12 rfl Tryz.call12 rfl rfl rfl ?_
 conv => whnf
 refine br_intro (fun h => ?_) (fun h => ?_)
 · simp at h; omega
 conv => whnf
 refine ⟨by unfold inI64; omega, ?_⟩
 conv => whnf
 refine ⟨by unfold inI64; omega, ?_⟩
 conv => whnf
 refine CallX.of (s86 n L hL a h0 ha _ (by omega)) [(1000000, 1000000)] rfl ⟨lr, lr, trivial⟩ ⟨rr, trivial⟩ rfl rfl ?_
 rintro x rout ⟨⟨j, k1, k2, k3, rfl⟩, rfl⟩
 refine ⟨rfl, ?_⟩
 conv => whnf
 refine ⟨by unfold inI64; omega, ?_⟩
 conv => whnf
 refine .ret _ ?_
 conv => whnf
 exact ⟨[(1000000, strm n L (a + 1))], ⟨⟨_, by omega, by omega, rfl⟩, a + 1, by omega, by omega, rfl⟩, rr, trivial⟩
theorem s84 (n : Nat) (L : Nat → Int) (hL : Rok n L) (a : Int) (h0 : 0 ≤ a) (ha : a ≤ 2^40) (m : Int) (hm : m ≤ 2^40) :
 FSpec Tryz.prog 64 [.ptr 1000000 0, .d (.int .i64 m)] [(1000000, strm n L a)] (fun y r => (∃ b : Bool, y = .d (.bool b)) ∧ Moved n L a 1 r) := by
 refine spec_of hT (C := []) Tryz.func64 rfl Tryz.call64 rfl rfl rfl ?_
 conv => whnf
 refine CallX.of (s86 n L hL a h0 ha _ (by omega)) [(1000000, 1000000)] rfl ⟨lr, lr, trivial⟩ ⟨rr, trivial⟩ rfl rfl ?_
 rintro x rout ⟨⟨j, k1, k2, k3, rfl⟩, rfl⟩
 refine ⟨rfl, ?_⟩
 conv => whnf
 refine .ret _ ?_
 conv => whnf
 exact ⟨[(1000000, strm n L (a + 1))], ⟨⟨_, rfl⟩, a + 1, by omega, by omega, rfl⟩, rr, trivial⟩
theorem s33 (n : Nat) (L : Nat → Int) (hL : Rok n L) (a : Int) (h0 : 0 ≤ a) (ha : a ≤ 2^40) (l : List Int) (hl : 1 ≤ l.length) (hl2 : l.length ≤ 2^40) :
 FSpec Tryz.prog 25 [.ptr 1000000 0, .d (ints l)] [(1000000, strm n L a)] (fun y r => (∃ x ∈ l, y = .d (.int .i64 x)) ∧ Moved n L a 1 r) := by
 refine spec_of hT (C := []) Tryz.func25 rfl Tryz.call25 rfl rfl rfl ?_
 conv => whnf
 refine CallX.of (s86 n L hL a h0 ha l.length (by omega)) [(1000000, 1000000)] rfl ⟨lr, lr, trivial⟩ ⟨rr, trivial⟩ rfl rfl ?_
 rintro x rout ⟨⟨j, k1, k2, k3, rfl⟩, rfl⟩
 refine ⟨rfl, ?_⟩
 conv => whnf
 refine ⟨⟨k1, by omega⟩, ?_⟩
 conv => whnf
 refine .ret _ ?_
 conv => whnf
 exact ⟨[(1000000, strm n L (a + 1))], ⟨⟨_, getD_mem (by omega), rfl⟩, a + 1, by omega, by omega, rfl⟩, rr, trivial⟩
theorem s15 (n : Nat) (L : Nat → Int) (hL : Rok n L) (a : Int) (h0 : 0 ≤ a) (ha : a ≤ 2^40) (l : List (List UInt8)) (hl : 1 ≤ l.length) (hl2 : l.length ≤ 2^40) :
 FSpec Tryz.prog 31 [.ptr 1000000 0, .d (strs l)] [(1000000, strm n L a)] (fun y r => (∃ x ∈ l, y = .d (.str x)) ∧ Moved n L a 1 r) := by
 refine spec_of hT (C := []) Tryz.func31 rfl Tryz.call31 rfl rfl rfl ?_
 conv => whnf
 refine CallX.of (s86 n L hL a h0 ha l.length (by omega)) [(1000000, 1000000)] rfl ⟨lr, lr, trivial⟩ ⟨rr, trivial⟩ rfl rfl ?_
 rintro x rout ⟨⟨j, k1, k2, k3, rfl⟩, rfl⟩
 refine ⟨rfl, ?_⟩
 conv => whnf
 refine ⟨⟨k1, by omega⟩, ?_⟩
 conv => whnf
 refine .ret _ ?_
 conv => whnf
 exact ⟨[(1000000, strm n L (a + 1))], ⟨⟨_, getD_mem (by omega), rfl⟩, a + 1, by omega, by omega, rfl⟩, rr, trivial⟩
theorem Moved.trans {n : Nat} {L : Nat → Int} {a c : Int} {r : List (Nat × Res)} {b d : Int} (h1 : a ≤ b) (h2 : b + d ≤ a + c) (h : Moved n L b d r) : Moved n L a c r := by
 obtain ⟨e, q1, q2, rfl⟩ := h
 exact ⟨e, by omega, by omega, rfl⟩
theorem s104 (n : Nat) (L : Nat → Int) (hL : Rok n L) (a : Int) (h0 : 0 ≤ a) (ha : a ≤ 2^39) (lo hi : Int) (h1 : -2^38 ≤ lo) (h2 : lo ≤ hi) (h3 : hi ≤ 2^39) :
 FSpec Tryz.prog 68 [.ptr 1000000 0, .d (.int .i64 lo), .d (.int .i64 hi)] [(1000000, strm n L a)] (fun y r => (∃ j : Int, -2^40 ≤ j ∧ j ≤ 2^40 ∧ y = .d (.int .i64 j)) ∧ Moved n L a 2 r) := by
 refine spec_of hT (C := []) Tryz.func68 rfl Tryz.call68 rfl rfl rfl ?_
 conv => whnf
 refine CallX.of (s84 n L hL a h0 (by omega) 12 (by omega)) [(1000000, 1000000)] rfl ⟨lr, lr, trivial⟩ ⟨rr, trivial⟩ rfl rfl ?_
 rintro x rout ⟨⟨f, rfl⟩, ⟨b, b1, b2, rfl⟩⟩
 refine ⟨rfl, ?_⟩
 conv => whnf
 refine br_intro (fun hf => ?_) (fun hf => ?_)
 · conv => whnf
   refine ⟨by unfold inI64; omega, ?_⟩
   conv => whnf
   refine ⟨by unfold inI64; omega, ?_⟩
   conv => whnf
   refine CallX.of (s33 n L hL b (by omega) (by omega) [lo - 1, hi + 1, lo, hi, -1099511627776, 1099511627776] (by simp) (by simp)) [(1000000, 1000000)] rfl ⟨lr, SV.le_lit (by rfl) (by rfl), trivial⟩ ⟨rr, trivial⟩ rfl rfl ?_
   rintro x rout ⟨⟨j, hj, rfl⟩, ⟨c, c1, c2, rfl⟩⟩
   refine ⟨rfl, ?_⟩
   conv => whnf
   refine .ret _ ?_
   conv => whnf
   exact ⟨[(1000000, strm n L c)], ⟨⟨j, by simp at hj; omega, by simp at hj; omega, rfl⟩, c, by omega, by omega, rfl⟩, rr, trivial⟩
 · conv => whnf
   refine CallX.of (s64 n L hL b (by omega) (by omega) lo hi (by omega) (by omega) (by omega) h2) [(1000000, 1000000)] rfl ⟨lr, lr, lr, trivial⟩ ⟨rr, trivial⟩ rfl rfl ?_
   rintro x rout ⟨⟨j, j1, j2, rfl⟩, ⟨c, c1, c2, rfl⟩⟩
   refine ⟨rfl, ?_⟩
   conv => whnf
   refine .ret _ ?_
   conv => whnf
   exact ⟨[(1000000, strm n L c)], ⟨⟨j, by omega, by omega, rfl⟩, c, by omega, by omega, rfl⟩, rr, trivial⟩
theorem s119 (n lo hi : Int) : FSpec Tryz.prog 79 [.d (.int .i64 n), .d (.int .i64 lo), .d (.int .i64 hi)] [] (fun x r => x = .d (.bool (decide (lo ≤ n ∧ n ≤ hi))) ∧ r = []) := by
 refine spec_of hT (C := []) Tryz.func79 rfl Tryz.call79 rfl rfl rfl ?_
 conv => whnf
 refine br_intro (fun h => ?_) (fun h => ?_)
 · conv => whnf
   refine .ret _ ?_
   conv => whnf
   refine ⟨[], ⟨?_, rfl⟩, trivial⟩
   conv => lhs; whnf
   simp at h ⊢; simp [h]
 · conv => whnf
   refine .ret _ ?_
   conv => whnf
   refine ⟨[], ⟨?_, rfl⟩, trivial⟩
   conv => lhs; whnf
   simp at h ⊢; omega
theorem s107 (b : Bool) (e : Int) : FSpec Tryz.prog 81 [.d (.bool b), .d (.int .i64 e)] [] (fun x r => x = .d (.int .i64 (if b then e else 0)) ∧ r = []) := by
 refine spec_of hT (C := []) Tryz.func81 rfl Tryz.call81 rfl rfl rfl ?_
 conv => whnf
 refine br_intro (fun h => ?_) (fun h => ?_)
 · conv => whnf
   refine .ret _ ?_
   conv => whnf
   refine ⟨[], ⟨?_, rfl⟩, trivial⟩
   conv => lhs; whnf
   simp [h]
 · conv => whnf
   refine .ret _ ?_
   conv => whnf
   refine ⟨[], ⟨?_, rfl⟩, trivial⟩
   conv => lhs; whnf
   simp [h]
theorem getD_toNat {α : Type} {l : List α} {i : Nat} {d : α} (h : i < l.length) : l.getD (i : Int).toNat d = l[i] := by
 rw [Int.toNat_natCast, List.getD_eq_getElem?_getD]; simp [h]
theorem sum_take {l : List Int} {i : Nat} (hi : i < l.length) : (l.take (i + 1)).sum = (l.take i).sum + l[i] := by
 rw [← List.take_append_getElem hi, List.sum_append]; simp
def firstE : List Int → Int
 | [] => 0
 | x :: l => if x = 0 then firstE l else x
theorem s161 (l : List Int) (hl : l.length ≤ 2^40) : FSpec Tryz.prog 150 [.d (ints l)] [] (fun x r => x = .d (.int .i64 (firstE l)) ∧ r = []) := by
 refine spec_of hT (C := []) Tryz.func150 rfl Tryz.call150 rfl rfl rfl ?_
 conv => whnf
 refine LoopX.rule hT (C := []) (ι := Nat) (fun i => i ≤ l.length ∧ firstE l = firstE (l.drop i)) (fun i => mkSt [(3, .d (.int .i64 0)), (6, .d (ints l)), (7, .d (.int .i64 l.length)), (8, .d (.int .i64 i))] []) (fun i => l.length - i) 0 ⟨by omega, by simp⟩ ?_ ?_
 · refine Entails.mk' [] rfl rfl ⟨lr, lr, lr, lr, trivial⟩ trivial
 rintro i ⟨p1, p2⟩
 conv => whnf
 refine br_intro (fun h => ?_) (fun h => ?_)
 · simp only [decide_eq_true_eq] at h
   conv => whnf
   refine ⟨⟨by omega, by omega⟩, ?_⟩
   conv => whnf
   have hi : i < l.length := by omega
   have hd : l.drop i = l[i] :: l.drop (i + 1) := List.drop_eq_getElem_cons hi
   refine br_intro (fun h2 => ?_) (fun h2 => ?_)
   · conv => whnf
     refine .ret _ ?_
     conv => whnf
     refine ⟨[], ⟨?_, rfl⟩, trivial⟩
     conv => lhs; whnf
     rw [getD_toNat hi] at h2 ⊢
     simp at h2
     rw [p2, hd, firstE, if_neg h2]
   · conv => whnf
     rw [getD_toNat hi] at h2
     simp at h2
     refine ⟨by unfold inI64; omega, ?_⟩
     conv => whnf
     refine ⟨i + 1, ⟨hi, ?_⟩, by omega, ?_⟩
     · rw [p2, hd, firstE, if_pos h2]
     · exact Entails.mk' [] rfl rfl ⟨lr, lr, lr, lr, trivial⟩ trivial
 · simp only [decide_eq_false_iff_not] at h
   conv => whnf
   refine .ret _ ?_
   conv => whnf
   refine ⟨[], ⟨?_, rfl⟩, trivial⟩
   conv => lhs; whnf
   rw [p2, List.drop_eq_nil_iff.2 (by omega)]; rfl
theorem s105 (l : List Int) (hl : l.length ≤ 2^40) : FSpec Tryz.prog 71 [.d (ints l)] [] (fun x r => x = .d (.int .i64 (firstE l)) ∧ r = []) := by
 refine spec_of hT (C := []) Tryz.func71 rfl Tryz.call71 rfl rfl rfl ?_
 conv => whnf
 refine CallX.pure (s161 l hl) ⟨lr, trivial⟩ rfl ?_
 conv => whnf
 refine .ret _ ?_
 conv => whnf
 exact ⟨[], ⟨rfl, rfl⟩, trivial⟩
def splitF (cents : Int) (w : List Int) : Int :=
 if ¬ (0 ≤ cents ∧ cents ≤ 1000000000) then 1 else if 50 < w.length then 2 else if w.any (fun x => !decide (0 ≤ x ∧ x ≤ 5761440)) then 1 else if w.sum = 0 then 8 else 0
def keyCh (i : Nat) (c : UInt8) : Bool := (decide (97 ≤ c.toNat) && decide (c.toNat ≤ 122)) || (!decide (i = 0) && ((decide (48 ≤ c.toNat) && decide (c.toNat ≤ 57)) || decide (c.toNat = 45) || decide (c.toNat = 95)))
def isKeyB (s : List UInt8) : Bool := (List.range s.length).all (fun i => keyCh i (s.getD i 0)) && !s.isEmpty && decide (s.length ≤ 40)
theorem keyCh_iff {i : Nat} {c : UInt8} : keyCh i c = true ↔ ((97 ≤ (c.toNat : Int) ∧ (c.toNat : Int) ≤ 122) ∨ ((i : Int) ≠ 0 ∧ ((48 ≤ (c.toNat : Int) ∧ (c.toNat : Int) ≤ 57) ∨ (c.toNat : Int) = 45 ∨ (c.toNat : Int) = 95))) := by
 simp only [keyCh, Bool.or_eq_true, Bool.and_eq_true, decide_eq_true_eq, Bool.not_eq_true', decide_eq_false_iff_not]
 omega
theorem s108 (s : List UInt8) (hl : s.length ≤ 2^40) : FSpec Tryz.prog 77 [.d (.str s)] [] (fun x r => x = .d (.bool (isKeyB s)) ∧ r = []) := by
 refine spec_of hT (C := []) Tryz.func77 rfl Tryz.call77 rfl rfl rfl ?_
 conv => whnf
 refine LoopX.rule hT (C := []) (ι := Nat) (fun i => i ≤ s.length ∧ ∀ j, j < i → keyCh j (s.getD j 0) = true) (fun i => mkSt [(0, .d (.str s)), (7, .d (.int .i64 s.length)), (8, .d (.int .i64 i))] []) (fun i => s.length - i) 0 ⟨by omega, by omega⟩ ?_ ?_
 · exact Entails.mk' [] rfl rfl ⟨lr, lr, lr, trivial⟩ trivial
 rintro i ⟨p1, p2⟩
 conv => whnf
 refine br_intro (fun h => ?_) (fun h => ?_)
 · simp only [decide_eq_true_eq] at h
   have hi : i < s.length := by omega
   have e1 : (i : Int).toNat = i := Int.toNat_natCast i
   conv => whnf
   repeat (refine And.intro (by (try unfold inI64); (try dsimp only); (try simp only [e1, List.length_cons, List.length_append, List.length_singleton, List.length_nil]); omega) ?_; conv => whnf)
   have hbad : keyCh i (s.getD i 0) = false → isKeyB s = false := fun h => by
    have : (List.range s.length).all (fun i => keyCh i (s.getD i 0)) = false := by
     rw [List.all_eq_false]; exact ⟨i, List.mem_range.2 hi, by rw [h]; simp⟩
    simp only [isKeyB, this, Bool.false_and]
   have hgood : keyCh i (s.getD i 0) = true → ∀ j, j < i + 1 → keyCh j (s.getD j 0) = true := fun h j hj => by
    rcases Nat.lt_or_ge j i with q | q
    · exact p2 j q
    · have : j = i := by omega
      subst this; exact h
   repeat' (refine br_intro (fun _ => ?_) (fun _ => ?_) <;> (conv => whnf))
   all_goals first
    | (refine And.intro (by unfold inI64; omega) ?_
       conv => whnf
       refine ⟨i + 1, ⟨hi, hgood ?_⟩, by omega, Entails.mk' [] rfl rfl ⟨lr, lr, lr, trivial⟩ trivial⟩
       rw [keyCh_iff]
       simp only [decide_eq_true_eq, decide_eq_false_iff_not, Bool.not_eq_true', Bool.not_eq_false', e1] at *
       omega)
    | (refine .ret _ ?_
       conv => whnf
       refine ⟨[], ⟨?_, rfl⟩, trivial⟩
       conv => lhs; whnf
       rw [hbad]
       cases hq : keyCh i (s.getD i 0) with
       | false => rfl
       | true =>
         rw [keyCh_iff] at hq
         simp only [decide_eq_true_eq, decide_eq_false_iff_not, Bool.not_eq_true', Bool.not_eq_false', e1] at *
         omega)
    | skip
 simp only [decide_eq_false_iff_not] at h
 have e1 : i = s.length := by omega
 subst e1
 have hall : (List.range s.length).all (fun i => keyCh i (s.getD i 0)) = true := by
  rw [List.all_eq_true]; intro j hj; exact p2 j (List.mem_range.1 hj)
 conv => whnf
 repeat' (refine br_intro (fun _ => ?_) (fun _ => ?_) <;> (conv => whnf))
 all_goals (refine .ret _ ?_; conv => whnf)
 all_goals (refine ⟨[], ⟨?_, rfl⟩, trivial⟩; conv => lhs; whnf)
 · rename_i hq
   have : s.isEmpty = false := by
    cases s with
    | nil => exact absurd hq (by decide)
    | cons x l => rfl
   unfold isKeyB
   rw [hall, this]
   simp
   omega
 · rename_i hq
   have : s.isEmpty = true := by
    cases s with
    | nil => rfl
    | cons x l => exact absurd hq (by simp)
   unfold isKeyB
   rw [hall, this]
   rfl
def strLe (a b : List UInt8) : Bool := Op.bytesLess a b || a == b
def firstAt (f : Nat → Int) : Nat → Int
 | 0 => 0
 | n + 1 => if firstAt f n = 0 then f n else firstAt f n
theorem firstAt_zero {f : Nat → Int} : ∀ {n : Nat}, (∀ j, j < n → f j = 0) → firstAt f n = 0 := by
 intro n
 induction n with
 | zero => intro _; rfl
 | succ n ih => intro h; rw [firstAt, if_pos (ih fun j hj => h j (by omega))]; exact h n (by omega)
theorem firstAt_eq {f : Nat → Int} {n i : Nat} {e : Int} (hi : i < n) (h : ∀ j, j < i → f j = 0) (h1 : e ≠ 0) (h2 : f i = e) : firstAt f n = e := by
 induction n with
 | zero => omega
 | succ n ih =>
   rw [firstAt]
   by_cases q : i < n
   · rw [ih q, if_neg h1]
   · have : i = n := by omega
     subst this
     rw [if_pos (firstAt_zero h)]; exact h2
end Go.Proofs.YtcjfniddeibbhaaGreatDoor
namespace Go.Proofs
open Go.Shelf
def Tryz.lays160_ren : Go.Shelf.Ren := ⟨fun | 160 => 167 | 232 => 213 | 231 => 212 | 227 => 214 | 234 => 216 | 233 => 215 | 236 => 218 | 235 => 217 | 228 => 273 | 271 => 276 | 151 => 275 | 197 => 274 | 120 => 305 | 152 => 304 | 260 => 303 | 137 => 315 | 119 => 316 | 224 => 317 | 225 => 318 | 217 => 321 | 266 => 322 | n => n, fun | 9 => 9 | 4 => 4 | 3 => 3 | 5 => 5 | 117 => 292 | 116 => 291 | 0 => 0 | 124 => 295 | 21 => 21 | 105 => 346 | 46 => 242 | 119 => 376 | 139 => 379 | 138 => 378 | n => n, fun | 3 => 1 | 4 => 2 | n => n⟩
theorem Tryz.lays160 : Go.Proofs.Lays.n160 Tryz.prog Tryz.lays160_ren := {
 mixed := by kernel_rfl
 f119 := Tryz.func316.trans (congrArg some (by kernel_rfl))
 f120 := Tryz.func305.trans (congrArg some (by kernel_rfl))
 f137 := Tryz.func315.trans (congrArg some (by kernel_rfl))
 f151 := Tryz.func275.trans (congrArg some (by kernel_rfl))
 f152 := Tryz.func304.trans (congrArg some (by kernel_rfl))
 f160 := Tryz.func167.trans (congrArg some (by kernel_rfl))
 f197 := Tryz.func274.trans (congrArg some (by kernel_rfl))
 f217 := Tryz.func321.trans (congrArg some (by kernel_rfl))
 f224 := Tryz.func317.trans (congrArg some (by kernel_rfl))
 f225 := Tryz.func318.trans (congrArg some (by kernel_rfl))
 f227 := Tryz.func214.trans (congrArg some (by kernel_rfl))
 f228 := Tryz.func273.trans (congrArg some (by kernel_rfl))
 f231 := Tryz.func212.trans (congrArg some (by kernel_rfl))
 f232 := Tryz.func213.trans (congrArg some (by kernel_rfl))
 f233 := Tryz.func215.trans (congrArg some (by kernel_rfl))
 f234 := Tryz.func216.trans (congrArg some (by kernel_rfl))
 f235 := Tryz.func217.trans (congrArg some (by kernel_rfl))
 f236 := Tryz.func218.trans (congrArg some (by kernel_rfl))
 f260 := Tryz.func303.trans (congrArg some (by kernel_rfl))
 f266 := Tryz.func322.trans (congrArg some (by kernel_rfl))
 f271 := Tryz.func276.trans (congrArg some (by kernel_rfl))
 t0 := Tryz.underlying0
 a0 := Tryz.isAgg0
 z0 := Tryz.sizeOf0
 v0 := Tryz.zeroValue0
 t3 := Tryz.underlying3
 a3 := Tryz.isAgg3
 z3 := Tryz.sizeOf3
 v3 := Tryz.zeroValue3
 t4 := Tryz.underlying4
 a4 := Tryz.isAgg4
 z4 := Tryz.sizeOf4
 v4 := Tryz.zeroValue4
 t5 := Tryz.underlying5
 a5 := Tryz.isAgg5
 z5 := Tryz.sizeOf5
 v5 := Tryz.zeroValue5
 t9 := Tryz.underlying9
 a9 := Tryz.isAgg9
 z9 := Tryz.sizeOf9
 v9 := Tryz.zeroValue9
 t21 := Tryz.underlying21
 a21 := Tryz.isAgg21
 z21 := Tryz.sizeOf21
 v21 := Tryz.zeroValue21
 t46 := Tryz.underlying242
 a46 := Tryz.isAgg242
 z46 := Tryz.sizeOf242
 v46 := Tryz.zeroValue242
 t105 := Tryz.underlying346
 a105 := Tryz.isAgg346
 z105 := Tryz.sizeOf346
 v105 := Tryz.zeroValue346
 t116 := Tryz.underlying291
 a116 := Tryz.isAgg291
 z116 := Tryz.sizeOf291
 t117 := Tryz.underlying292
 a117 := Tryz.isAgg292
 z117 := Tryz.sizeOf292
 v117 := Tryz.zeroValue292
 t119 := Tryz.underlying376
 a119 := Tryz.isAgg376
 z119 := Tryz.sizeOf376
 t124 := Tryz.underlying295
 a124 := Tryz.isAgg295
 z124 := Tryz.sizeOf295
 v124 := Tryz.zeroValue295
 t138 := Tryz.underlying378
 a138 := Tryz.isAgg378
 z138 := Tryz.sizeOf378
 v138 := Tryz.zeroValue378
 t139 := Tryz.underlying379
 a139 := Tryz.isAgg379
 z139 := Tryz.sizeOf379
 v139 := Tryz.zeroValue379
 g3 := by kernel_rfl
 g4 := by kernel_rfl }
end Go.Proofs
set_option maxRecDepth 20000
namespace Go.Proofs.YtcjfniddeibbhaaGreatDoor
open Go Go.Eng Go.Shelf
theorem s162 (s cs : List UInt8) (hl : s.length ≤ 2^40) (hc : cs.length ≤ 2^20) (ha : cs.all (fun b => decide (b.toNat < 128)) = true) : FSpec Tryz.prog 167 [.d (.str s), .d (.str cs)] [] (fun x r => x = .d (.str (Lib.trimS s cs)) ∧ r = []) := by
 refine FSpec.ofBelow Tryz.call167 (fun G β w vs _ hvl hd => ?_)
 match vs, hvl with
 | [u, v], _ =>
   have h0 := hd 0 _ u rfl rfl
   have h1 := hd 1 _ v rfl rfl
   cases h0 with | d _ _ h0 => cases h0 with | str _ =>
   cases h1 with | d _ _ h1 => cases h1 with | str _ =>
   refine ⟨.string ⟨(Lib.trimS s cs).toArray⟩, fun _ _ => .d _ _ (.str _), ?_⟩
   have hcon := Any.strings_Trim_laid Tryz.lays160 (by kernel_rfl) ⟨s.toArray⟩ ⟨cs.toArray⟩ w (by simp [ByteArray.size]; omega) (by simp [ByteArray.size]; omega) (ascii_of_all (by simpa using ha))
   have e : Tryz.lays160_ren.f 160 = 167 := rfl
   rw [e] at hcon
   simpa using hcon
theorem dropWhile_nil {p : UInt8 → Bool} {l : List UInt8} : l.dropWhile p = [] ↔ ∀ b ∈ l, p b = true := by
 induction l with
 | nil => simp
 | cons a l ih => by_cases h : p a = true <;> simp [List.dropWhile_cons, h, ih]
theorem trimS_nil {s cs : List UInt8} : Lib.trimS s cs = [] ↔ ∀ b ∈ s, cs.contains b = true := by
 unfold Lib.trimS Lib.trimLeftS Lib.trimRightS
 rw [dropWhile_nil]
 constructor
 · intro h b hb
   have h1 : s.reverse.dropWhile (cs.contains ·) = [] ∨ ¬ s.reverse.dropWhile (cs.contains ·) = [] := Classical.em _
   rcases h1 with h1 | h1
   · exact dropWhile_nil.1 h1 b (by simpa using hb)
   · obtain ⟨c, m, hc⟩ := List.exists_cons_of_ne_nil h1
     have h3 : cs.contains c = false := by
      have := List.head_dropWhile_not (cs.contains ·) (l := s.reverse) h1
      simp only [hc, List.head_cons] at this
      exact this
     have h4 := h c (by rw [List.mem_reverse, hc]; exact List.mem_cons_self)
     rw [h3] at h4; cases h4
 · intro h b hb
   rw [List.mem_reverse] at hb
   exact h b (by simpa using (List.dropWhile_sublist _).subset hb)
def onlyB (s cs : List UInt8) : Bool := s.all (cs.contains ·)
theorem s111 (s cs : List UInt8) (hl : s.length ≤ 2^40) (hc : cs.length ≤ 2^20) (ha : cs.all (fun b => decide (b.toNat < 128)) = true) : FSpec Tryz.prog 100 [.d (.str s), .d (.str cs)] [] (fun x r => x = .d (.bool (onlyB s cs)) ∧ r = []) := by
 refine spec_of hT (C := []) Tryz.func100 rfl Tryz.call100 rfl rfl rfl ?_
 conv => whnf
 refine CallX.pure (s162 _ _ hl hc ha) ⟨lr, lr, trivial⟩ rfl ?_
 conv => whnf
 refine .ret _ ?_
 conv => whnf
 refine ⟨[], ⟨?_, rfl⟩, trivial⟩
 show SV.d (.bool (Lib.trimS s cs == [])) = _
 congr 2
 rw [Bool.eq_iff_iff]
 simp only [beq_iff_eq, trimS_nil, onlyB, List.all_eq_true]
theorem s110 (a b c : Int) : FSpec Tryz.prog 99 [.d (.int .i64 a), .d (.int .i64 b), .d (.int .i64 c)] [] (fun x r => x = .d (.bool (decide (b ≤ a ∧ a ≤ c))) ∧ r = []) := by
 refine spec_of hT (C := []) Tryz.func99 rfl Tryz.call99 rfl rfl rfl ?_
 conv => whnf
 repeat' (refine br_intro (fun _ => ?_) (fun _ => ?_) <;> (conv => whnf))
 all_goals
  refine .ret _ ?_
  conv => whnf
  refine ⟨[], ⟨?_, rfl⟩, trivial⟩
  conv => lhs; whnf
  congr 2
  grind
def smallsL : List UInt8 := [97, 98, 99, 100, 101, 102, 103, 104, 105, 106, 107, 108, 109, 110, 111, 112, 113, 114, 115, 116, 117, 118, 119, 120, 121, 122]
def keyL : List UInt8 := smallsL ++ [48, 49, 50, 51, 52, 53, 54, 55, 56, 57, 45, 95]
theorem u8_all {p : UInt8 → Bool} (h : (List.range 256).all (fun n => p (UInt8.ofNat n)) = true) (c : UInt8) : p c = true := by
 have := List.all_eq_true.1 h c.toNat (List.mem_range.2 c.toNat_lt)
 simpa using this
theorem small_iff (c : UInt8) : smallsL.contains c = keyCh 0 c := by
 have := u8_all (p := fun c => smallsL.contains c == keyCh 0 c) (by decide +kernel) c
 simpa using this
theorem key_iff (c : UInt8) : keyL.contains c = keyCh 1 c := by
 have := u8_all (p := fun c => keyL.contains c == keyCh 1 c) (by decide +kernel) c
 simpa using this
theorem keyCh_succ (i : Nat) (c : UInt8) : keyCh (i + 1) c = keyCh 1 c := by simp [keyCh]
theorem keyCh_one {c : UInt8} (h : keyCh 0 c = true) : keyCh 1 c = true := by
 simp only [keyCh] at h ⊢; simp at h; simp [h]
theorem isKey_eq (s : List UInt8) : isKeyB s = (decide (1 ≤ (s.length : Int) ∧ (s.length : Int) ≤ 40) && onlyB (s.take 1) smallsL && onlyB s keyL) := by
 cases s with
 | nil => rfl
 | cons c l =>
   have h1 : onlyB ((c :: l).take 1) smallsL = keyCh 0 c := by simp only [onlyB, List.take_succ_cons, List.take_zero, List.all_cons, List.all_nil, Bool.and_true, small_iff]
   have h2 : onlyB (c :: l) keyL = (keyCh 1 c && l.all (keyCh 1 ·)) := by simp only [onlyB, List.all_cons, key_iff]
   have h3 : (List.range (c :: l).length).all (fun i => keyCh i ((c :: l).getD i 0)) = (keyCh 0 c && l.all (keyCh 1 ·)) := by
    rw [List.length_cons, List.range_succ_eq_map, List.all_cons, List.all_map]
    congr 1
    rw [Bool.eq_iff_iff, List.all_eq_true, List.all_eq_true]
    constructor
    · intro h x hx
      obtain ⟨i, hi, rfl⟩ := List.getElem_of_mem hx
      have := h i (List.mem_range.2 hi)
      simp only [Function.comp, List.getD_cons_succ, keyCh_succ] at this
      rwa [List.getD_eq_getElem?_getD, List.getElem?_eq_getElem hi] at this
    · intro h i hi
      have hi := List.mem_range.1 hi
      simp only [Function.comp, List.getD_cons_succ, keyCh_succ]
      rw [List.getD_eq_getElem?_getD, List.getElem?_eq_getElem hi]
      exact h _ (List.getElem_mem hi)
   unfold isKeyB
   rw [h1, h2, h3, Bool.eq_iff_iff]
   simp only [Bool.and_eq_true, decide_eq_true_eq, Bool.not_eq_true', List.isEmpty_cons, List.length_cons]
   constructor
   · rintro ⟨⟨⟨a, b⟩, _⟩, d⟩; exact ⟨⟨⟨by omega, by omega⟩, a⟩, keyCh_one a, b⟩
   · rintro ⟨⟨⟨_, d⟩, a⟩, _, b⟩; exact ⟨⟨⟨a, b⟩, trivial⟩, by omega⟩
theorem s21 (s : List UInt8) (hl : s.length ≤ 2^40) : FSpec Tryz.prog 34 [.d (.str s)] [] (fun x r => x = .d (.bool (isKeyB s)) ∧ r = []) := by
 refine spec_of hT (C := []) Tryz.func34 rfl Tryz.call34 rfl rfl rfl ?_
 conv => whnf
 repeat' (first | (refine CallX.exact (s110 _ _ _) rfl rfl ?_; rotate_right; conv => whnf) | (refine CallX.exact (s111 s keyL hl ?_ ?_) rfl rfl ?_; rotate_right; conv => whnf) | (refine CallX.exact (s111 _ smallsL ?_ ?_ ?_) rfl rfl ?_; rotate_right; conv => whnf) | (refine br_intro ?_ ?_ <;> intro hb <;> (try simp only [brs] at hb) <;> conv => whnf) | omega | (refine And.intro ?_ ?_; ((try dsimp only); first | omega | (refine szA rfl ?_; omega) | (refine szB rfl ?_; omega) | (unfold inI64; omega) | exact rfl | (simp only [lns] at *; omega) | decide | (unfold inI64; decide)); conv => whnf) | decide | assumption)
 all_goals try (simp; omega)
 all_goals
  refine .ret _ ?_
  conv => whnf
  refine ⟨[], ⟨?_, rfl⟩, trivial⟩
  conv => lhs; whnf
  rw [isKey_eq]; congr 2; grind
theorem first_step {f : Nat → Int} {i : Nat} (p : ∀ j, j < i → f j = 0) (h : f i = 0) : ∀ j, j < i + 1 → f j = 0 := fun j hj => by
 rcases Nat.lt_or_ge j i with q | q
 · exact p j q
 · have : j = i := by omega
   subst this; exact h
theorem toNat_pred (i : Nat) : ((i : Int) - 1).toNat = i - 1 := by omega
theorem take_snocD {α : Type} {l : List α} {i : Nat} {d : α} (h : i < l.length) : l.take (i + 1) = l.take i ++ [l.getD i d] := by
 rw [List.take_succ_eq_append_getElem h, List.getD_eq_getElem?_getD, List.getElem?_eq_getElem h]; rfl
theorem firstAt_all {f : Nat → Int} : ∀ {n : Nat}, firstAt f n = 0 → ∀ j, j < n → f j = 0 := by
 intro n
 induction n with
 | zero => intro _ j hj; omega
 | succ n ih =>
   intro h j hj
   rw [firstAt] at h
   split at h
   · rename_i q
     rcases Nat.lt_or_ge j n with r | r
     · exact ih q j r
     · have : j = n := by omega
       subst this; exact h
   · omega
theorem mem_getD {α : Type} {l : List α} {x d : α} (h : x ∈ l) : ∃ j, j < l.length ∧ l.getD j d = x := by
 obtain ⟨j, hj, rfl⟩ := List.getElem_of_mem h
 exact ⟨j, hj, by rw [List.getD_eq_getElem?_getD, List.getElem?_eq_getElem hj]; rfl⟩
def oTCoD249_4 : List (Nat × List Nat) := [(0, []), (1, [0]), (2, []), (3, []), (4, []), (5, [4]), (6, [4, 5]), (7, [4]), (8, [4]), (9, [4, 5, 6, 7, 8]), (10, [4, 5, 6, 7, 8, 9]), (11, [4, 5, 6, 7, 8, 9]), (12, [4, 5, 6, 7, 8]), (13, [4, 5, 6, 7, 8]), (14, []), (15, []), (16, [])]
def oTCoD249_6 : List (Nat × List Nat) := [(0, []), (1, [0]), (2, [0, 1]), (3, [0, 1, 2]), (4, [0, 1, 2]), (5, [0, 1, 2, 3, 4]), (6, [0, 1, 2, 3, 4, 5]), (7, [0, 1, 2, 3, 4, 5]), (8, [0, 1, 2, 3, 4]), (9, [0, 1, 2, 3, 4]), (10, [0, 1, 2, 3, 4, 5, 6, 7, 8, 9]), (11, [0, 1, 2, 3, 4, 5, 6, 7, 8, 9, 10]), (12, [0, 1, 2, 3, 4, 5, 6, 7, 8, 9]), (13, [0, 1, 2, 3, 4, 5, 6, 7, 8, 9]), (14, [2, 3, 4]), (15, [2, 3, 4]), (16, []), (17, [])]
section
variable {α : Type} (cmp : α → α → Int)
def insR (x : α) : List α → List α
 | [] => [x]
 | y :: r => if cmp x y < 0 then y :: insR x r else x :: y :: r
def isortR (l : List α) : List α := l.foldl (fun acc x => insR cmp x acc) []
def isort (l : List α) : List α := (isortR cmp l).reverse
theorem insR_length (x : α) : ∀ l : List α, (insR cmp x l).length = l.length + 1 := by
 intro l
 induction l with
 | nil => rfl
 | cons y r ih => simp only [insR]; split <;> simp [ih]
theorem isortR_snoc (l : List α) (x : α) : isortR cmp (l ++ [x]) = insR cmp x (isortR cmp l) := by simp [isortR]
theorem isortR_length (l : List α) : (isortR cmp l).length = l.length := by
 have : ∀ (l acc : List α), (l.foldl (fun acc x => insR cmp x acc) acc).length = acc.length + l.length := by
  intro l
  induction l with
  | nil => intro acc; simp
  | cons x l ih => intro acc; rw [List.foldl_cons, ih, insR_length]; simp; omega
 rw [isortR, this]; simp
theorem insR_mem (x y : α) : ∀ {l : List α}, y ∈ insR cmp x l ↔ y = x ∨ y ∈ l := by
 intro l
 induction l with
 | nil => simp [insR]
 | cons z r ih =>
   simp only [insR]
   split
   · simp only [List.mem_cons, ih]
     constructor
     · rintro (h | h | h)
       · exact .inr (.inl h)
       · exact .inl h
       · exact .inr (.inr h)
     · rintro (h | h | h)
       · exact .inr (.inl h)
       · exact .inl h
       · exact .inr (.inr h)
   · simp
theorem isortR_mem {y : α} (l : List α) : y ∈ isortR cmp l ↔ y ∈ l := by
 have : ∀ (l acc : List α), y ∈ (l.foldl (fun acc x => insR cmp x acc) acc) ↔ y ∈ acc ∨ y ∈ l := by
  intro l
  induction l with
  | nil => intro acc; simp
  | cons x l ih =>
    intro acc; rw [List.foldl_cons, ih, insR_mem, List.mem_cons]
    constructor
    · rintro ((h | h) | h)
      · exact .inr (.inl h)
      · exact .inl h
      · exact .inr (.inr h)
    · rintro (h | h | h)
      · exact .inl (.inr h)
      · exact .inl (.inl h)
      · exact .inr h
 rw [isortR, this]; simp
end
def cap3 (x y z : SV) (e1 e2 e3 : TypeId) : List (Nat × Res) := [(1000002, .cells e1 [x]), (1000003, .cells e2 [y]), (1000004, .cells e3 [z])]
theorem take_snoc {α : Type} {l : List α} {i : Nat} (h : i < l.length) : l.take (i + 1) = l.take i ++ [l[i]] := (List.take_append_getElem h).symm
theorem getD_mid {α : Type} (A B : List α) (x d : α) {i : Nat} (h : i = A.length) : (A ++ x :: B).getD i d = x := by
 subst h; rw [List.getD_eq_getElem?_getD]; simp
theorem swap_lemma {α : Type} (A B : List α) (x y : α) : (((A ++ [y] ++ [x] ++ B).set (A.length + 1) y).set A.length x) = A ++ [x] ++ [y] ++ B := by
 simp [List.set_append]
theorem s228 (g : FuncId) (x1 x2 x3 : DV) (e1 e2 e3 : TypeId) (cmp : Int → Int → Int) (l : List Int) (hl : l.length ≤ 2^40)
 (hcmp : ∀ p q, p ∈ l → q ∈ l → FSpec Tryz.prog g [.d (.int .i64 p), .d (.int .i64 q), .ptr 1000002 0, .ptr 1000003 0, .ptr 1000004 0] (cap3 (.d x1) (.d x2) (.d x3) e1 e2 e3)
   (fun y r => y = .d (.int .i64 (cmp p q)) ∧ r = cap3 (.d x1) (.d x2) (.d x3) e1 e2 e3)) :
 FSpec Tryz.prog 249 [.buf 1000001, .d (.int .i64 0), .d (.int .i64 l.length), .fn g [.ptr 1000002 0, .ptr 1000003 0, .ptr 1000004 0]] ((1000001, seqB 3 1 iF 0 l) :: cap3 (.d x1) (.d x2) (.d x3) e1 e2 e3)
  (fun y r => y = .tup [] ∧ r = (1000001, seqB 3 1 iF 0 (isort cmp l)) :: cap3 (.d x1) (.d x2) (.d x3) e1 e2 e3) := by
 refine spec_of hT (C := []) Tryz.func249 rfl Tryz.call249 rfl rfl rfl ?_
 conv => whnf
 refine ⟨by unfold inI64; omega, ?_⟩
 conv => whnf
 refine LoopX.rule hT (C := []) (ι := Nat × List Int) (fun p => 1 ≤ p.1 ∧ (p.1 ≤ l.length ∨ p.1 = 1) ∧ p.2 = (isortR cmp (l.take p.1)).reverse ++ l.drop p.1)
  (fun p => mkSt [(0, .buf 1000001), (1, .d (.int .i64 0)), (2, .d (.int .i64 l.length)), (3, .fn g [.ptr 1000002 0, .ptr 1000003 0, .ptr 1000004 0]), (8, .d (.int .i64 p.1))] ((1000001, seqB 3 1 iF 0 p.2) :: cap3 (.d x1) (.d x2) (.d x3) e1 e2 e3))
  (fun p => l.length - p.1) (1, l) ⟨by simp, by simp, ?_⟩ ?_ ?_
 · simp only
   cases l with
   | nil => rfl
   | cons x l => simp [isortR, insR]
 · exact Entails.mk' [(1000001, 1000001), (1000002, 1000002), (1000003, 1000003), (1000004, 1000004)] rfl rfl ⟨lr, lr, lr, lr, lr, trivial⟩ ⟨rr, rr, rr, rr, trivial⟩
 rintro ⟨i, c⟩ ⟨p1, p2, p3⟩
 simp only at p1 p2 p3
 conv => whnf
 refine br_intro (fun h => ?_) (fun h => ?_)
 · simp only [decide_eq_true_eq] at h
   have hi : i < l.length := by omega
   conv => whnf
   have hx : l[i] ∈ l := List.getElem_mem hi
   have hmem : ∀ y ∈ isortR cmp (l.take i), y ∈ l := fun y hy => List.mem_of_mem_take ((isortR_mem cmp _).1 hy)
   refine LoopX.rule hT (C := []) (ι := List Int × List Int) (fun p => insR cmp l[i] (isortR cmp (l.take i)) = p.2.reverse ++ insR cmp l[i] p.1 ∧ p.1.length + p.2.length = i ∧ ∀ y ∈ p.1, y ∈ l)
    (fun p => mkSt [(0, .buf 1000001), (1, .d (.int .i64 0)), (2, .d (.int .i64 l.length)), (3, .fn g [.ptr 1000002 0, .ptr 1000003 0, .ptr 1000004 0]), (8, .d (.int .i64 i)), (9, .d (.int .i64 p.1.length))]
      ((1000001, seqB 3 1 iF 0 (p.1.reverse ++ [l[i]] ++ p.2 ++ l.drop (i + 1))) :: cap3 (.d x1) (.d x2) (.d x3) e1 e2 e3))
    (fun p => p.1.length) (isortR cmp (l.take i), []) ⟨by simp, ?_, hmem⟩ ?_ ?_
   · simp [isortR_length]; omega
   · refine Entails.mk' [(1000001, 1000001), (1000002, 1000002), (1000003, 1000003), (1000004, 1000004)] rfl rfl ⟨lr, lr, lr, lr, lr, SV.le_int ?_, trivial⟩ ⟨?_, rr, rr, rr, trivial⟩
     · simp [isortR_length]; omega
     · have : c = (isortR cmp (l.take i)).reverse ++ [l[i]] ++ [] ++ l.drop (i + 1) := by rw [p3, List.drop_eq_getElem_cons hi]; simp
       show Res.le (seqB 3 1 iF 0 c) _
       rw [this]; exact rr
   rintro ⟨A, B⟩ ⟨q1, q2, q3⟩
   simp only at q1 q2 q3
   have hlen : (A.reverse ++ [l[i]] ++ B ++ l.drop (i + 1)).length = l.length := by simp; omega
   conv => whnf
   refine RegX.rule hT rfl [] oTCoD249_4 (by decide +kernel) ?_
   conv => whnf
   refine br_intro (fun h2 => ?_) (fun h2 => ?_)
   · conv => whnf
     cases A with
     | nil => simp at h2
     | cons y A =>
     have g1 : ((y :: A).reverse ++ [l[i]] ++ B ++ l.drop (i + 1)).getD (((y :: A).length : Int)).toNat 0 = l[i] := by
      rw [show (y :: A).reverse ++ [l[i]] ++ B ++ l.drop (i + 1) = (y :: A).reverse ++ l[i] :: (B ++ l.drop (i + 1)) by simp]
      exact getD_mid _ _ _ _ (by simp)
     have g2 : ((y :: A).reverse ++ [l[i]] ++ B ++ l.drop (i + 1)).getD ((((y :: A).length : Int)) - 1).toNat 0 = y := by
      rw [show (y :: A).reverse ++ [l[i]] ++ B ++ l.drop (i + 1) = A.reverse ++ y :: ([l[i]] ++ B ++ l.drop (i + 1)) by simp]
      exact getD_mid _ _ _ _ (by simp)
     have hA : (y :: A).length = A.length + 1 := rfl
     refine ⟨⟨by omega, by simp only [hlen]; omega⟩, ?_⟩
     conv => whnf
     refine ⟨by simp only [hlen]; omega, ?_⟩
     conv => whnf
     refine ⟨by unfold inI64; simp only [List.length_cons]; omega, ?_⟩
     conv => whnf
     refine ⟨⟨by simp only [List.length_cons]; omega, by simp only [hlen, List.length_cons]; omega⟩, ?_⟩
     conv => whnf
     refine ⟨by simp only [hlen, List.length_cons]; omega, ?_⟩
     conv => whnf
     refine CallX.of (hcmp l[i] y hx (q3 y (by simp))) [(1000002, 1000002), (1000003, 1000003), (1000004, 1000004)] rfl ⟨SV.le_int g1, SV.le_int g2, lr, lr, lr, trivial⟩ ⟨rr, rr, rr, trivial⟩ rfl rfl ?_
     rintro x rout ⟨rfl, rfl⟩
     refine ⟨rfl, ?_⟩
     conv => whnf
     refine br_intro (fun h3 => ?_) (fun h3 => ?_)
     · simp only [decide_eq_true_eq] at h3
       conv => whnf
       refine RegX.rule hT rfl [] oTCoD249_6 (by decide +kernel) ?_
       conv => whnf
       repeat (refine And.intro (by (try unfold inI64); (try dsimp only); (try simp only [hlen, List.length_cons, List.length_append, List.length_singleton, List.length_nil]); omega) ?_; conv => whnf)
       have hsw : (((y :: A).reverse ++ [l[i]] ++ B ++ l.drop (i + 1)).set (((y :: A).length : Int)).toNat y).set ((((y :: A).length : Int)) - 1).toNat l[i] = A.reverse ++ [l[i]] ++ (y :: B) ++ l.drop (i + 1) := by
        have k1 : (((y :: A).length : Int)).toNat = A.reverse.length + 1 := by simp
        have k2 : ((((y :: A).length : Int)) - 1).toNat = A.reverse.length := by simp
        rw [k1, k2]
        have := swap_lemma A.reverse (B ++ l.drop (i + 1)) l[i] y
        simp only [List.reverse_cons, List.append_assoc, List.singleton_append, List.cons_append, List.nil_append] at this ⊢
        exact this
       refine ⟨(A, y :: B), ⟨?_, by simp only [List.length_cons] at q2 ⊢; omega, fun z hz => q3 z (by simp [hz])⟩, by simp only [List.length_cons]; omega, ?_⟩
       · rw [q1]; simp [insR, h3]
       · refine Entails.mk' [(1000001, 1000001), (1000002, 1000002), (1000003, 1000003), (1000004, 1000004)] rfl rfl ⟨lr, lr, lr, lr, lr, SV.le_int (by simp only [List.length_cons]; omega), trivial⟩ ⟨?_, rr, rr, rr, trivial⟩
         show Res.le _ (seqB 3 1 iF 0 (A.reverse ++ [l[i]] ++ (y :: B) ++ l.drop (i + 1)))
         rw [← hsw]
         refine Res.le_buf (by simp) (fun k hk => ?_)
         have e1 := rows_putG (f := iF) (d := 0) (l := ((y :: A).reverse ++ [l[i]] ++ B ++ l.drop (i + 1))) (x := y) (j := ((((y :: A).length : Int)).toNat)) (off := 0) (ds := [.int .i64 (((y :: A).reverse ++ [l[i]] ++ B ++ l.drop (i + 1)).getD ((((y :: A).length : Int) - 1).toNat) 0)]) (get := rowF iF 0 ((y :: A).reverse ++ [l[i]] ++ B ++ l.drop (i + 1))) (fun _ _ => rfl) (fun z _ => by rw [g2]; rfl)
         have e2 := rows_putG (f := iF) (d := 0) (l := ((y :: A).reverse ++ [l[i]] ++ B ++ l.drop (i + 1)).set ((((y :: A).length : Int)).toNat) y) (x := l[i]) (j := ((((y :: A).length : Int) - 1).toNat)) (off := 0) (ds := [.int .i64 (((y :: A).reverse ++ [l[i]] ++ B ++ l.drop (i + 1)).getD ((((y :: A).length : Int)).toNat) 0)])
          (get := fun k => bif Nat.beq k ((((y :: A).length : Int)).toNat) then setAtD (rowF iF 0 ((y :: A).reverse ++ [l[i]] ++ B ++ l.drop (i + 1)) k) 0 [.int .i64 (((y :: A).reverse ++ [l[i]] ++ B ++ l.drop (i + 1)).getD ((((y :: A).length : Int) - 1).toNat) 0)] else rowF iF 0 ((y :: A).reverse ++ [l[i]] ++ B ++ l.drop (i + 1)) k) (fun k hk => e1 k (by simpa using hk)) (fun z _ => by rw [g1]; rfl)
         exact e2 k (by simpa using hk)
     · simp only [decide_eq_false_iff_not] at h3
       conv => whnf
       refine ⟨by unfold inI64; omega, ?_⟩
       conv => whnf
       refine ⟨(i + 1, (y :: A).reverse ++ [l[i]] ++ B ++ l.drop (i + 1)), ⟨by simp only; omega, by simp only; omega, ?_⟩, by simp only; omega, ?_⟩
       · simp only
         rw [take_snoc hi, isortR_snoc, q1]; simp [insR, h3]
       · exact Entails.mk' [(1000001, 1000001), (1000002, 1000002), (1000003, 1000003), (1000004, 1000004)] rfl rfl ⟨lr, lr, lr, lr, lr, trivial⟩ ⟨rr, rr, rr, rr, trivial⟩
   · conv => whnf
     refine ⟨by unfold inI64; omega, ?_⟩
     conv => whnf
     have hA : A = [] := by cases A <;> simp at h2 ⊢
     subst hA
     refine ⟨(i + 1, [].reverse ++ [l[i]] ++ B ++ l.drop (i + 1)), ⟨by simp only; omega, by simp only; omega, ?_⟩, by simp only; omega, ?_⟩
     · simp only
       rw [take_snoc hi, isortR_snoc, q1]; simp [insR]
     · exact Entails.mk' [(1000001, 1000001), (1000002, 1000002), (1000003, 1000003), (1000004, 1000004)] rfl rfl ⟨lr, lr, lr, lr, lr, trivial⟩ ⟨rr, rr, rr, rr, trivial⟩
 · conv => whnf
   have e1 : c = isort cmp l := by
    simp only [decide_eq_false_iff_not] at h
    rw [p3, List.take_of_length_le (by omega), List.drop_eq_nil_iff.2 (by omega), List.append_nil]; rfl
   refine .ret _ ?_
   conv => whnf
   subst e1
   exact ⟨_, ⟨rfl, rfl⟩, rr, rr, rr, rr, trivial⟩
def oTCoE166_1 : List (Nat × List Nat) := [(0, []), (1, [0]), (2, [0, 1]), (3, [0]), (4, [0]), (5, []), (6, [0, 1, 2, 3, 4, 5]), (7, []), (8, [0, 1, 2, 3, 4, 5, 6, 7]), (9, [0, 1, 2, 3, 4, 5, 6, 7, 8]), (10, [0, 1, 2, 3, 4, 5, 6, 7, 8, 9]), (11, [0, 1, 2, 3, 4, 5, 6, 7, 8]), (12, [0, 1, 2, 3, 4, 5, 6, 7, 8]), (13, [0, 1, 2, 3, 4, 5, 6, 7]), (14, [0, 1, 2, 3, 4, 5, 6, 7, 8, 9, 10, 11, 12, 13]), (15, [0, 1, 2, 3, 4, 5, 6, 7]), (16, []), (17, [])]
theorem s207 (g : FuncId) (x1 x2 x3 : DV) (e1 e2 e3 : TypeId) (cmp : Int → Int → Int) (l : List Int) (hl : l.length < 20)
 (hcmp : ∀ p q, p ∈ l → q ∈ l → FSpec Tryz.prog g [.d (.int .i64 p), .d (.int .i64 q), .ptr 1000002 0, .ptr 1000003 0, .ptr 1000004 0] (cap3 (.d x1) (.d x2) (.d x3) e1 e2 e3)
   (fun y r => y = .d (.int .i64 (cmp p q)) ∧ r = cap3 (.d x1) (.d x2) (.d x3) e1 e2 e3)) :
 FSpec Tryz.prog 184 [.buf 1000001, .d (.int .i64 l.length), .fn g [.ptr 1000002 0, .ptr 1000003 0, .ptr 1000004 0]] ((1000001, seqB 3 1 iF 0 l) :: cap3 (.d x1) (.d x2) (.d x3) e1 e2 e3)
  (fun y r => y = .tup [] ∧ r = (1000001, seqB 3 1 iF 0 (isort cmp l)) :: cap3 (.d x1) (.d x2) (.d x3) e1 e2 e3) := by
 refine spec_of hT (C := []) Tryz.func184 rfl Tryz.call184 rfl rfl rfl ?_
 conv => whnf
 refine LoopX.unroll hT (C := []) (fun _ _ h => h) (fun _ h => h) ?_
 conv => whnf
 refine br_intro (fun h => ?_) (fun h => ?_)
 · simp at h; omega
 conv => whnf
 refine CallX.of (s228 g x1 x2 x3 e1 e2 e3 cmp l (by omega) hcmp) [(1000001, 1000001), (1000002, 1000002), (1000003, 1000003), (1000004, 1000004)] rfl ⟨lr, lr, lr, lr, trivial⟩ ⟨rr, rr, rr, rr, trivial⟩ rfl rfl ?_
 rintro x rout ⟨rfl, rfl⟩
 refine ⟨rfl, ?_⟩
 conv => whnf
 refine LoopX.unroll hT (C := []) (fun _ _ h => h) (fun _ h => h) ?_
 conv => whnf
 refine br_intro (fun h => ?_) (fun h => ?_)
 · simp at h; omega
 conv => whnf
 refine .ret _ ?_
 conv => whnf
 exact ⟨_, ⟨rfl, rfl⟩, rr, rr, rr, rr, trivial⟩
theorem s173 (g : FuncId) (x1 x2 x3 : DV) (e1 e2 e3 : TypeId) (cmp : Int → Int → Int) (l : List Int) (hl : l.length < 20)
 (hcmp : ∀ p q, p ∈ l → q ∈ l → FSpec Tryz.prog g [.d (.int .i64 p), .d (.int .i64 q), .ptr 1000002 0, .ptr 1000003 0, .ptr 1000004 0] (cap3 (.d x1) (.d x2) (.d x3) e1 e2 e3)
   (fun y r => y = .d (.int .i64 (cmp p q)) ∧ r = cap3 (.d x1) (.d x2) (.d x3) e1 e2 e3)) :
 FSpec Tryz.prog 129 [.buf 1000001, .fn g [.ptr 1000002 0, .ptr 1000003 0, .ptr 1000004 0]] ((1000001, seqB 3 1 iF 0 l) :: cap3 (.d x1) (.d x2) (.d x3) e1 e2 e3)
  (fun y r => y = .tup [] ∧ r = (1000001, seqB 3 1 iF 0 (isort cmp l)) :: cap3 (.d x1) (.d x2) (.d x3) e1 e2 e3) := by
 refine spec_of hT (C := []) Tryz.func129 rfl Tryz.call129 rfl rfl rfl ?_
 conv => whnf
 refine CallX.of (s207 g x1 x2 x3 e1 e2 e3 cmp l (by omega) hcmp) [(1000001, 1000001), (1000002, 1000002), (1000003, 1000003), (1000004, 1000004)] rfl ⟨lr, lr, lr, trivial⟩ ⟨rr, rr, rr, rr, trivial⟩ rfl rfl ?_
 rintro x rout ⟨rfl, rfl⟩
 refine ⟨rfl, ?_⟩
 conv => whnf
 refine .ret _ ?_
 conv => whnf
 exact ⟨_, ⟨rfl, rfl⟩, rr, rr, rr, rr, trivial⟩
theorem s174 (c s : Int) (w : List Int) (hc : 0 ≤ c ∧ c ≤ 1000000000) (hw : ∀ x ∈ w, 0 ≤ x ∧ x ≤ 5761440) (hs : 0 < s) (hs2 : s ≤ 2^40) (p q : Nat) (hp : p < w.length) (hq : q < w.length) :
 FSpec Tryz.prog 166 [.d (.int .i64 p), .d (.int .i64 q), .ptr 1000002 0, .ptr 1000003 0, .ptr 1000004 0] (cap3 (.d (.int .i64 c)) (.d (ints w)) (.d (.int .i64 s)) 3 22 3)
  (fun y r => y = .d (.int .i64 ((c * w.getD q 0).tmod s - (c * w.getD p 0).tmod s)) ∧ r = cap3 (.d (.int .i64 c)) (.d (ints w)) (.d (.int .i64 s)) 3 22 3) := by
 refine spec_of hT (C := []) Tryz.func166 rfl Tryz.call166 rfl rfl rfl ?_
 conv => whnf
 have bd : ∀ i : Nat, i < w.length → 0 ≤ c * w.getD (i : Int).toNat 0 ∧ c * w.getD (i : Int).toNat 0 ≤ 1000000000 * 5761440 := fun i hi => by
  rw [getD_toNat hi]
  have := hw _ (List.getElem_mem hi)
  exact ⟨Int.mul_nonneg hc.1 this.1, Int.mul_le_mul hc.2 this.2 this.1 (by omega)⟩
 have bp := bd p hp
 have bq := bd q hq
 have tp := Int.tmod_nonneg s bp.1
 have tq := Int.tmod_nonneg s bq.1
 have tp2 := Int.tmod_lt_of_pos (c * w.getD (p : Int).toNat 0) hs
 have tq2 := Int.tmod_lt_of_pos (c * w.getD (q : Int).toNat 0) hs
 refine RegX.rule hT rfl [] oTCoE166_1 (by decide +kernel) ?_
 conv => whnf
 repeat (refine And.intro (by (try unfold inI64); (try dsimp only); (try simp only [List.length_cons, List.length_append, List.length_singleton, List.length_nil]); omega) ?_; conv => whnf)
 refine .ret _ ?_
 conv => whnf
 exact ⟨_, ⟨rfl, rfl⟩, rr, rr, rr, trivial⟩
def oTCoF98_7 : List (Nat × List Nat) := [(0, []), (1, []), (2, []), (3, [0, 1, 2]), (4, [0, 1, 2]), (5, [0, 1, 2]), (6, [3, 4, 5]), (7, [])]
def fillL (g : Nat → Int) (n i : Nat) : List Int := (List.range n).map fun j => if j < i then g j else 0
theorem fillL_length (g : Nat → Int) (n i : Nat) : (fillL g n i).length = n := by simp [fillL]
theorem fillL_get {g : Nat → Int} {n i j : Nat} (h : j < n) : (fillL g n i)[j]'(by rw [fillL_length]; exact h) = if j < i then g j else 0 := by simp [fillL]
theorem fillL_zero {e : Nat} {g : Nat → Int} {n m : Nat} {get : Nat → List DV} (hm : m = n) (hg : ∀ i, get i = iF 0) : Res.le (.buf e 1 m get) (seqB e 1 iF 0 (fillL g n 0)) :=
 Res.le_buf (by rw [fillL_length, hm]) (fun i hi => by rw [rowF_lt (by rw [fillL_length]; omega), hg i, fillL_get (by omega)]; simp)
theorem fillL_set (g : Nat → Int) (n i : Nat) : (fillL g n i).set i (g i) = fillL g n (i + 1) := by
 apply List.ext_getElem
 · simp [fillL]
 · intro j h1 h2
   simp only [fillL, List.getElem_set, List.getElem_map, List.getElem_range]
   by_cases e : i = j
   · subst e; simp
   · by_cases q : j < i
     · have : j < i + 1 := by omega
       simp [e, q, this]
     · have : ¬ j < i + 1 := by omega
       simp [e, q, this]
def leftL (c : Int) (g : Nat → Int) (i : Nat) : Int := c - ((List.range i).map g).sum
theorem leftL_succ (c : Int) (g : Nat → Int) (i : Nat) : leftL c g (i + 1) = leftL c g i - g i := by
 simp [leftL, List.range_succ, List.sum_append]; omega
def partG (c : Int) (w : List Int) (j : Nat) : Int := (c * w.getD j 0).tdiv w.sum
def cmpG (c : Int) (w : List Int) (p q : Int) : Int := (c * w.getD q.toNat 0).tmod w.sum - (c * w.getD p.toNat 0).tmod w.sum
def orderG (c : Int) (w : List Int) : List Int := isort (cmpG c w) (fillL (fun j => (j : Int)) w.length w.length)
def incL (P : List Int) (js : List Int) : List Int := js.foldl (fun P j => P.set j.toNat (P.getD j.toNat 0 + 1)) P
def splitG (c : Int) (w : List Int) : List Int := incL (fillL (partG c w) w.length w.length) ((orderG c w).take (leftL c (partG c w) w.length).toNat)
theorem incL_snoc (P : List Int) (js : List Int) (j : Int) : incL P (js ++ [j]) = (incL P js).set j.toNat ((incL P js).getD j.toNat 0 + 1) := by simp [incL]
theorem sum_nonneg {l : List Int} (h : ∀ x ∈ l, 0 ≤ x) : 0 ≤ l.sum := by
 induction l with
 | nil => simp
 | cons x l ih => rw [List.sum_cons]; have := h x (by simp); have := ih (fun y hy => h y (by simp [hy])); omega
theorem sum_le {l : List Int} {b : Int} (h : ∀ x ∈ l, x ≤ b) : l.sum ≤ b * l.length := by
 induction l with
 | nil => simp
 | cons x l ih => rw [List.sum_cons]; have := h x (by simp); have := ih (fun y hy => h y (by simp [hy])); simp only [List.length_cons]; rw [show b * ((l.length + 1 : Nat) : Int) = b * l.length + b by push_cast; rw [Int.mul_add, Int.mul_one]]; omega
theorem s120 (c : Int) (w : List Int) (hc : 0 ≤ c ∧ c ≤ 1000000000) (hw : ∀ x ∈ w, 0 ≤ x ∧ x ≤ 5761440) (hn : w.length < 20) (hs : w.sum ≠ 0) (hleft : 0 ≤ leftL c (partG c w) w.length ∧ leftL c (partG c w) w.length ≤ w.length) :
 FSpec Tryz.prog 98 [.d (.int .i64 c), .d (ints w)] [] (fun y r => y = .d (ints (splitG c w)) ∧ r = []) := by
 have hs0 : 0 ≤ w.sum := sum_nonneg fun x hx => (hw x hx).1
 have hs1 : w.sum ≤ 5761440 * w.length := sum_le fun x hx => (hw x hx).2
 refine spec_of hT (C := []) Tryz.func98 rfl Tryz.call98 rfl rfl rfl ?_
 conv => whnf
 refine LoopX.rule hT (C := []) (ι := Nat) (fun i => i ≤ w.length) (fun i => mkSt [(2, .ptr 2 0), (3, .ptr 3 0), (5, .ptr 5 0), (15, .d (ints w)), (16, .d (.int .i64 w.length)), (17, .d (.int .i64 i))]
  [(2, .cells 3 [.d (.int .i64 c)]), (3, .cells 22 [.d (ints w)]), (5, .cells 3 [.d (.int .i64 (w.take i).sum)])]) (fun i => w.length - i) 0 (by omega) ?_ ?_
 · exact Entails.mk' [(2, 2), (3, 3), (5, 5)] rfl rfl ⟨lr, lr, lr, lr, lr, lr, trivial⟩ ⟨rr, rr, rr, trivial⟩
 intro i p1
 conv => whnf
 refine br_intro (fun h => ?_) (fun h => ?_)
 · simp only [decide_eq_true_eq] at h
   have hi : i < w.length := by omega
   have b1 := hw _ (List.getElem_mem hi)
   have b2 : 0 ≤ (w.take i).sum := sum_nonneg fun x hx => (hw x (List.mem_of_mem_take hx)).1
   have b3 : (w.take i).sum ≤ 5761440 * (w.take i).length := sum_le fun x hx => (hw x (List.mem_of_mem_take hx)).2
   have b4 : (w.take i).length = i := by simp; omega
   have b5 : w.getD (i : Int).toNat 0 = w[i] := getD_toNat hi
   conv => whnf
   repeat (refine And.intro (by (try unfold inI64); (try dsimp only); (try simp only [List.length_cons, List.length_append, List.length_singleton, List.length_nil]); omega) ?_; conv => whnf)
   refine ⟨i + 1, hi, by omega, ?_⟩
   refine Entails.mk' [(2, 2), (3, 3), (5, 5)] rfl rfl ⟨lr, lr, lr, lr, lr, lr, trivial⟩ ⟨rr, rr, ?_, trivial⟩
   show Res.le (.cells 3 [.d (.int .i64 ((w.take i).sum + w.getD (i : Int).toNat 0))]) (.cells 3 [.d (.int .i64 (w.take (i + 1)).sum)])
   rw [b5, sum_take hi]; exact rr
 simp only [decide_eq_false_iff_not] at h
 have e1 : i = w.length := by omega
 subst e1
 rw [List.take_length]
 conv => whnf
 refine RegX.rule hT rfl [] oTCoF98_7 (by decide +kernel) ?_
 conv => whnf
 refine And.intro ⟨by omega, by omega, by show (8:Int) * w.length ≤ _; omega, by omega⟩ ?_
 conv => whnf
 refine And.intro ⟨by omega, by omega, by show (8:Int) * w.length ≤ _; omega, by omega⟩ ?_
 conv => whnf
 have hg0 : ∀ j, j < w.length → 0 ≤ c * w.getD j 0 ∧ c * w.getD j 0 ≤ 1000000000 * 5761440 := fun j hj => by
  have := hw _ (getD_mem (x := (0 : Int)) hj)
  exact ⟨Int.mul_nonneg hc.1 this.1, Int.mul_le_mul hc.2 this.2 this.1 (by omega)⟩
 have hg1 : ∀ j, j < w.length → 0 ≤ partG c w j ∧ partG c w j ≤ 1000000000 * 5761440 := fun j hj => by
  have := hg0 j hj
  exact ⟨Int.tdiv_nonneg this.1 hs0, Int.le_trans (Int.tdiv_le_self _ this.1) this.2⟩
 have hl1 : ∀ i, i ≤ w.length → c - 1000000000 * 5761440 * i ≤ leftL c (partG c w) i ∧ leftL c (partG c w) i ≤ c := fun i => by
  induction i with
  | zero => intro _; simp [leftL]
  | succ i ih => intro hi; have := ih (by omega); have := hg1 i (by omega); rw [leftL_succ]; omega
 refine LoopX.rule hT (C := []) (ι := Nat) (fun i => i ≤ w.length) (fun i => mkSt [(2, .ptr 2 0), (3, .ptr 3 0), (5, .ptr 5 0), (8, .buf 27), (9, .buf 30), (10, .d (.int .i64 (leftL c (partG c w) i))), (32, .d (ints w)), (33, .d (.int .i64 w.length)), (34, .d (.int .i64 i))]
  [(2, .cells 3 [.d (.int .i64 c)]), (3, .cells 22 [.d (ints w)]), (5, .cells 3 [.d (.int .i64 w.sum)]), (27, seqB 3 1 iF 0 (fillL (partG c w) w.length i)), (30, seqB 3 1 iF 0 (fillL (fun j => (j : Int)) w.length i))]) (fun i => w.length - i) 0 (by omega) ?_ ?_
 · exact Entails.mk' [(2, 2), (3, 3), (5, 5), (27, 27), (30, 30)] rfl rfl ⟨lr, lr, lr, lr, lr, SV.le_int (by simp [leftL]), lr, lr, lr, trivial⟩
    ⟨rr, rr, rr, fillL_zero (by rfl) (fun _ => rfl), fillL_zero (by rfl) (fun _ => rfl), trivial⟩
 clear p1 h
 intro i p1
 conv => whnf
 refine br_intro (fun h => ?_) (fun h => ?_)
 · simp only [decide_eq_true_eq] at h
   have hi : i < w.length := by omega
   have b0 := hg0 i hi
   have b1 := hg1 i hi
   have b2 := hl1 i p1
   have e1 : (i : Int).toNat = i := Int.toNat_natCast i
   have l1 := fillL_length (partG c w) w.length i
   have l2 := fillL_length (fun j => (j : Int)) w.length i
   conv => whnf
   repeat (refine And.intro (by (try unfold inI64); (try dsimp only); (try simp only [e1, l1, l2, List.length_cons, List.length_append, List.length_singleton, List.length_nil]); omega) ?_; conv => whnf)
   refine And.intro (by show inI64 (partG c w i); unfold inI64; omega) ?_
   conv => whnf
   repeat (refine And.intro (by (try unfold inI64); (try dsimp only); (try simp only [e1, l1, l2, List.length_cons, List.length_append, List.length_singleton, List.length_nil]); omega) ?_; conv => whnf)
   simp only [e1, Nat.beq_refl, cond_true]
   conv => whnf
   refine And.intro (by show inI64 (leftL c (partG c w) i - partG c w i); unfold inI64; omega) ?_
   conv => whnf
   refine And.intro (by unfold inI64; omega) ?_
   conv => whnf
   refine ⟨i + 1, hi, by omega, ?_⟩
   have r1 : Res.le (.buf 3 1 (fillL (partG c w) w.length i).length fun j => bif Nat.beq j i then setAtD (rowF iF 0 (fillL (partG c w) w.length i) j) 0 [.int .i64 (partG c w i)] else rowF iF 0 (fillL (partG c w) w.length i) j) (seqB 3 1 iF 0 (fillL (partG c w) w.length (i + 1))) := by
    rw [← fillL_set]; exact Res.le_putF (fun _ _ => rfl)
   have r2 : Res.le (.buf 3 1 (fillL (fun j => (j : Int)) w.length i).length fun j => bif Nat.beq j i then setAtD (rowF iF 0 (fillL (fun j => (j : Int)) w.length i) j) 0 [.int .i64 (i : Int)] else rowF iF 0 (fillL (fun j => (j : Int)) w.length i) j) (seqB 3 1 iF 0 (fillL (fun j => (j : Int)) w.length (i + 1))) := by
    rw [← fillL_set]; exact Res.le_putF (fun _ _ => rfl)
   exact Entails.mk' [(2, 2), (3, 3), (5, 5), (27, 27), (30, 30)] rfl rfl ⟨lr, lr, lr, lr, lr, SV.le_int (leftL_succ c (partG c w) i).symm, lr, lr, lr, trivial⟩
    ⟨rr, rr, rr, r1, r2, trivial⟩
 simp only [decide_eq_false_iff_not] at h
 have e1 : i = w.length := by omega
 subst e1
 conv => whnf
 have hlen : (fillL (fun j => (j : Int)) w.length w.length).length = w.length := fillL_length _ _ _
 have hmemo : ∀ p, p ∈ fillL (fun j => (j : Int)) w.length w.length → ∃ j : Nat, p = j ∧ j < w.length := fun p hp => by
  simp only [fillL, List.mem_map, List.mem_range] at hp
  obtain ⟨j, hj, rfl⟩ := hp
  exact ⟨j, by simp [hj], hj⟩
 refine CallX.of (s173 166 (.int .i64 c) (ints w) (.int .i64 w.sum) 3 22 3 (cmpG c w) (fillL (fun j => (j : Int)) w.length w.length) (by omega) (fun p q hp hq => by
  obtain ⟨j, rfl, hj⟩ := hmemo p hp
  obtain ⟨k, rfl, hk⟩ := hmemo q hq
  exact s174 c w.sum w hc hw (by omega) (by omega) j k hj hk)) [(1000001, 30), (1000002, 2), (1000003, 3), (1000004, 5)] rfl ⟨lr, lr, trivial⟩ ⟨rr, rr, rr, rr, trivial⟩ rfl rfl ?_
 rintro x rout ⟨rfl, rfl⟩
 refine ⟨rfl, ?_⟩
 conv => whnf
 have hol : (orderG c w).length = w.length := by unfold orderG isort; rw [List.length_reverse, isortR_length, fillL_length]
 refine SliceX.freeze _ _ _ _ rfl ?_
 conv => whnf
 refine And.intro ⟨by omega, hleft.1, by show _ ≤ ((orderG c w).length : Int); rw [hol]; exact hleft.2⟩ ?_
 conv => whnf
 obtain ⟨idx, hidx⟩ : ∃ idx, idx = (orderG c w).take (leftL c (partG c w) w.length).toNat := ⟨_, rfl⟩
 have hil : idx.length = (leftL c (partG c w) w.length).toNat := by rw [hidx, List.length_take, hol]; omega
 have him : ∀ p ∈ idx, ∃ j : Nat, p = j ∧ j < w.length := fun p hp => by
  rw [hidx] at hp
  have := List.mem_of_mem_take hp
  unfold orderG isort at this
  rw [List.mem_reverse, isortR_mem] at this
  exact hmemo p this
 refine LoopX.rule hT (C := []) (ι := Nat × List Int) (fun p => p.1 ≤ idx.length ∧ p.2 = incL (fillL (partG c w) w.length w.length) (idx.take p.1) ∧ p.2.length = w.length ∧ (∀ x ∈ p.2, 0 ≤ x ∧ x ≤ 1000000000 * 5761440 + p.1))
  (fun p => mkSt [(8, .buf 27), (63, .d (ints idx)), (64, .d (.int .i64 idx.length)), (65, .d (.int .i64 p.1))] [(27, seqB 3 1 iF 0 p.2)]) (fun p => idx.length - p.1) (0, fillL (partG c w) w.length w.length) ⟨by simp, by simp [incL], fillL_length _ _ _, ?_⟩ ?_ ?_
 · intro x hx
   simp only [fillL, List.mem_map, List.mem_range] at hx
   obtain ⟨j, hj, rfl⟩ := hx
   have := hg1 j hj
   simp [hj]; omega
 · refine Entails.mk' [(27, 27)] rfl rfl ⟨lr, SV.le_ro ?_ (fun i hi => ?_), SV.le_int ?_, lr, trivial⟩ ⟨rr, trivial⟩
   · rw [hil]; omega
   · change rowF iF 0 (orderG c w) (Int.toNat 0 + i) = _
     rw [rowF_lt (show Int.toNat 0 + i < (orderG c w).length by simp only [Int.toNat_zero]; omega), rowF_lt (show i < idx.length by omega)]
     subst hidx
     simp [orderG]
   · rw [hil]; omega
 rintro ⟨i, P⟩ ⟨p1, p2, p3, p4⟩
 simp only at p1 p2 p3 p4
 conv => whnf
 refine br_intro (fun h => ?_) (fun h => ?_)
 · simp only [decide_eq_true_eq] at h
   have hi : i < idx.length := by omega
   obtain ⟨j, hj, hjw⟩ := him _ (List.getElem_mem hi)
   have e0 : (i : Int).toNat = i := Int.toNat_natCast i
   have e1 : idx.getD (i : Int).toNat 0 = j := by rw [getD_toNat hi, hj]
   have e2 : (j : Int).toNat = j := Int.toNat_natCast j
   conv => whnf
   repeat (refine And.intro (by (try unfold inI64); (try dsimp only); (try simp only [e1, e2, List.length_cons, List.length_append, List.length_singleton, List.length_nil]); omega) ?_; conv => whnf)
   have hjP : j < P.length := by omega
   have bP := p4 _ (getD_mem (x := (0 : Int)) hjP)
   refine And.intro (by simp only [e1, e2]; unfold inI64; omega) ?_
   conv => whnf
   repeat (refine And.intro (by (try unfold inI64); (try dsimp only); (try simp only [e1, e2, List.length_cons, List.length_append, List.length_singleton, List.length_nil]); omega) ?_; conv => whnf)
   refine ⟨(i + 1, P.set j (P.getD j 0 + 1)), ⟨hi, ?_, by simp only [List.length_set]; exact p3, ?_⟩, by simp only; omega, ?_⟩
   · simp only
     rw [take_snoc hi, incL_snoc, ← p2, hj, e2]
   · simp only
     intro x hx
     rcases List.mem_or_eq_of_mem_set hx with q | q
     · have := p4 x q; omega
     · subst q; omega
   · have r1 : Res.le (.buf 3 1 P.length fun k => bif Nat.beq k (idx.getD (i : Int).toNat 0).toNat then setAtD (rowF iF 0 P k) 0 [.int .i64 (P.getD (idx.getD (i : Int).toNat 0).toNat 0 + 1)] else rowF iF 0 P k) (seqB 3 1 iF 0 (P.set j (P.getD j 0 + 1))) := by
      rw [e1, e2]; exact Res.le_putF (fun _ _ => rfl)
     exact Entails.mk' [(27, 27)] rfl rfl ⟨lr, lr, lr, lr, trivial⟩ ⟨r1, trivial⟩
 simp only [decide_eq_false_iff_not] at h
 have e1 : i = idx.length := by omega
 subst e1
 conv => whnf
 rw [List.take_length, hidx] at p2
 refine .freeze _ 27 3 1 _ _ rfl ?_
 refine .ret _ ?_
 conv => whnf
 refine ⟨[], ⟨?_, rfl⟩, trivial⟩
 conv => lhs; whnf
 show SV.d (ints P) = SV.d (ints (splitG c w))
 rw [p2]; rfl
theorem left_sum (c : Int) (w : List Int) (hc : 0 ≤ c) (hw : ∀ x ∈ w, 0 ≤ x) (hs : 0 < w.sum) : ∀ i, i ≤ w.length → ∃ R, 0 ≤ R ∧ R ≤ w.sum * i ∧ w.sum * ((List.range i).map (partG c w)).sum + R = c * (w.take i).sum := by
 intro i
 induction i with
 | zero => intro _; exact ⟨0, by omega, by simp, by simp⟩
 | succ i ih =>
   intro hi
   obtain ⟨R, h1, h2, h3⟩ := ih (by omega)
   have hx : w.getD i 0 = w[i] := by rw [List.getD_eq_getElem?_getD]; simp [show i < w.length by omega]
   have h4 := Int.tmod_add_mul_tdiv (c * w[i]) w.sum
   have h5 : 0 ≤ c * w[i] := Int.mul_nonneg hc (hw _ (List.getElem_mem _))
   have h6 := Int.tmod_nonneg w.sum h5
   have h7 := Int.tmod_lt_of_pos (c * w[i]) hs
   refine ⟨R + (c * w[i]).tmod w.sum, by omega, ?_, ?_⟩
   · rw [show ((i + 1 : Nat) : Int) = (i : Int) + 1 by push_cast; rfl, Int.mul_add, Int.mul_one]; omega
   · rw [sum_take (show i < w.length by omega), Int.mul_add, ← h3, List.range_succ, List.map_append, List.sum_append, List.map_singleton, List.sum_singleton, Int.mul_add]
     have : partG c w i = (c * w[i]).tdiv w.sum := by unfold partG; rw [hx]
     rw [this]; omega
theorem left_bound (c : Int) (w : List Int) (hc : 0 ≤ c) (hw : ∀ x ∈ w, 0 ≤ x) (hs : 0 < w.sum) : 0 ≤ leftL c (partG c w) w.length ∧ leftL c (partG c w) w.length ≤ w.length := by
 obtain ⟨R, h1, h2, h3⟩ := left_sum c w hc hw hs w.length (Nat.le_refl _)
 rw [List.take_length] at h3
 have e : w.sum * leftL c (partG c w) w.length = R := by
  unfold leftL
  rw [Int.mul_sub, Int.mul_comm w.sum c]; omega
 constructor
 · refine Int.not_lt.1 fun h => ?_
   have := Int.mul_neg_of_pos_of_neg hs h
   omega
 · exact Int.le_of_mul_le_mul_left (by rw [e]; exact h2) hs
theorem s35 (c : Int) (w : List Int) (hn : w.length < 20) : FSpec Tryz.prog 108 [.d (.int .i64 c), .d (ints w)] []
 (fun y r => y = .tup [.d (if splitF c w = 0 then ints (splitG c w) else .nilsl), .d (.int .i64 (splitF c w))] ∧ r = []) := by
 refine spec_of hT (C := []) Tryz.func108 rfl Tryz.call108 rfl rfl rfl ?_
 conv => whnf
 refine CallX.pure (s119 _ _ _) ⟨lr, lr, lr, trivial⟩ rfl ?_
 conv => whnf
 refine CallX.pure (s107 _ _) ⟨lr, lr, trivial⟩ rfl ?_
 conv => whnf
 refine CallX.pure (s107 _ _) ⟨lr, lr, trivial⟩ rfl ?_
 conv => whnf
 refine CallX.pure (s105 [_, _] (by simp)) ⟨SV.le_lit (by rfl) (by rfl), trivial⟩ rfl ?_
 have hnl : ¬ (50 < w.length) := by omega
 generalize he : firstE _ = e
 have he2 : e = if 0 ≤ c ∧ c ≤ 1000000000 then 0 else 1 := by
  rw [← he]
  simp only [firstE]
  by_cases h : 0 ≤ c ∧ c ≤ 1000000000 <;> simp [h] <;> omega
 conv => whnf
 refine br_intro (fun h => ?_) (fun h => ?_)
 · simp at h
   conv => whnf
   refine .ret _ ?_
   conv => whnf
   refine ⟨[], ⟨?_, rfl⟩, trivial⟩
   show SV.tup [.d .nilsl, .d (.int .i64 e)] = _
   have hc : ¬ (0 ≤ c ∧ c ≤ 1000000000) := fun q => h (by rw [he2, if_pos q])
   rw [if_neg hc] at he2
   have : splitF c w = 1 := by simp only [splitF]; rw [if_pos hc]
   rw [this, he2]; rfl
 simp at h
 have hc : 0 ≤ c ∧ c ≤ 1000000000 := Classical.byContradiction fun q => by rw [if_neg q] at he2; omega
 conv => whnf
 refine LoopX.rule hT (C := []) (ι := Nat) (fun i => i ≤ w.length ∧ (∀ x ∈ w.take i, 0 ≤ x ∧ x ≤ 5761440)) (fun i => mkSt [(0, .d (.int .i64 c)), (1, .d (ints w)), (7, .d (.int .i64 (w.take i).sum)), (23, .d (ints w)), (24, .d (.int .i64 w.length)), (25, .d (.int .i64 i))] []) (fun i => w.length - i) 0 ⟨by omega, by simp⟩ ?_ ?_
 · refine Entails.mk' [] rfl rfl ⟨lr, lr, lr, lr, lr, lr, trivial⟩ trivial
 rintro i ⟨p1, p2⟩
 conv => whnf
 refine br_intro (fun h => ?_) (fun h => ?_)
 · simp only [decide_eq_true_eq] at h
   have hi : i < w.length := by omega
   have b2 : 0 ≤ (w.take i).sum := sum_nonneg fun x hx => (p2 x hx).1
   have b3 : (w.take i).sum ≤ 5761440 * (w.take i).length := sum_le fun x hx => (p2 x hx).2
   have b4 : (w.take i).length = i := by simp; omega
   conv => whnf
   repeat (refine And.intro (by (try unfold inI64); (try dsimp only); (try simp only [List.length_cons, List.length_append, List.length_singleton, List.length_nil]); omega) ?_; conv => whnf)
   refine CallX.pure (s119 _ _ _) ⟨lr, lr, lr, trivial⟩ rfl ?_
   rw [getD_toNat hi]
   conv => whnf
   refine br_intro (fun h2 => ?_) (fun h2 => ?_)
   · conv => whnf
     refine .ret _ ?_
     conv => whnf
     refine ⟨[], ⟨?_, rfl⟩, trivial⟩
     show SV.tup [.d .nilsl, .d (.int .i64 1)] = _
     have : splitF c w = 1 := by
      simp only [splitF]
      rw [if_neg (by omega), if_neg hnl, if_pos]
      rw [List.any_eq_true]
      exact ⟨w[i], List.getElem_mem hi, h2⟩
     rw [this]; rfl
   · simp at h2
     conv => whnf
     repeat (refine And.intro (by (try unfold inI64); (try dsimp only); (try simp only [List.length_cons, List.length_append, List.length_singleton, List.length_nil]); omega) ?_; conv => whnf)
     refine ⟨i + 1, ⟨hi, fun x hx => ?_⟩, by omega, ?_⟩
     · rw [← List.take_append_getElem hi] at hx
       rcases List.mem_append.1 hx with q | q
       · exact p2 x q
       · simp at q; subst q; omega
     · exact Entails.mk' [] rfl rfl ⟨lr, lr, SV.le_int (sum_take hi).symm, lr, lr, lr, trivial⟩ trivial
 simp only [decide_eq_false_iff_not] at h
 have e1 : i = w.length := by omega
 subst e1
 rw [List.take_length] at p2 ⊢
 have hany : w.any (fun x => !decide (0 ≤ x ∧ x ≤ 5761440)) = false := by
  rw [List.any_eq_false]; intro x hx; have := p2 x hx; simp; omega
 conv => whnf
 refine br_intro (fun h2 => ?_) (fun h2 => ?_)
 · conv => whnf
   refine .ret _ ?_
   conv => whnf
   refine ⟨[], ⟨?_, rfl⟩, trivial⟩
   show SV.tup [.d .nilsl, .d (.int .i64 8)] = _
   simp at h2
   have : splitF c w = 8 := by
    simp only [splitF]
    rw [if_neg (by omega), if_neg hnl, hany, if_neg (by simp), if_pos h2]
   rw [this]; rfl
 · simp at h2
   have hs0 : 0 ≤ w.sum := sum_nonneg fun x hx => (p2 x hx).1
   conv => whnf
   refine CallX.pure (s120 c w hc p2 hn h2 (left_bound c w hc.1 (fun x hx => (p2 x hx).1) (by omega))) ⟨lr, lr, trivial⟩ rfl ?_
   conv => whnf
   refine .ret _ ?_
   conv => whnf
   refine ⟨[], ⟨?_, rfl⟩, trivial⟩
   show SV.tup [.d (ints (splitG c w)), .d (.int .i64 0)] = _
   have : splitF c w = 0 := by
    simp only [splitF]
    rw [if_neg (by omega), if_neg hnl, hany, if_neg (by simp), if_neg h2]
   rw [this]; rfl
section
variable {α : Type} (cmp : α → α → Int)
theorem insR_perm (x : α) : ∀ l : List α, (insR cmp x l).Perm (x :: l) := by
 intro l
 induction l with
 | nil => exact .refl _
 | cons y r ih =>
   simp only [insR]
   split
   · exact (ih.cons y).trans (.swap x y r)
   · exact .refl _
theorem isortR_perm (l : List α) : (isortR cmp l).Perm l := by
 have : ∀ (l acc : List α), (l.foldl (fun acc x => insR cmp x acc) acc).Perm (l ++ acc) := by
  intro l
  induction l with
  | nil => intro acc; exact .refl _
  | cons x l ih =>
    intro acc
    rw [List.foldl_cons]
    refine (ih _).trans (((insR_perm cmp x acc).append_left l).trans ?_)
    exact List.perm_middle
 have h := this l []
 rw [List.append_nil] at h
 exact h
theorem isort_perm (l : List α) : (isort cmp l).Perm l := (List.reverse_perm _).trans (isortR_perm cmp l)
variable (R : α → α → Prop) (tr : ∀ a b c, R a b → R b c → R a c)
include tr in
theorem insR_pairwise (x : α) : ∀ l : List α, l.Pairwise (fun a b => R b a) → (∀ y ∈ l, (cmp x y < 0 → R x y) ∧ (¬ cmp x y < 0 → R y x)) → (insR cmp x l).Pairwise (fun a b => R b a) := by
 intro l
 induction l with
 | nil => intro _ _; simp [insR]
 | cons y r ih =>
   intro h hc
   have h' := List.pairwise_cons.1 h
   simp only [insR]
   split
   · rename_i hlt
     rw [List.pairwise_cons]
     refine ⟨fun z hz => ?_, ih h'.2 (fun z hz => hc z (by simp [hz]))⟩
     rcases (insR_mem cmp x z).1 hz with q | q
     · subst q; exact (hc y (by simp)).1 hlt
     · exact h'.1 z q
   · rename_i hlt
     have hyx := (hc y (by simp)).2 hlt
     rw [List.pairwise_cons]
     refine ⟨fun z hz => ?_, h⟩
     rcases List.mem_cons.1 hz with q | q
     · subst q; exact hyx
     · exact tr _ _ _ (h'.1 z q) hyx
include tr in
theorem isort_pairwise : ∀ l : List α, l.Pairwise (fun y x => (cmp x y < 0 → R x y) ∧ (¬ cmp x y < 0 → R y x)) → (isort cmp l).Pairwise R := by
 intro l h
 unfold isort
 rw [List.pairwise_reverse]
 have : ∀ n, n ≤ l.length → (isortR cmp (l.take n)).Pairwise (fun a b => R b a) := by
  intro n
  induction n with
  | zero => intro _; simp [isortR]
  | succ n ih =>
    intro hn
    rw [take_snoc hn, isortR_snoc]
    refine insR_pairwise cmp R tr _ _ (ih (by omega)) (fun y hy => ?_)
    have hy := (isortR_mem cmp _).1 hy
    have hp : (l.take (n + 1)).Pairwise (fun y x => (cmp x y < 0 → R x y) ∧ (¬ cmp x y < 0 → R y x)) := h.sublist (List.take_sublist _ _)
    rw [take_snoc hn, List.pairwise_append] at hp
    exact hp.2.2 y hy _ (by simp)
 have := this l.length (Nat.le_refl _)
 rwa [List.take_length] at this
end
theorem all_step {p : Nat → Prop} {i : Nat} (h : ∀ j, j < i → p j) (h1 : p i) : ∀ j, j < i + 1 → p j := fun j hj => by
 rcases Nat.lt_or_ge j i with q | q
 · exact h j q
 · have : j = i := by omega
   subst this; exact h1
theorem splitF_31 : splitF 3 [1, 1] = 0 := by decide +kernel
theorem splitG_31 : splitG 3 [1, 1] = [2, 1] := by decide +kernel
def oTCoW178_8 : List (Nat × List Nat) := [(0, []), (1, []), (2, []), (3, []), (4, []), (5, [3, 4]), (6, [3, 4, 5]), (7, [3, 4, 5]), (8, [3, 4]), (9, [3, 4]), (10, [3, 4]), (11, []), (12, []), (13, [])]
def oTCoW180_1 : List (Nat × List Nat) := [(0, []), (1, []), (2, [0, 1]), (3, [0, 1]), (5, [0, 1, 2, 3]), (6, [0, 1, 2, 3]), (7, [0, 1, 2, 3, 5, 6]), (8, [0, 1, 2, 3, 5, 6]), (10, [0, 1, 2, 3, 5, 6, 7, 8]), (11, [0, 1, 2, 3, 5, 6, 7, 8]), (12, [0, 1, 2, 3, 5, 6, 7, 8, 10, 11]), (13, [0, 1, 2, 3, 5, 6, 7, 8, 10, 11]), (4, [5, 6, 7, 8, 10, 11, 12, 13]), (9, [10, 11, 12, 13]), (14, []), (15, []), (16, []), (17, [])]
structure Gate where
 key : List UInt8
 area : List UInt8
 clock : Int
def gF : Gate → List DV := fun g => [.str g.key, .str g.area, .int .i64 g.clock]
def g0 : Gate := ⟨[], [], 0⟩
abbrev gates (l : List Gate) : DV := seqD 3 gF g0 l
structure Pas where
 tm : Int
 gate : List UInt8
 plate : List UInt8
 cents : Int
def paF : Pas → List DV := fun p => [.int .i64 p.tm, .str p.gate, .str p.plate, .int .i64 p.cents]
def pa0 : Pas := ⟨0, [], [], 0⟩
abbrev pass (l : List Pas) : DV := seqD 4 paF pa0 l
def tollE (a b c : Int) : Int := if (0 ≤ a ∧ a ≤ 1440) ∧ (-1 ≤ b ∧ b ≤ 1000000) ∧ (0 ≤ c ∧ c ≤ 1000000) then 0 else 1
theorem s66 (a b c : Int) : FSpec Tryz.prog 126 [.agg [.d (.int .i64 a), .d (.int .i64 b), .d (.int .i64 c)]] [] (fun x r => x = .d (.int .i64 (tollE a b c)) ∧ r = []) := by
 refine spec_of hT (C := []) Tryz.func126 rfl Tryz.call126 rfl rfl rfl ?_
 conv => whnf
 repeat' (first | (refine CallX.exact (s119 _ _ _) rfl rfl ?_; rotate_right; conv => whnf) | (refine CallX.exact (s107 _ _) rfl rfl ?_; rotate_right; conv => whnf) | (refine br_intro ?_ ?_ <;> intro hb <;> (try simp only [brs] at hb) <;> conv => whnf) | omega | (refine And.intro ?_ ?_; ((try dsimp only); first | omega | (refine szA rfl ?_; omega) | (refine szB rfl ?_; omega) | (unfold inI64; omega) | exact rfl | (simp only [lns] at *; omega) | decide | (unfold inI64; decide)); conv => whnf) | decide | assumption)
 all_goals
  refine .ret _ ?_
  conv => whnf
  refine ⟨[], ⟨?_, rfl⟩, trivial⟩
  conv => lhs; whnf
  congr 2; simp only [tollE]; grind
def gateE (l : List Gate) (i : Nat) : Int :=
 if isKeyB (l.getD i g0).key = false ∨ isKeyB (l.getD i g0).area = false then 5 else if 0 < i ∧ strLe (l.getD i g0).key (l.getD (i - 1) g0).key = true then 7 else if ¬ (-1440 ≤ (l.getD i g0).clock ∧ (l.getD i g0).clock ≤ 1440) then 1 else 0
def gatesE (l : List Gate) : Int := if 200 < l.length then 2 else firstAt (gateE l) l.length
def gOk (l : List Gate) : Prop := l.length ≤ 2^40 ∧ ∀ g ∈ l, g.key.length ≤ 2^40 ∧ g.area.length ≤ 2^40
theorem s88 (l : List Gate) (hk : gOk l) : FSpec Tryz.prog 178 [.d (gates l)] [] (fun x r => x = .d (.int .i64 (gatesE l)) ∧ r = []) := by
 refine spec_of hT (C := []) Tryz.func178 rfl Tryz.call178 rfl rfl rfl ?_
 conv => whnf
 refine br_intro (fun h0 => ?_) (fun h0 => ?_)
 · simp at h0
   conv => whnf
   refine .ret _ ?_
   conv => whnf
   refine ⟨[], ⟨?_, rfl⟩, trivial⟩
   conv => lhs; whnf
   unfold gatesE; rw [if_pos (by omega)]
 simp at h0
 conv => whnf
 refine LoopX.rule hT (C := []) (ι := Nat) (fun i => i ≤ l.length ∧ ∀ j, j < i → gateE l j = 0) (fun i => mkSt [(0, .d (gates l)), (8, .d (gates l)), (9, .d (.int .i64 l.length)), (10, .d (.int .i64 i))] []) (fun i => l.length - i) 0 ⟨by omega, by omega⟩ (by (refine Entails.mk' [] rfl rfl ?_ ?_ <;> repeat' (first | exact True.intro | exact lr | exact rr | exact SV.le_int (by omega) | exact SV.le_any _ | refine And.intro ?_ ?_)); done) ?_
 rintro i ⟨p1, p2⟩
 have hx : (i : Int) < l.length → (l.getD (i : Int).toNat g0).key.length ≤ 2^40 ∧ (l.getD (i : Int).toNat g0).area.length ≤ 2^40 := fun hi => hk.2 _ (getD_mem (by omega))
 have e1 : (i : Int).toNat = i := Int.toNat_natCast i
 have hbad : ∀ e : Int, i < l.length → e ≠ 0 → gateE l i = e → gatesE l = e := fun e h h1 h2 => by
  unfold gatesE; rw [if_neg (by omega)]
  exact firstAt_eq h p2 h1 h2
 conv => whnf
 repeat' (first | (refine CallX.exact (s108 _ (hx (by omega)).1) rfl rfl ?_; rotate_right; conv => whnf) | (refine CallX.exact (s108 _ (hx (by omega)).2) rfl rfl ?_; rotate_right; conv => whnf) | (refine CallX.exact (s119 _ _ _) rfl rfl ?_; rotate_right; conv => whnf) | (refine br_intro ?_ ?_ <;> intro hb <;> (try simp only [brs] at hb) <;> conv => whnf) | (refine RegX.rule (id := 8) hT rfl [] oTCoW178_8 (by decide +kernel) ?_; conv => whnf) | omega | (refine And.intro ?_ ?_; ((try dsimp only); first | omega | (refine szA rfl ?_; omega) | (refine szB rfl ?_; omega) | (unfold inI64; omega) | exact rfl | (simp only [lns] at *; omega) | decide | (unfold inI64; decide)); conv => whnf) | decide | assumption)
 all_goals first
  | (refine ⟨i + 1, ⟨by omega, first_step p2 (by clear p2 hbad hk hx; simp only [e1, toNat_pred] at *; unfold gateE strLe; grind)⟩, by omega, (by (refine Entails.mk' [] rfl rfl ?_ ?_ <;> repeat' (first | exact True.intro | exact lr | exact rr | exact SV.le_int (by omega) | exact SV.le_any _ | refine And.intro ?_ ?_)); done)⟩)
  | (refine .ret _ ?_
     conv => whnf
     refine ⟨[], ⟨?_, rfl⟩, trivial⟩
     conv => lhs; whnf
     congr 2
     first
      | exact (hbad _ (by omega) (by decide) (by clear p2 hbad hk hx; simp only [e1, toNat_pred] at *; unfold gateE strLe; grind)).symm
      | (have : i = l.length := by omega
         subst this
         unfold gatesE; rw [if_neg (by omega), firstAt_zero p2]))
def plCh (c : UInt8) : Bool := (decide (65 ≤ c.toNat) && decide (c.toNat ≤ 90)) || (decide (48 ≤ c.toNat) && decide (c.toNat ≤ 57))
def isPlateB (s : List UInt8) : Bool := s.all plCh && decide (2 ≤ s.length) && decide (s.length ≤ 10)
theorem s185 (s : List UInt8) (hl : s.length ≤ 2^40) : FSpec Tryz.prog 78 [.d (.str s)] [] (fun x r => x = .d (.bool (isPlateB s)) ∧ r = []) := by
 refine spec_of hT (C := []) Tryz.func78 rfl Tryz.call78 rfl rfl rfl ?_
 conv => whnf
 refine LoopX.rule hT (C := []) (ι := Nat) (fun i => i ≤ s.length ∧ ∀ j, j < i → plCh (s.getD j 0) = true) (fun i => mkSt [(0, .d (.str s)), (6, .d (.int .i64 s.length)), (7, .d (.int .i64 i))] []) (fun i => s.length - i) 0 ⟨by omega, by omega⟩ (by (refine Entails.mk' [] rfl rfl ?_ ?_ <;> repeat' (first | exact True.intro | exact lr | exact rr | exact SV.le_int (by omega) | exact SV.le_any _ | refine And.intro ?_ ?_)); done) ?_
 rintro i ⟨p1, p2⟩
 have e1 : (i : Int).toNat = i := Int.toNat_natCast i
 have hbad : i < s.length → plCh (s.getD i 0) = false → isPlateB s = false := fun hi h => by
  have : s.all plCh = false := by
   rw [List.all_eq_false]; exact ⟨s.getD i 0, getD_mem hi, by rw [h]; simp⟩
  simp only [isPlateB, this, Bool.false_and]
 have hall : i = s.length → s.all plCh = true := fun hi => by
  rw [List.all_eq_true]; intro c hc
  obtain ⟨j, hj, rfl⟩ := mem_getD (d := 0) hc
  exact p2 j (by omega)
 conv => whnf
 repeat' (first | (refine br_intro ?_ ?_ <;> intro hb <;> (try simp only [brs] at hb) <;> conv => whnf) | omega | (refine And.intro ?_ ?_; ((try dsimp only); first | omega | (refine szA rfl ?_; omega) | (refine szB rfl ?_; omega) | (unfold inI64; omega) | exact rfl | (simp only [lns] at *; omega) | decide | (unfold inI64; decide)); conv => whnf) | decide | assumption)
 all_goals first
  | (refine ⟨i + 1, ⟨by omega, all_step p2 (by clear p2 hbad hall; simp only [e1] at *; simp only [plCh]; grind)⟩, by omega, (by (refine Entails.mk' [] rfl rfl ?_ ?_ <;> repeat' (first | exact True.intro | exact lr | exact rr | exact SV.le_int (by omega) | exact SV.le_any _ | refine And.intro ?_ ?_)); done)⟩)
  | (refine .ret _ ?_
     conv => whnf
     refine ⟨[], ⟨?_, rfl⟩, trivial⟩
     conv => lhs; whnf
     congr 2
     first
      | (rw [hbad (by omega) (by clear p2 hbad hall; simp only [e1] at *; simp only [plCh]; grind)])
      | (unfold isPlateB; rw [hall (by omega)]; clear p2 hbad hall; grind))
def cmpI (a b : Int) : Int := if a < b then -1 else if b < a then 1 else 0
def cmpS (a b : List UInt8) : Int := if Op.bytesLess a b = true then -1 else if Op.bytesLess b a = true then 1 else 0
theorem s210 (a : Int) : FSpec Tryz.prog 185 [.d (.int .i64 a)] [] (fun x r => x = .d (.bool false) ∧ r = []) := by
 refine spec_of hT (C := []) Tryz.func185 rfl Tryz.call185 rfl rfl rfl ?_
 conv => whnf
 refine .ret _ ?_
 conv => whnf
 refine ⟨[], ⟨?_, rfl⟩, trivial⟩
 conv => lhs; whnf
 simp
theorem s211 (a : List UInt8) : FSpec Tryz.prog 268 [.d (.str a)] [] (fun x r => x = .d (.bool false) ∧ r = []) := by
 refine spec_of hT (C := []) Tryz.func268 rfl Tryz.call268 rfl rfl rfl ?_
 conv => whnf
 refine .ret _ ?_
 conv => whnf
 refine ⟨[], ⟨?_, rfl⟩, trivial⟩
 conv => lhs; whnf
 simp
theorem s183 (a b : Int) : FSpec Tryz.prog 131 [.d (.int .i64 a), .d (.int .i64 b)] [] (fun x r => x = .d (.int .i64 (cmpI a b)) ∧ r = []) := by
 refine spec_of hT (C := []) Tryz.func131 rfl Tryz.call131 rfl rfl rfl ?_
 conv => whnf
 repeat' (first | (refine CallX.exact (s210 _) rfl rfl ?_; rotate_right; conv => whnf) | (refine br_intro ?_ ?_ <;> intro hb <;> (try simp only [brs] at hb) <;> conv => whnf) | omega | (refine And.intro ?_ ?_; ((try dsimp only); first | omega | (refine szA rfl ?_; omega) | (refine szB rfl ?_; omega) | (unfold inI64; omega) | exact rfl | (simp only [lns] at *; omega) | decide | (unfold inI64; decide)); conv => whnf) | decide | assumption)
 all_goals
  refine .ret _ ?_
  conv => whnf
  refine ⟨[], ⟨?_, rfl⟩, trivial⟩
  conv => lhs; whnf
  congr 2; unfold cmpI; grind
theorem less_tri : ∀ (a b : List UInt8), Op.bytesLess a b = false → a ≠ b → Op.bytesLess b a = true := by
 intro a
 induction a with
 | nil => intro b h hn; cases b with
   | nil => exact absurd rfl hn
   | cons y ys => simp [Op.bytesLess] at h
 | cons x xs ih =>
   intro b h hn
   cases b with
   | nil => simp [Op.bytesLess]
   | cons y ys =>
     simp only [Op.bytesLess] at h ⊢
     grind
theorem s184 (a b : List UInt8) : FSpec Tryz.prog 198 [.d (.str a), .d (.str b)] [] (fun x r => x = .d (.int .i64 (cmpS a b)) ∧ r = []) := by
 refine spec_of hT (C := []) Tryz.func198 rfl Tryz.call198 rfl rfl rfl ?_
 conv => whnf
 repeat' (first | (refine CallX.exact (s211 _) rfl rfl ?_; rotate_right; conv => whnf) | (refine br_intro ?_ ?_ <;> intro hb <;> (try simp only [brs] at hb) <;> conv => whnf) | omega | (refine And.intro ?_ ?_; ((try dsimp only); first | omega | (refine szA rfl ?_; omega) | (refine szB rfl ?_; omega) | (unfold inI64; omega) | exact rfl | (simp only [lns] at *; omega) | decide | (unfold inI64; decide)); conv => whnf) | decide | assumption)
 all_goals
  refine .ret _ ?_
  conv => whnf
  refine ⟨[], ⟨?_, rfl⟩, trivial⟩
  conv => lhs; whnf
  congr 2; unfold cmpS; grind [less_tri]
theorem s182 (l : List Int) (hl : l.length ≤ 2^40) : FSpec Tryz.prog 196 [.d (ints l)] [] (fun x r => x = .d (.int .i64 (firstE l)) ∧ r = []) := by
 refine spec_of hT (C := []) Tryz.func196 rfl Tryz.call196 rfl rfl rfl ?_
 conv => whnf
 refine LoopX.rule hT (C := []) (ι := Nat) (fun i => i ≤ l.length ∧ firstE l = firstE (l.drop i)) (fun i => mkSt [(3, .d (.int .i64 0)), (6, .d (ints l)), (7, .d (.int .i64 l.length)), (8, .d (.int .i64 i))] []) (fun i => l.length - i) 0 ⟨by omega, by simp⟩ (by (refine Entails.mk' [] rfl rfl ?_ ?_ <;> repeat' (first | exact True.intro | exact lr | exact rr | exact SV.le_int (by omega) | exact SV.le_any _ | refine And.intro ?_ ?_)); done) ?_
 rintro i ⟨p1, p2⟩
 have hd : i < l.length → l.drop i = l.getD i 0 :: l.drop (i + 1) := fun hi => by rw [List.drop_eq_getElem_cons hi, List.getD_eq_getElem?_getD, List.getElem?_eq_getElem hi]; rfl
 conv => whnf
 repeat' (first | (refine br_intro ?_ ?_ <;> intro hb <;> (try simp only [brs] at hb) <;> conv => whnf) | omega | (refine And.intro ?_ ?_; ((try dsimp only); first | omega | (refine szA rfl ?_; omega) | (refine szB rfl ?_; omega) | (unfold inI64; omega) | exact rfl | (simp only [lns] at *; omega) | decide | (unfold inI64; decide)); conv => whnf) | decide | assumption)
 · refine .ret _ ?_
   conv => whnf
   refine ⟨[], ⟨?_, rfl⟩, trivial⟩
   conv => lhs; whnf
   congr 2; rw [p2, hd (by omega), firstE, if_neg hb, Int.toNat_natCast]
 · exact ⟨i + 1, ⟨by omega, by rw [p2, hd (by omega), firstE, if_pos hb]⟩, by omega, (by (refine Entails.mk' [] rfl rfl ?_ ?_ <;> repeat' (first | exact True.intro | exact lr | exact rr | exact SV.le_int (by omega) | exact SV.le_any _ | refine And.intro ?_ ?_)); done)⟩
 · refine .ret _ ?_
   conv => whnf
   refine ⟨[], ⟨?_, rfl⟩, trivial⟩
   conv => lhs; whnf
   congr 2; rw [p2, List.drop_eq_nil_iff.2 (by omega)]; rfl
def pasCmp (a b : Pas) : Int := firstE [cmpI a.tm b.tm, cmpS a.gate b.gate, cmpS a.plate b.plate]
theorem s150 (a b : Pas) : FSpec Tryz.prog 180 [.agg ((paF a).map .d), .agg ((paF b).map .d)] [] (fun x r => x = .d (.int .i64 (pasCmp a b)) ∧ r = []) := by
 refine spec_of hT (C := []) Tryz.func180 rfl Tryz.call180 rfl rfl rfl ?_
 conv => whnf
 repeat' (first | (refine CallX.exact (s183 _ _) rfl rfl ?_; rotate_right; conv => whnf) | (refine CallX.exact (s184 _ _) rfl rfl ?_; rotate_right; conv => whnf) | (refine CallX.pure (s182 [_, _, _] (by simp)) ⟨SV.le_lit rfl rfl, trivial⟩ rfl ?_; conv => whnf) | (refine br_intro ?_ ?_ <;> intro hb <;> (try simp only [brs] at hb) <;> conv => whnf) | (refine RegX.rule (id := 1) hT rfl [] oTCoW180_1 (by decide +kernel) ?_; conv => whnf) | omega | (refine And.intro ?_ ?_; ((try dsimp only); first | omega | (refine szA rfl ?_; omega) | (refine szB rfl ?_; omega) | (unfold inI64; omega) | exact rfl | (simp only [lns] at *; omega) | decide | (unfold inI64; decide)); conv => whnf) | decide | assumption)
 all_goals
  refine .ret _ ?_
  conv => whnf
  refine ⟨[], ⟨?_, rfl⟩, trivial⟩
  conv => lhs; whnf
  rfl
def oTCoX117_1 : List (Nat × List Nat) := [(0, []), (1, []), (2, [0, 1]), (3, [0, 1, 2]), (4, [0, 1, 2, 3]), (5, [0, 1, 2, 3]), (6, [0, 1, 2]), (7, [0, 1]), (8, [0, 1]), (9, [0, 1]), (10, []), (11, [])]
def oTCoX122_14 : List (Nat × List Nat) := [(0, []), (1, []), (2, []), (3, []), (4, [3]), (5, [3]), (6, []), (7, []), (8, [3, 4, 5, 6, 7]), (9, []), (10, []), (11, []), (12, [])]
def ixF (p : Nat → Bool) : Nat → Int
 | 0 => -1
 | n + 1 => if ixF p n = -1 then (if p n = true then n else -1) else ixF p n
theorem ixF_none {p : Nat → Bool} : ∀ {n : Nat}, (∀ j, j < n → p j = false) → ixF p n = -1 := by
 intro n
 induction n with
 | zero => intro _; rfl
 | succ n ih => intro h; rw [ixF, if_pos (ih fun j hj => h j (by omega)), h n (by omega)]; rfl
theorem ixF_hit {p : Nat → Bool} {n i : Nat} (hi : i < n) (h : ∀ j, j < i → p j = false) (h1 : p i = true) : ixF p n = i := by
 induction n with
 | zero => omega
 | succ n ih =>
   rw [ixF]
   by_cases q : i < n
   · rw [ih q, if_neg (by omega)]
   · have : i = n := by omega
     subst this
     rw [if_pos (ixF_none h), if_pos h1]
theorem ixF_bd {p : Nat → Bool} : ∀ {n : Nat}, -1 ≤ ixF p n ∧ ixF p n < n ∧ (0 ≤ ixF p n → p (ixF p n).toNat = true) := by
 intro n
 induction n with
 | zero => simp [ixF]
 | succ n ih =>
   rw [ixF]
   split
   · split
     · rename_i h; exact ⟨by omega, by omega, fun _ => by simpa using h⟩
     · exact ⟨by omega, by omega, fun h => by omega⟩
   · exact ⟨ih.1, by omega, ih.2.2⟩
def gateIx (l : List Gate) (key : List UInt8) : Int := ixF (fun i => (l.getD i g0).key == key) l.length
def kcell (key : List UInt8) : Res := .cells 9 [.d (.str key)]
theorem s187 (g : Gate) (key : List UInt8) : FSpec Tryz.prog 186 [.agg ((gF g).map .d), .ptr 1000001 0] [(1000001, kcell key)] (fun x r => x = .d (.bool (g.key == key)) ∧ r = [(1000001, kcell key)]) := by
 refine spec_of hT (C := []) Tryz.func186 rfl Tryz.call186 rfl rfl rfl ?_
 conv => whnf
 refine .ret _ ?_
 conv => whnf
 exact ⟨[(1000001, kcell key)], ⟨rfl, rfl⟩, rr, trivial⟩
theorem s186 (l : List Gate) (hl : l.length ≤ 2^40) (key : List UInt8) : FSpec Tryz.prog 62 [.d (gates l), .fn 186 [.ptr 1000001 0]] [(1000001, kcell key)] (fun x r => x = .d (.int .i64 (gateIx l key)) ∧ r = [(1000001, kcell key)]) := by
 refine spec_of hT (C := []) Tryz.func62 rfl Tryz.call62 rfl rfl rfl ?_
 conv => whnf
 refine LoopX.rule hT (C := []) (ι := Nat) (fun i => i ≤ l.length ∧ ∀ j, j < i → ((l.getD j g0).key == key) = false) (fun i => mkSt [(0, .d (gates l)), (1, .fn 186 [.ptr 1000001 0]), (7, .d (.int .i64 l.length)), (8, .d (.int .i64 i))] [(1000001, kcell key)]) (fun i => l.length - i) 0 ⟨by omega, by omega⟩ (by (refine Entails.mk' [(1000001, 1000001)] rfl rfl ?_ ?_ <;> repeat' (first | exact True.intro | exact lr | exact rr | exact SV.le_int (by omega) | exact SV.le_any _ | refine And.intro ?_ ?_)); done) ?_
 rintro i ⟨p1, p2⟩
 have e1 : (i : Int).toNat = i := Int.toNat_natCast i
 conv => whnf
 repeat' (first | (refine CallX.of (s187 (l.getD (i : Int).toNat g0) key) [(1000001, 1000001)] rfl ⟨lr, lr, trivial⟩ ⟨rr, trivial⟩ rfl rfl ?_; rintro x rout ⟨rfl, rfl⟩; refine ⟨rfl, ?_⟩; conv => whnf) | (refine br_intro ?_ ?_ <;> intro hb <;> (try simp only [brs] at hb) <;> conv => whnf) | omega | (refine And.intro ?_ ?_; ((try dsimp only); first | omega | (refine szA rfl ?_; omega) | (refine szB rfl ?_; omega) | (unfold inI64; omega) | exact rfl | (simp only [lns] at *; omega) | decide | (unfold inI64; decide)); conv => whnf) | decide | assumption)
 · refine .ret _ ?_
   conv => whnf
   refine ⟨[(1000001, kcell key)], ⟨?_, rfl⟩, rr, trivial⟩
   conv => lhs; whnf
   congr 2
   exact (ixF_hit (by omega) p2 (by simpa using hb)).symm
 · exact ⟨i + 1, ⟨by omega, all_step p2 (by simpa using hb)⟩, by omega, (by (refine Entails.mk' [(1000001, 1000001)] rfl rfl ?_ ?_ <;> repeat' (first | exact True.intro | exact lr | exact rr | exact SV.le_int (by omega) | exact SV.le_any _ | refine And.intro ?_ ?_)); done)⟩
 · refine .ret _ ?_
   conv => whnf
   refine ⟨[(1000001, kcell key)], ⟨?_, rfl⟩, rr, trivial⟩
   conv => lhs; whnf
   congr 2
   have : i = l.length := by omega
   subst this
   exact (ixF_none p2).symm
theorem s153 (l : List Gate) (hl : l.length ≤ 2^40) (key : List UInt8) : FSpec Tryz.prog 132 [.d (gates l), .d (.str key)] [] (fun x r => x = .d (.int .i64 (gateIx l key)) ∧ r = []) := by
 refine spec_of hT (C := []) Tryz.func132 rfl Tryz.call132 rfl rfl rfl ?_
 conv => whnf
 refine CallX.of (s186 l hl key) [(1000001, 3)] rfl ⟨lr, lr, trivial⟩ ⟨rr, trivial⟩ rfl rfl ?_
 rintro x rout ⟨rfl, rfl⟩
 refine ⟨rfl, ?_⟩
 conv => whnf
 refine .ret _ ?_
 conv => whnf
 refine ⟨[], ⟨?_, rfl⟩, trivial⟩
 conv => lhs; whnf
theorem s154 (n : Int) : FSpec Tryz.prog 80 [.d (.int .i64 n)] [] (fun x r => x = .d (.bool (decide (0 ≤ n ∧ n ≤ 5761439))) ∧ r = []) := by
 refine spec_of hT (C := []) Tryz.func80 rfl Tryz.call80 rfl rfl rfl ?_
 conv => whnf
 repeat' (first | (refine CallX.exact (s119 _ _ _) rfl rfl ?_; rotate_right; conv => whnf) | (refine br_intro ?_ ?_ <;> intro hb <;> (try simp only [brs] at hb) <;> conv => whnf) | omega | (refine And.intro ?_ ?_; ((try dsimp only); first | omega | (refine szA rfl ?_; omega) | (refine szB rfl ?_; omega) | (unfold inI64; omega) | exact rfl | (simp only [lns] at *; omega) | decide | (unfold inI64; decide)); conv => whnf) | decide | assumption)
 refine .ret _ ?_
 conv => whnf
 refine ⟨[], ⟨?_, rfl⟩, trivial⟩
 conv => lhs; whnf
def trueT (l : List Gate) (p : Pas) : Int := p.tm - (l.getD (gateIx l p.gate).toNat g0).clock
theorem s155 (l : List Gate) (hl : l.length ≤ 2^40) (p : Pas) (hp : -2^40 ≤ p.tm ∧ p.tm ≤ 2^40) (hg : ∀ g ∈ l, -2^40 ≤ g.clock ∧ g.clock ≤ 2^40) (h0 : 0 ≤ gateIx l p.gate) :
 FSpec Tryz.prog 117 [.d (gates l), .agg ((paF p).map .d)] [] (fun x r => x = .d (.int .i64 (trueT l p)) ∧ r = []) := by
 have hb := (ixF_bd (p := fun i => (l.getD i g0).key == p.gate) (n := l.length))
 have hb1 : gateIx l p.gate < l.length := hb.2.1
 have hc := hg (l.getD (gateIx l p.gate).toNat g0) (getD_mem (by omega))
 refine spec_of hT (C := []) Tryz.func117 rfl Tryz.call117 rfl rfl rfl ?_
 conv => whnf
 repeat' (first | (refine CallX.exact (s153 l hl _) rfl rfl ?_; rotate_right; conv => whnf) | (refine br_intro ?_ ?_ <;> intro hb <;> (try simp only [brs] at hb) <;> conv => whnf) | (refine RegX.rule (id := 1) hT rfl [] oTCoX117_1 (by decide +kernel) ?_; conv => whnf) | omega | (refine And.intro ?_ ?_; ((try dsimp only); first | omega | (refine szA rfl ?_; omega) | (refine szB rfl ?_; omega) | (unfold inI64; omega) | exact rfl | (simp only [lns] at *; omega) | decide | (unfold inI64; decide)); conv => whnf) | decide | assumption)
 refine .ret _ ?_
 conv => whnf
 refine ⟨[], ⟨?_, rfl⟩, trivial⟩
 conv => lhs; whnf
 rfl
def pasE (l : List Pas) (i : Nat) : Int :=
 if ¬ (0 ≤ (l.getD i pa0).tm ∧ (l.getD i pa0).tm ≤ 5761439) then 1 else if isKeyB (l.getD i pa0).gate = false then 5 else if isPlateB (l.getD i pa0).plate = false then 3
 else if ¬ (0 ≤ (l.getD i pa0).cents ∧ (l.getD i pa0).cents ≤ 1000000) then 1 else if 0 < i ∧ 0 ≤ pasCmp (l.getD (i - 1) pa0) (l.getD i pa0) then 7 else 0
def formE (l : List Pas) : Int := if 1000 < l.length then 2 else firstAt (pasE l) l.length
def pOk (l : List Pas) : Prop := l.length ≤ 2^40 ∧ ∀ p ∈ l, p.gate.length ≤ 2^40 ∧ p.plate.length ≤ 2^40
theorem s152 (l : List Pas) (hk : pOk l) : FSpec Tryz.prog 122 [.d (pass l)] [] (fun x r => x = .d (.int .i64 (formE l)) ∧ r = []) := by
 refine spec_of hT (C := []) Tryz.func122 rfl Tryz.call122 rfl rfl rfl ?_
 conv => whnf
 refine br_intro (fun h0 => ?_) (fun h0 => ?_)
 · simp at h0
   conv => whnf
   refine .ret _ ?_
   conv => whnf
   refine ⟨[], ⟨?_, rfl⟩, trivial⟩
   conv => lhs; whnf
   unfold formE; rw [if_pos (by omega)]
 simp at h0
 conv => whnf
 refine LoopX.rule hT (C := []) (ι := Nat) (fun i => i ≤ l.length ∧ ∀ j, j < i → pasE l j = 0) (fun i => mkSt [(0, .d (pass l)), (8, .d (pass l)), (9, .d (.int .i64 l.length)), (10, .d (.int .i64 i))] []) (fun i => l.length - i) 0 ⟨by omega, by omega⟩ (by (refine Entails.mk' [] rfl rfl ?_ ?_ <;> repeat' (first | exact True.intro | exact lr | exact rr | exact SV.le_int (by omega) | exact SV.le_any _ | refine And.intro ?_ ?_)); done) ?_
 rintro i ⟨p1, p2⟩
 have hx : (i : Int) < l.length → (l.getD (i : Int).toNat pa0).gate.length ≤ 2^40 ∧ (l.getD (i : Int).toNat pa0).plate.length ≤ 2^40 := fun hi => hk.2 _ (getD_mem (by omega))
 have e1 : (i : Int).toNat = i := Int.toNat_natCast i
 have hbad : ∀ e : Int, i < l.length → e ≠ 0 → pasE l i = e → formE l = e := fun e h h1 h2 => by
  unfold formE; rw [if_neg (by omega)]
  exact firstAt_eq h p2 h1 h2
 conv => whnf
 repeat' (first | (refine CallX.exact (s154 _) rfl rfl ?_; rotate_right; conv => whnf) | (refine CallX.exact (s108 _ (hx (by omega)).1) rfl rfl ?_; rotate_right; conv => whnf) | (refine CallX.exact (s185 _ (hx (by omega)).2) rfl rfl ?_; rotate_right; conv => whnf) | (refine CallX.exact (s119 _ _ _) rfl rfl ?_; rotate_right; conv => whnf) | (refine CallX.exact (s150 (l.getD ((i : Int) - 1).toNat pa0) (l.getD (i : Int).toNat pa0)) rfl rfl ?_; rotate_right; conv => whnf) | (refine br_intro ?_ ?_ <;> intro hb <;> (try simp only [brs] at hb) <;> conv => whnf) | (refine RegX.rule (id := 14) hT rfl [] oTCoX122_14 (by decide +kernel) ?_; conv => whnf) | omega | (refine And.intro ?_ ?_; ((try dsimp only); first | omega | (refine szA rfl ?_; omega) | (refine szB rfl ?_; omega) | (unfold inI64; omega) | exact rfl | (simp only [lns] at *; omega) | decide | (unfold inI64; decide)); conv => whnf) | decide | assumption)
 all_goals first
  | (refine ⟨i + 1, ⟨by omega, first_step p2 (by clear p2 hbad hk hx; simp only [e1, toNat_pred] at *; unfold pasE; grind)⟩, by omega, (by (refine Entails.mk' [] rfl rfl ?_ ?_ <;> repeat' (first | exact True.intro | exact lr | exact rr | exact SV.le_int (by omega) | exact SV.le_any _ | refine And.intro ?_ ?_)); done)⟩)
  | (refine .ret _ ?_
     conv => whnf
     refine ⟨[], ⟨?_, rfl⟩, trivial⟩
     conv => lhs; whnf
     congr 2
     first
      | exact (hbad _ (by omega) (by decide) (by clear p2 hbad hk hx; simp only [e1, toNat_pred] at *; unfold pasE; grind)).symm
      | (have : i = l.length := by omega
         subst this
         unfold formE; rw [if_neg (by omega), firstAt_zero p2]))
def onG (g : List Gate) (l : List Pas) (i : Nat) : Int :=
 if gateIx g (l.getD i pa0).gate < 0 then 8 else if ¬ (0 ≤ trueT g (l.getD i pa0) ∧ trueT g (l.getD i pa0) ≤ 5761439) then 16 else 0
def chkE (g : List Gate) (l : List Pas) : Int := if gatesE g ≠ 0 then gatesE g else if formE l ≠ 0 then formE l else firstAt (onG g l) l.length
theorem gates_zero {l : List Gate} (h : gatesE l = 0) : l.length ≤ 200 ∧ ∀ g ∈ l, -1440 ≤ g.clock ∧ g.clock ≤ 1440 := by
 unfold gatesE at h
 split at h
 · omega
 · refine ⟨by omega, fun x hx => ?_⟩
   obtain ⟨j, hj, rfl⟩ := mem_getD (d := g0) hx
   have := firstAt_all h j hj
   unfold gateE at this
   grind
theorem form_zero {l : List Pas} (h : formE l = 0) : l.length ≤ 1000 ∧ ∀ p ∈ l, 0 ≤ p.tm ∧ p.tm ≤ 5761439 := by
 unfold formE at h
 split at h
 · omega
 · refine ⟨by omega, fun x hx => ?_⟩
   obtain ⟨j, hj, rfl⟩ := mem_getD (d := pa0) hx
   have := firstAt_all h j hj
   unfold pasE at this
   grind
theorem s90 (g : List Gate) (l : List Pas) (hg : gOk g) (hl : pOk l) : FSpec Tryz.prog 115 [.d (gates g), .d (pass l)] [] (fun x r => x = .d (.int .i64 (chkE g l)) ∧ r = []) := by
 have hF : firstE [gatesE g, formE l] = if gatesE g ≠ 0 then gatesE g else formE l := by
  simp only [firstE]; grind
 refine spec_of hT (C := []) Tryz.func115 rfl Tryz.call115 rfl rfl rfl ?_
 conv => whnf
 repeat' (first | (refine CallX.exact (s88 g hg) rfl rfl ?_; rotate_right; conv => whnf) | (refine CallX.exact (s152 l hl) rfl rfl ?_; rotate_right; conv => whnf) | (refine CallX.pure (s105 [_, _] (by simp)) ⟨SV.le_lit (by rfl) (by rfl), trivial⟩ rfl ?_; conv => whnf) | (refine br_intro ?_ ?_ <;> intro hb <;> (try simp only [brs] at hb) <;> conv => whnf) | omega | (refine And.intro ?_ ?_; ((try dsimp only); first | omega | (refine szA rfl ?_; omega) | (refine szB rfl ?_; omega) | (unfold inI64; omega) | exact rfl | (simp only [lns] at *; omega) | decide | (unfold inI64; decide)); conv => whnf) | decide | assumption)
 · refine .ret _ ?_
   conv => whnf
   refine ⟨[], ⟨?_, rfl⟩, trivial⟩
   conv => lhs; whnf
   congr 2; unfold chkE; rw [hF] at hb ⊢; grind
 rw [hF] at hb
 have hb1 : gatesE g = 0 := by grind
 have hb2 : formE l = 0 := by grind
 obtain ⟨n1, n2⟩ := gates_zero hb1
 obtain ⟨n3, n4⟩ := form_zero hb2
 have hE : chkE g l = firstAt (onG g l) l.length := by unfold chkE; rw [if_neg (by omega), if_neg (by omega)]
 rw [hE]
 refine LoopX.rule hT (C := []) (ι := Nat) (fun i => i ≤ l.length ∧ ∀ j, j < i → onG g l j = 0) (fun i => mkSt [(0, .d (gates g)), (17, .d (pass l)), (18, .d (.int .i64 l.length)), (19, .d (.int .i64 i))] []) (fun i => l.length - i) 0 ⟨by omega, by omega⟩ (by (refine Entails.mk' [] rfl rfl ?_ ?_ <;> repeat' (first | exact True.intro | exact lr | exact rr | exact SV.le_int (by omega) | exact SV.le_any _ | refine And.intro ?_ ?_)); done) ?_
 rintro i ⟨p1, p2⟩
 have e1 : (i : Int).toNat = i := Int.toNat_natCast i
 have hp : (i : Int) < l.length → 0 ≤ (l.getD (i : Int).toNat pa0).tm ∧ (l.getD (i : Int).toNat pa0).tm ≤ 5761439 := fun hi => n4 _ (getD_mem (by omega))
 have hbad : ∀ e : Int, i < l.length → e ≠ 0 → onG g l i = e → firstAt (onG g l) l.length = e := fun e h h1 h2 => firstAt_eq h p2 h1 h2
 conv => whnf
 repeat' (first | (refine CallX.exact (s153 g hg.1 _) rfl rfl ?_; rotate_right; conv => whnf) | (refine CallX.exact (s155 g hg.1 (l.getD (i : Int).toNat pa0) ?_ ?_ ?_) rfl rfl ?_; rotate_right; conv => whnf) | (refine CallX.exact (s154 _) rfl rfl ?_; rotate_right; conv => whnf) | (refine br_intro ?_ ?_ <;> intro hb <;> (try simp only [brs] at hb) <;> conv => whnf) | omega | (refine And.intro ?_ ?_; ((try dsimp only); first | omega | (refine szA rfl ?_; omega) | (refine szB rfl ?_; omega) | (unfold inI64; omega) | exact rfl | (simp only [lns] at *; omega) | decide | (unfold inI64; decide)); conv => whnf) | decide | assumption)
 all_goals try (first | omega | (intro q hq; have := n2 q hq; omega) | (rw [Int.toNat_natCast]; omega))
 all_goals first
  | (refine ⟨i + 1, ⟨by omega, first_step p2 (by clear p2 hbad; simp only [e1] at *; unfold onG; grind)⟩, by omega, (by (refine Entails.mk' [] rfl rfl ?_ ?_ <;> repeat' (first | exact True.intro | exact lr | exact rr | exact SV.le_int (by omega) | exact SV.le_any _ | refine And.intro ?_ ?_)); done)⟩)
  | (refine .ret _ ?_
     conv => whnf
     refine ⟨[], ⟨?_, rfl⟩, trivial⟩
     conv => lhs; whnf
     congr 2
     first
      | exact (hbad _ (by omega) (by decide) (by clear p2 hbad; simp only [e1] at *; unfold onG; grind)).symm
      | (have : i = l.length := by omega
         subst this
         rw [firstAt_zero p2]))
abbrev Seen := List UInt8 × List UInt8
def dblOf (D : Int) (m : Seen → Option Int) (p : Pas) : Bool :=
 match m (p.plate, p.gate) with
 | some t => decide (p.tm - t < D)
 | none => false
def dblM (D : Int) (l : List Pas) : Nat → Seen → Option Int
 | 0 => fun _ => none
 | i + 1 => if dblOf D (dblM D l i) (l.getD i pa0) = true then dblM D l i else fun q => if q = ((l.getD i pa0).plate, (l.getD i pa0).gate) then some (l.getD i pa0).tm else dblM D l i q
def dblB (D : Int) (l : List Pas) (i : Nat) : Bool := dblOf D (dblM D l i) (l.getD i pa0)
def fillA {α : Type} (d : α) (f : Nat → α) (n i : Nat) : List α := (List.range n).map fun j => if j < i then f j else d
theorem fillA_length {α : Type} {d : α} {f : Nat → α} {n i : Nat} : (fillA d f n i).length = n := by simp [fillA]
theorem fillA_set {α : Type} {d : α} {f : Nat → α} {n i : Nat} {x : α} (hx : x = f i) : (fillA d f n i).set i x = fillA d f n (i + 1) := by
 subst hx
 refine List.ext_getElem (by simp [fillA]) (fun j h1 h2 => ?_)
 simp only [fillA, List.getElem_set, List.getElem_map, List.getElem_range]
 by_cases h : i = j
 · subst h; simp
 · rw [if_neg h]
   by_cases h3 : j < i
   · rw [if_pos h3, if_pos (by omega)]
   · rw [if_neg h3, if_neg (by omega)]
theorem fillA_set' {α : Type} {d : α} {f : Nat → α} {n i : Nat} {x : α} (hx : x = f i) : (fillA d f n i).set (i : Int).toNat x = fillA d f n (i + 1) := by
 rw [Int.toNat_natCast]; exact fillA_set hx
theorem dblB_eq {D : Int} {l : List Pas} {i : Nat} : dblB D l i = ((dblM D l i ((l.getD i pa0).plate, (l.getD i pa0).gate)).isSome && decide ((l.getD i pa0).tm - (dblM D l i ((l.getD i pa0).plate, (l.getD i pa0).gate)).getD 0 < D)) := by
 unfold dblB dblOf
 cases dblM D l i ((l.getD i pa0).plate, (l.getD i pa0).gate) <;> simp
def bF : Bool → List DV := fun b => [.bool b]
def mHas (m : Seen → Option Int) : List DV → Bool
 | [.str a, .str b] => (m (a, b)).isSome
 | _ => false
def mVal (m : Seen → Option Int) : List DV → List DV
 | [.str a, .str b] => [.int .i64 ((m (a, b)).getD 0)]
 | _ => [.int .i64 0]
theorem wk_ss {key : List DV} (h : wk [.str, .str] key = true) : ∃ a b, key = [.str a, .str b] := by
 cases key with
 | nil => simp [wk] at h
 | cons x xs =>
   cases xs with
   | nil => simp [wk] at h
   | cons y ys =>
     cases ys with
     | cons z zs => simp [wk] at h
     | nil =>
       simp [wk] at h
       cases x <;> simp [wk1] at h
       cases y <;> simp [wk1] at h
       exact ⟨_, _, rfl⟩
abbrev seenR (m : Seen → Option Int) : Res := .map true false [.str, .str] [.int .i64 0] (mHas m) (mVal m)
theorem dblM_bd {D : Int} {l : List Pas} (h : ∀ p ∈ l, 0 ≤ p.tm ∧ p.tm ≤ 5761439) : ∀ i, i ≤ l.length → ∀ q t, dblM D l i q = some t → 0 ≤ t ∧ t ≤ 5761439 := by
 intro i
 induction i with
 | zero => intro _ q t hq; cases hq
 | succ i ih =>
   intro hi q t hq
   rw [dblM] at hq
   split at hq
   · exact ih (by omega) q t hq
   · dsimp only at hq
     split at hq
     · cases hq; exact h _ (getD_mem (by omega))
     · exact ih (by omega) q t hq
def dblIx (D : Int) (l : List Pas) (n : Nat) : List Int := ((List.range n).filter (dblB D l)).map fun (j : Nat) => (j : Int)
theorem dblIx_succ {D : Int} {l : List Pas} {n : Nat} : dblIx D l (n + 1) = dblIx D l n ++ (if dblB D l n = true then [(n : Int)] else []) := by
 unfold dblIx
 rw [List.range_succ, List.filter_append, List.map_append]
 congr 1
 cases h : dblB D l n <;> simp [h]
theorem dblIx_len {D : Int} {l : List Pas} {n : Nat} : (dblIx D l n).length ≤ n := by
 unfold dblIx; rw [List.length_map]; exact Nat.le_trans (List.length_filter_le _ _) (by simp)
def dblsE (D C F : Int) (g : List Gate) (l : List Pas) : Int := firstE [tollE D C F, chkE g l]
theorem chk_zero {g : List Gate} {l : List Pas} (h : chkE g l = 0) : (g.length ≤ 200 ∧ ∀ x ∈ g, -1440 ≤ x.clock ∧ x.clock ≤ 1440) ∧ l.length ≤ 1000 ∧ ∀ p ∈ l, 0 ≤ p.tm ∧ p.tm ≤ 5761439 := by
 unfold chkE at h
 split at h
 · omega
 · split at h
   · omega
   · exact ⟨gates_zero (by omega), form_zero (by omega)⟩
theorem fillA_get {α : Type} {d : α} {f : Nat → α} {n j : Nat} (h : j < n) : (fillA d f n n).getD j d = f j := by
 rw [List.getD_eq_getElem?_getD]; simp [fillA, h]
structure Chg where
 hire : List UInt8
 vehicle : List UInt8
 pas : Int
 cents : Int
structure Lin where
 kind : Int
 key : List UInt8
 cents : Int
deriving DecidableEq
theorem s13 (n : Nat) (L : Nat → Int) (hL : Rok n L) (a : Int) (h0 : 0 ≤ a) (ha : a ≤ 2^38) :
 FSpec Tryz.prog 52 [.ptr 1000000 0] [(1000000, strm n L a)] (fun y r => (∃ D C F : Int, y = .agg [.d (.int .i64 D), .d (.int .i64 C), .d (.int .i64 F)]) ∧ Moved n L a 10 r) := by
 refine spec_of hT (C := []) Tryz.func52 rfl Tryz.call52 rfl rfl rfl ?_
 conv => whnf
 repeat' (first | (refine CallX.of (s33 n L hL _ ?_ ?_ [0, 1, 6, 10, 60] ?_ ?_) [(1000000, 1000000)] rfl ⟨lr, SV.le_lit rfl rfl, trivial⟩ ⟨rr, trivial⟩ rfl rfl ?_; rotate_right; rintro x rout ⟨⟨j1, hj1, rfl⟩, ⟨c, c1, c2, rfl⟩⟩; refine ⟨rfl, ?_⟩; conv => whnf) | (refine CallX.of (s33 n L hL _ ?_ ?_ [-1, 0, 50, 100, 1000] ?_ ?_) [(1000000, 1000000)] rfl ⟨lr, SV.le_lit rfl rfl, trivial⟩ ⟨rr, trivial⟩ rfl rfl ?_; rotate_right; rintro x rout ⟨⟨j2, hj2, rfl⟩, ⟨c, c1, c2, rfl⟩⟩; refine ⟨rfl, ?_⟩; conv => whnf) | (refine CallX.of (s33 n L hL _ ?_ ?_ [0, 9] ?_ ?_) [(1000000, 1000000)] rfl ⟨lr, SV.le_lit rfl rfl, trivial⟩ ⟨rr, trivial⟩ rfl rfl ?_; rotate_right; rintro x rout ⟨⟨j3, hj3, rfl⟩, ⟨c, c1, c2, rfl⟩⟩; refine ⟨rfl, ?_⟩; conv => whnf) | (refine CallX.of (s84 n L hL _ ?_ ?_ _ ?_) [(1000000, 1000000)] rfl ⟨lr, lr, trivial⟩ ⟨rr, trivial⟩ rfl rfl ?_; rotate_right; rintro x rout ⟨⟨f, rfl⟩, ⟨c, c1, c2, rfl⟩⟩; refine ⟨rfl, ?_⟩; conv => whnf) | (refine CallX.of (s104 n L hL _ ?_ ?_ _ _ ?_ ?_ ?_) [(1000000, 1000000)] rfl ⟨lr, lr, lr, trivial⟩ ⟨rr, trivial⟩ rfl rfl ?_; rotate_right; rintro x rout ⟨⟨j, hk1, hk2, rfl⟩, ⟨c, c1, c2, rfl⟩⟩; refine ⟨rfl, ?_⟩; conv => whnf) | (refine br_intro ?_ ?_ <;> intro hb <;> (try simp only [brs] at hb) <;> conv => whnf) | omega | (refine And.intro ?_ ?_; ((try dsimp only); first | omega | (refine szA rfl ?_; omega) | (refine szB rfl ?_; omega) | (unfold inI64; omega) | exact rfl | (simp only [lns] at *; omega) | decide | (unfold inI64; decide)); conv => whnf) | decide | assumption)
 all_goals
  refine .ret _ ?_
  conv => whnf
  exact ⟨[(1000000, strm n L _)], ⟨⟨_, _, _, rfl⟩, _, by omega, by omega, rfl⟩, rr, trivial⟩
theorem mem_len {l : List (List UInt8)} {u : List UInt8} (h : u ∈ l) (q : l.all (fun x => decide (x.length ≤ 8)) = true) : u.length ≤ 8 := by
 have := List.all_eq_true.1 q u h
 exact of_decide_eq_true this
theorem s133 (n : Int) : FSpec Tryz.prog 76 [.d (.int .i64 n)] [] (fun x r => x = .d (.bool (decide (0 ≤ n ∧ n ≤ 5761439))) ∧ r = []) := by
 refine spec_of hT (C := []) Tryz.func76 rfl Tryz.call76 rfl rfl rfl ?_
 conv => whnf
 repeat' (first | (refine CallX.exact (s110 _ _ _) rfl rfl ?_; rotate_right; conv => whnf) | (refine br_intro ?_ ?_ <;> intro hb <;> (try simp only [brs] at hb) <;> conv => whnf) | omega | (refine And.intro ?_ ?_; ((try dsimp only); first | omega | (refine szA rfl ?_; omega) | (refine szB rfl ?_; omega) | (unfold inI64; omega) | exact rfl | (simp only [lns] at *; omega) | decide | (unfold inI64; decide)); conv => whnf) | decide | assumption)
 refine .ret _ ?_
 conv => whnf
 refine ⟨[], ⟨?_, rfl⟩, trivial⟩
 conv => lhs; whnf
def plateL : List UInt8 := [65, 66, 67, 68, 69, 70, 71, 72, 73, 74, 75, 76, 77, 78, 79, 80, 81, 82, 83, 84, 85, 86, 87, 88, 89, 90, 48, 49, 50, 51, 52, 53, 54, 55, 56, 57]
theorem plate_iff (c : UInt8) : plateL.contains c = plCh c := by
 have := u8_all (p := fun c => plateL.contains c == plCh c) (by decide +kernel) c
 simpa using this
theorem plate_eq (s : List UInt8) : isPlateB s = (decide (2 ≤ (s.length : Int) ∧ (s.length : Int) ≤ 10) && onlyB s plateL) := by
 have : s.all plCh = onlyB s plateL := by
  unfold onlyB; congr 1; funext c; exact (plate_iff c).symm
 unfold isPlateB; rw [this]
 cases onlyB s plateL
 · simp
 · rw [Bool.eq_iff_iff]; simp; omega
theorem s176 (n : Int) : FSpec Tryz.prog 173 [.d (.int .i64 n)] [] (fun x r => x = .d (.int .i64 (cmpI n 0)) ∧ r = []) := by
 refine spec_of hT (C := []) Tryz.func173 rfl Tryz.call173 rfl rfl rfl ?_
 conv => whnf
 repeat' (first | (refine br_intro ?_ ?_ <;> intro hb <;> (try simp only [brs] at hb) <;> conv => whnf) | omega | (refine And.intro ?_ ?_; ((try dsimp only); first | omega | (refine szA rfl ?_; omega) | (refine szB rfl ?_; omega) | (unfold inI64; omega) | exact rfl | (simp only [lns] at *; omega) | decide | (unfold inI64; decide)); conv => whnf) | decide | assumption)
 all_goals
  refine .ret _ ?_
  conv => whnf
  refine ⟨[], ⟨?_, rfl⟩, trivial⟩
  conv => lhs; whnf
  congr 2; unfold cmpI; grind
def cmpL : List (List UInt8) → List (List UInt8) → Int
 | [], [] => 0
 | [], _ :: _ => -1
 | _ :: _, [] => 1
 | x :: xs, y :: ys => if cmpS x y ≠ 0 then cmpS x y else cmpL xs ys
theorem s169 (l m : List (List UInt8)) (hl : l.length ≤ 2^40) (hm : m.length ≤ 2^40) : FSpec Tryz.prog 160 [.d (strs l), .d (strs m)] [] (fun x r => x = .d (.int .i64 (cmpL l m)) ∧ r = []) := by
 refine spec_of hT (C := []) Tryz.func160 rfl Tryz.call160 rfl rfl rfl ?_
 conv => whnf
 refine LoopX.rule hT (C := []) (ι := Nat) (fun i => i ≤ l.length ∧ i ≤ m.length ∧ cmpL l m = cmpL (l.drop i) (m.drop i)) (fun i => mkSt [(0, .d (strs l)), (1, .d (strs m)), (9, .d (strs l)), (10, .d (.int .i64 l.length)), (11, .d (.int .i64 i))] []) (fun i => l.length - i) 0 ⟨by omega, by omega, by simp⟩ (by (refine Entails.mk' [] rfl rfl ?_ ?_ <;> repeat' (first | exact True.intro | exact lr | exact rr | exact SV.le_int (by omega) | exact SV.le_any _ | refine And.intro ?_ ?_)); done) ?_
 rintro i ⟨p1, p2, p3⟩
 have hd : i < l.length → l.drop i = l.getD i [] :: l.drop (i + 1) := fun hi => by rw [List.drop_eq_getElem_cons hi, List.getD_eq_getElem?_getD, List.getElem?_eq_getElem hi]; rfl
 have hd2 : i < m.length → m.drop i = m.getD i [] :: m.drop (i + 1) := fun hi => by rw [List.drop_eq_getElem_cons hi, List.getD_eq_getElem?_getD, List.getElem?_eq_getElem hi]; rfl
 have e1 : (i : Int).toNat = i := Int.toNat_natCast i
 conv => whnf
 repeat' (first | (refine CallX.exact (s184 _ _) rfl rfl ?_; rotate_right; conv => whnf) | (refine br_intro ?_ ?_ <;> intro hb <;> (try simp only [brs] at hb) <;> conv => whnf) | omega | (refine And.intro ?_ ?_; ((try dsimp only); first | omega | (refine szA rfl ?_; omega) | (refine szB rfl ?_; omega) | (unfold inI64; omega) | exact rfl | (simp only [lns] at *; omega) | decide | (unfold inI64; decide)); conv => whnf) | decide | assumption)
 · refine .ret _ ?_
   conv => whnf
   refine ⟨[], ⟨?_, rfl⟩, trivial⟩
   conv => lhs; whnf
   congr 2
   rw [p3, hd (by omega), List.drop_eq_nil_iff.2 (by omega : m.length ≤ i)]; rfl
 · refine .ret _ ?_
   conv => whnf
   refine ⟨[], ⟨?_, rfl⟩, trivial⟩
   conv => lhs; whnf
   congr 2
   rw [p3, hd (by omega), hd2 (by omega), cmpL, if_pos (by simpa using hb)]; simp only [e1]
 · refine ⟨i + 1, ⟨by omega, by omega, ?_⟩, by omega, (by (refine Entails.mk' [] rfl rfl ?_ ?_ <;> repeat' (first | exact True.intro | exact lr | exact rr | exact SV.le_int (by omega) | exact SV.le_any _ | refine And.intro ?_ ?_)); done)⟩
   rw [p3, hd (by omega), hd2 (by omega), cmpL, if_neg (by simpa using hb)]
 · refine .ret _ ?_
   conv => whnf
   refine ⟨[], ⟨?_, rfl⟩, trivial⟩
   conv => lhs; whnf
   congr 2
   have hm : i < m.length := by omega
   rw [p3, hd2 hm, List.drop_eq_nil_iff.2 (by omega : l.length ≤ i)]; rfl
 · refine .ret _ ?_
   conv => whnf
   refine ⟨[], ⟨?_, rfl⟩, trivial⟩
   conv => lhs; whnf
   congr 2
   rw [p3, List.drop_eq_nil_iff.2 (by omega : m.length ≤ i), List.drop_eq_nil_iff.2 (by omega : l.length ≤ i)]; rfl
theorem order_eq (a b : Pas) : pasCmp a b = if a.tm ≠ b.tm then cmpI (a.tm - b.tm) 0 else cmpL [a.gate, a.plate] [b.gate, b.plate] := by
 unfold pasCmp cmpI
 simp only [firstE, cmpL]
 grind
theorem s127 (a b : Pas) (ha : -2^40 ≤ a.tm ∧ a.tm ≤ 2^40) (hb : -2^40 ≤ b.tm ∧ b.tm ≤ 2^40) : FSpec Tryz.prog 110 [.agg ((paF a).map .d), .agg ((paF b).map .d)] [] (fun x r => x = .d (.int .i64 (pasCmp a b)) ∧ r = []) := by
 refine spec_of hT (C := []) Tryz.func110 rfl Tryz.call110 rfl rfl rfl ?_
 conv => whnf
 repeat' (first | (refine CallX.exact (s176 _) rfl rfl ?_; rotate_right; conv => whnf) | (refine CallX.pure (s169 [_, _] [_, _] (by simp) (by simp)) ⟨SV.le_lit (by rfl) (by rfl), SV.le_lit (by rfl) (by rfl), trivial⟩ rfl ?_; conv => whnf) | (refine br_intro ?_ ?_ <;> intro hb <;> (try simp only [brs] at hb) <;> conv => whnf) | omega | (refine And.intro ?_ ?_; ((try dsimp only); first | omega | (refine szA rfl ?_; omega) | (refine szB rfl ?_; omega) | (unfold inI64; omega) | exact rfl | (simp only [lns] at *; omega) | decide | (unfold inI64; decide)); conv => whnf) | decide | assumption)
 all_goals
  refine .ret _ ?_
  conv => whnf
  refine ⟨[], ⟨?_, rfl⟩, trivial⟩
  conv => lhs; whnf
  congr 2
  rw [order_eq]; grind
theorem isKey_nil : isKeyB [] = false := by decide
theorem less_nil (a : List UInt8) : Op.bytesLess a [] = false := by cases a <;> rfl
def gateP (l : List Gate) (p : Pas) : Gate := if gateIx l p.gate < 0 then g0 else l.getD (gateIx l p.gate).toNat g0
def oTCpE239_4 : List (Nat × List Nat) := [(0, []), (1, [0]), (2, []), (3, []), (4, []), (5, [4]), (6, [4, 5]), (7, [4]), (8, [4]), (9, [4, 5, 6, 7, 8]), (10, [4, 5, 6, 7, 8, 9]), (11, [4, 5, 6, 7, 8, 9]), (12, [4, 5, 6, 7, 8]), (13, [4, 5, 6, 7, 8]), (14, []), (15, []), (16, [])]
def oTCpE239_6 : List (Nat × List Nat) := [(0, []), (1, [0]), (2, [0, 1]), (3, [0, 1, 2]), (4, [0, 1, 2]), (5, [0, 1, 2, 3, 4]), (6, [0, 1, 2, 3, 4, 5]), (7, [0, 1, 2, 3, 4, 5]), (8, [0, 1, 2, 3, 4]), (9, [0, 1, 2, 3, 4]), (10, [0, 1, 2, 3, 4, 5, 6, 7, 8, 9]), (11, [0, 1, 2, 3, 4, 5, 6, 7, 8, 9, 10]), (12, [0, 1, 2, 3, 4, 5, 6, 7, 8, 9]), (13, [0, 1, 2, 3, 4, 5, 6, 7, 8, 9]), (14, [2, 3, 4]), (15, [2, 3, 4]), (16, []), (17, [])]
def oTCpE111_6 : List (Nat × List Nat) := [(0, []), (1, [0]), (2, [0, 1]), (3, [0]), (4, [0]), (5, [0, 1, 2, 3, 4]), (6, [0, 1, 2, 3, 4, 5]), (7, [0, 1, 2, 3, 4, 5]), (8, [0, 1, 2, 3, 4]), (9, [0, 1, 2, 3, 4]), (10, [])]
def oTCpE111_11 : List (Nat × List Nat) := [(0, []), (1, [0]), (2, [0, 1]), (3, [0]), (4, [0]), (5, [0, 1, 2, 3, 4]), (6, [0, 1, 2, 3, 4, 5]), (7, [0, 1, 2, 3, 4, 5]), (8, [0, 1, 2, 3, 4]), (9, [0, 1, 2, 3, 4]), (10, []), (11, [])]
theorem Res.le_put2 {α : Type} {f : α → List DV} {d : α} {l : List α} {x y : α} {e k j1 j2 : Nat} {ds1 ds2 : List DV} (h1 : ∀ z, setAtD (f z) 0 ds1 = f x) (h2 : ∀ z, setAtD (f z) 0 ds2 = f y) :
 Res.le (.buf e k l.length fun i => bif Nat.beq i j2 then setAtD (bif Nat.beq i j1 then setAtD (rowF f d l i) 0 ds1 else rowF f d l i) 0 ds2 else bif Nat.beq i j1 then setAtD (rowF f d l i) 0 ds1 else rowF f d l i) (seqB e k f d ((l.set j1 x).set j2 y)) := by
 refine Res.le_buf (by simp) (fun k hk => ?_)
 have e1 := rows_putG (f := f) (d := d) (l := l) (x := x) (j := j1) (off := 0) (ds := ds1) (get := rowF f d l) (fun _ _ => rfl) (fun z _ => h1 z)
 have e2 := rows_putG (f := f) (d := d) (l := l.set j1 x) (x := y) (j := j2) (off := 0) (ds := ds2) (get := fun i => bif Nat.beq i j1 then setAtD (rowF f d l i) 0 ds1 else rowF f d l i) (fun k hk => e1 k (by simpa using hk)) (fun z _ => h2 z)
 exact e2 k (by simpa using hk)
def gSh (l : List Gate) : Prop := l.length = 3 ∧ ∀ g ∈ l, g.key.length ≤ 8 ∧ g.area.length ≤ 8
def gLit (u1 u2 : Int) : List Gate := [⟨[103, 49], [99, 105, 116, 121], u1⟩, ⟨[103, 50], [99, 105, 116, 121], 0⟩, ⟨[103, 51], [114, 105, 110, 103], u2⟩]
theorem gLit_sh (u1 u2 : Int) : gSh (gLit u1 u2) := ⟨rfl, by intro g hg; simp [gLit] at hg; rcases hg with rfl | rfl | rfl <;> simp⟩
theorem gSh_set {l : List Gate} {j : Nat} {x : Gate} (h : gSh l) (h1 : x.key.length ≤ 8) (h2 : x.area.length ≤ 8) : gSh (l.set j x) :=
 ⟨by rw [List.length_set]; exact h.1, fun y hy => by rcases List.mem_or_eq_of_mem_set hy with q | q; exact h.2 y q; subst q; exact ⟨h1, h2⟩⟩
theorem gLit_rows (u1 u2 : Int) : ∀ i, i < (gLit u1 u2).length → [[DV.str [103, 49], .str [99, 105, 116, 121], .int .i64 u1], [.str [103, 50], .str [99, 105, 116, 121], .int .i64 0], [.str [103, 51], .str [114, 105, 110, 103], .int .i64 u2]].getD i [] = rowF gF g0 (gLit u1 u2) i := rows_lit rfl
theorem s62 (n : Nat) (L : Nat → Int) (hL : Rok n L) (a : Int) (h0 : 0 ≤ a) (ha : a ≤ 2^38) :
 FSpec Tryz.prog 39 [.ptr 1000000 0] [(1000000, strm n L a)] (fun y r => (∃ l, gSh l ∧ y = .d (gates l)) ∧ Moved n L a 20 r) := by
 refine spec_of hT (C := [13]) Tryz.func39 rfl Tryz.call39 rfl rfl rfl ?_
 conv => whnf
 repeat' (first | (refine CallX.of (s33 n L hL _ ?_ ?_ [0, 5, -5] ?_ ?_) [(1000000, 1000000)] rfl ⟨lr, SV.le_lit rfl rfl, trivial⟩ ⟨rr, trivial⟩ rfl rfl ?_; rotate_right; rintro x rout ⟨⟨u1, hu1, rfl⟩, ⟨c, c1, c2, rfl⟩⟩; refine ⟨rfl, ?_⟩; conv => whnf) | (refine CallX.of (s33 n L hL _ ?_ ?_ [0, 60, -1440] ?_ ?_) [(1000000, 1000000)] rfl ⟨lr, SV.le_lit rfl rfl, trivial⟩ ⟨rr, trivial⟩ rfl rfl ?_; rotate_right; rintro x rout ⟨⟨u2, hu2, rfl⟩, ⟨c, c1, c2, rfl⟩⟩; refine ⟨rfl, ?_⟩; conv => whnf) | (refine CallX.of (s84 n L hL _ ?_ ?_ _ ?_) [(1000000, 1000000)] rfl ⟨lr, lr, trivial⟩ ⟨rr, trivial⟩ rfl rfl ?_; rotate_right; rintro x rout ⟨⟨f, rfl⟩, ⟨c, c1, c2, rfl⟩⟩; refine ⟨rfl, ?_⟩; conv => whnf) | (refine CallX.of (s86 n L hL _ ?_ ?_ _ ?_) [(1000000, 1000000)] rfl ⟨lr, lr, trivial⟩ ⟨rr, trivial⟩ rfl rfl ?_; rotate_right; rintro x rout ⟨⟨j, hj1, hj2, hj3, rfl⟩, ⟨c, c1, c2, rfl⟩⟩; refine ⟨rfl, ?_⟩; conv => whnf) | (refine CallX.of (s15 n L hL _ ?_ ?_ [[103, 49], [], [103, 50]] ?_ ?_) [(1000000, 1000000)] rfl ⟨lr, SV.le_lit rfl rfl, trivial⟩ ⟨rr, trivial⟩ rfl rfl ?_; rotate_right; rintro x rout ⟨⟨u3, hu3, rfl⟩, ⟨c, c1, c2, rfl⟩⟩; refine ⟨rfl, ?_⟩; conv => whnf) | (refine CallX.of (s15 n L hL _ ?_ ?_ [[99, 105, 116, 121], []] ?_ ?_) [(1000000, 1000000)] rfl ⟨lr, SV.le_lit rfl rfl, trivial⟩ ⟨rr, trivial⟩ rfl rfl ?_; rotate_right; rintro x rout ⟨⟨u4, hu4, rfl⟩, ⟨c, c1, c2, rfl⟩⟩; refine ⟨rfl, ?_⟩; conv => whnf) | (refine CallX.of (s104 n L hL _ ?_ ?_ _ _ ?_ ?_ ?_) [(1000000, 1000000)] rfl ⟨lr, lr, lr, trivial⟩ ⟨rr, trivial⟩ rfl rfl ?_; rotate_right; rintro x rout ⟨⟨u5, hk1, hk2, rfl⟩, ⟨c, c1, c2, rfl⟩⟩; refine ⟨rfl, ?_⟩; conv => whnf) | (refine br_intro ?_ ?_ <;> intro hb <;> (try simp only [brs] at hb) <;> conv => whnf) | omega | (refine And.intro ?_ ?_; ((try dsimp only); first | omega | (refine szA rfl ?_; omega) | (refine szB rfl ?_; omega) | (unfold inI64; omega) | exact rfl | (simp only [lns] at *; omega) | decide | (unfold inI64; decide)); conv => whnf) | decide | assumption)
 · refine .freeze _ 13 113 3 _ _ rfl (.weak _ ?_)
   (conv => whnf)
   refine ⟨_, [(1000000, strm n L _)], SV.le_ro (by rw [List.length_set]; rfl) (rows_putG (f := gF) (d := g0) (l := gLit u1 u2) (x := ⟨u3, u4, u5⟩) (gLit_rows u1 u2) (fun _ _ => rfl)), ⟨⟨_, gSh_set (gLit_sh u1 u2) (mem_len hu3 rfl) (mem_len hu4 rfl), rfl⟩, _, by omega, by omega, rfl⟩, rr, trivial⟩
 · refine .freeze _ 13 113 3 _ _ rfl (.weak _ ?_)
   (conv => whnf)
   exact ⟨_, [(1000000, strm n L _)], SV.le_ro (rfl : (gLit u1 u2).length = _) (gLit_rows u1 u2), ⟨⟨gLit u1 u2, gLit_sh u1 u2, rfl⟩, _, by omega, by omega, rfl⟩, rr, trivial⟩
def sameP (l c : List Pas) : Prop := c.length = l.length ∧ ∀ x ∈ c, x ∈ l
theorem sameP_set {l c : List Pas} {j : Nat} {x : Pas} (h : sameP l c) (hx : x ∈ l) : sameP l (c.set j x) :=
 ⟨by rw [List.length_set]; exact h.1, fun y hy => by rcases List.mem_or_eq_of_mem_set hy with q | q; exact h.2 y q; subst q; exact hx⟩
theorem s208 (g : FuncId) (cmp : Pas → Pas → Int) (l : List Pas) (hl : l.length ≤ 2^40)
 (hcmp : ∀ p q, p ∈ l → q ∈ l → FSpec Tryz.prog g [.agg ((paF p).map .d), .agg ((paF q).map .d)] [] (fun y r => y = .d (.int .i64 (cmp p q)) ∧ r = [])) :
 FSpec Tryz.prog 239 [.buf 1000001, .d (.int .i64 0), .d (.int .i64 l.length), .fn g []] [(1000001, seqB 106 4 paF pa0 l)]
  (fun y r => y = .tup [] ∧ ∃ c, sameP l c ∧ r = [(1000001, seqB 106 4 paF pa0 c)]) := by
 refine spec_of hT (C := []) Tryz.func239 rfl Tryz.call239 rfl rfl rfl ?_
 conv => whnf
 repeat' (first | (refine br_intro ?_ ?_ <;> intro hb <;> (try simp only [brs] at hb) <;> conv => whnf) | (refine RegX.rule (id := 4) hT rfl [] oTCpE239_4 (by decide +kernel) ?_; conv => whnf) | (refine RegX.rule (id := 6) hT rfl [] oTCpE239_6 (by decide +kernel) ?_; conv => whnf) | omega | (refine And.intro ?_ ?_; ((try dsimp only); first | omega | (refine szA rfl ?_; omega) | (refine szB rfl ?_; omega) | (unfold inI64; omega) | exact rfl | (simp only [lns] at *; omega) | decide | (unfold inI64; decide)); conv => whnf) | decide | assumption)
 refine LoopX.rule hT (C := []) (ι := Nat × List Pas) (fun (i, c) => 1 ≤ i ∧ (i ≤ l.length ∨ i = 1) ∧ sameP l c)
  (fun (i, c) => mkSt [(0, .buf 1000001), (1, .d (.int .i64 0)), (2, .d (.int .i64 l.length)), (3, .fn g []), (8, .d (.int .i64 i))] [(1000001, seqB 106 4 paF pa0 c)])
  (fun (i, _) => l.length - i) (1, l) ⟨by simp, by simp, rfl, fun x h => h⟩ (by (refine Entails.mk' [(1000001, 1000001)] rfl rfl ?_ ?_ <;> repeat' (first | exact True.intro | exact lr | exact rr | exact SV.le_int (by omega) | exact SV.le_any _ | refine And.intro ?_ ?_)); done) ?_
 rintro ⟨i, c⟩ ⟨p1, p2, p3⟩
 have hc0 := p3.1
 conv => whnf
 repeat' (first | (refine br_intro ?_ ?_ <;> intro hb <;> (try simp only [brs] at hb) <;> conv => whnf) | (refine RegX.rule (id := 4) hT rfl [] oTCpE239_4 (by decide +kernel) ?_; conv => whnf) | (refine RegX.rule (id := 6) hT rfl [] oTCpE239_6 (by decide +kernel) ?_; conv => whnf) | omega | (refine And.intro ?_ ?_; ((try dsimp only); first | omega | (refine szA rfl ?_; omega) | (refine szB rfl ?_; omega) | (unfold inI64; omega) | exact rfl | (simp only [lns] at *; omega) | decide | (unfold inI64; decide)); conv => whnf) | decide | assumption)
 · refine LoopX.rule hT (C := []) (ι := Nat × List Pas) (fun (j, c) => j ≤ i ∧ sameP l c)
    (fun (j, c) => mkSt [(0, .buf 1000001), (1, .d (.int .i64 0)), (2, .d (.int .i64 l.length)), (3, .fn g []), (8, .d (.int .i64 i)), (9, .d (.int .i64 j))] [(1000001, seqB 106 4 paF pa0 c)])
    (fun (j, _) => j) (i, c) ⟨Nat.le_refl _, p3⟩ (by (refine Entails.mk' [(1000001, 1000001)] rfl rfl ?_ ?_ <;> repeat' (first | exact True.intro | exact lr | exact rr | exact SV.le_int (by omega) | exact SV.le_any _ | refine And.intro ?_ ?_)); done) ?_
   rintro ⟨j, b⟩ ⟨q1, q3⟩
   have hb0 := q3.1
   conv => whnf
   repeat' (first | (refine br_intro ?_ ?_ <;> intro hb <;> (try simp only [brs] at hb) <;> conv => whnf) | (refine RegX.rule (id := 4) hT rfl [] oTCpE239_4 (by decide +kernel) ?_; conv => whnf) | (refine RegX.rule (id := 6) hT rfl [] oTCpE239_6 (by decide +kernel) ?_; conv => whnf) | omega | (refine And.intro ?_ ?_; ((try dsimp only); first | omega | (refine szA rfl ?_; omega) | (refine szB rfl ?_; omega) | (unfold inI64; omega) | exact rfl | (simp only [lns] at *; omega) | decide | (unfold inI64; decide)); conv => whnf) | decide | assumption)
   · refine CallX.of (hcmp (b.getD (j : Int).toNat pa0) (b.getD ((j : Int) - 1).toNat pa0) (q3.2 _ (getD_mem (by omega))) (q3.2 _ (getD_mem (by omega)))) [] rfl ⟨lr, lr, trivial⟩ trivial rfl rfl ?_
     rintro x rout ⟨rfl, rfl⟩
     refine ⟨rfl, ?_⟩
     conv => whnf
     repeat' (first | (refine br_intro ?_ ?_ <;> intro hb <;> (try simp only [brs] at hb) <;> conv => whnf) | (refine RegX.rule (id := 4) hT rfl [] oTCpE239_4 (by decide +kernel) ?_; conv => whnf) | (refine RegX.rule (id := 6) hT rfl [] oTCpE239_6 (by decide +kernel) ?_; conv => whnf) | omega | (refine And.intro ?_ ?_; ((try dsimp only); first | omega | (refine szA rfl ?_; omega) | (refine szB rfl ?_; omega) | (unfold inI64; omega) | exact rfl | (simp only [lns] at *; omega) | decide | (unfold inI64; decide)); conv => whnf) | decide | assumption)
     · refine ⟨(j - 1, _), ⟨by omega, sameP_set (sameP_set q3 (q3.2 _ (getD_mem (i := ((j : Int) - 1).toNat) (x := pa0) (by omega)))) (q3.2 _ (getD_mem (i := (j : Int).toNat) (x := pa0) (by omega)))⟩, by show j - 1 < j; omega, Entails.mk' [(1000001, 1000001)] rfl rfl ⟨lr, lr, lr, lr, lr, SV.le_int (by omega), trivial⟩ ⟨Res.le_put2 (fun _ => rfl) (fun _ => rfl), trivial⟩⟩
     · exact ⟨(i + 1, b), ⟨by omega, by omega, q3⟩, by show l.length - (i + 1) < l.length - i; omega, (by (refine Entails.mk' [(1000001, 1000001)] rfl rfl ?_ ?_ <;> repeat' (first | exact True.intro | exact lr | exact rr | exact SV.le_int (by omega) | exact SV.le_any _ | refine And.intro ?_ ?_)); done)⟩
   · exact ⟨(i + 1, b), ⟨by omega, by omega, q3⟩, by show l.length - (i + 1) < l.length - i; omega, (by (refine Entails.mk' [(1000001, 1000001)] rfl rfl ?_ ?_ <;> repeat' (first | exact True.intro | exact lr | exact rr | exact SV.le_int (by omega) | exact SV.le_any _ | refine And.intro ?_ ?_)); done)⟩
 · refine .ret _ ?_
   conv => whnf
   exact ⟨_, ⟨rfl, c, p3, rfl⟩, rr, trivial⟩
theorem s175 (g : FuncId) (cmp : Pas → Pas → Int) (l : List Pas) (hl : l.length < 20)
 (hcmp : ∀ p q, p ∈ l → q ∈ l → FSpec Tryz.prog g [.agg ((paF p).map .d), .agg ((paF q).map .d)] [] (fun y r => y = .d (.int .i64 (cmp p q)) ∧ r = [])) :
 FSpec Tryz.prog 172 [.buf 1000001, .d (.int .i64 l.length), .fn g []] [(1000001, seqB 106 4 paF pa0 l)]
  (fun y r => y = .tup [] ∧ ∃ c, sameP l c ∧ r = [(1000001, seqB 106 4 paF pa0 c)]) := by
 refine spec_of hT (C := []) Tryz.func172 rfl Tryz.call172 rfl rfl rfl ?_
 conv => whnf
 refine LoopX.rule hT (C := []) (ι := Unit) (fun _ => True) (fun _ => mkSt [(0, .buf 1000001), (1, .d (.int .i64 l.length)), (2, .fn g []), (6, .d (.int .i64 20)), (7, .d (.int .i64 0)), (8, .d (.int .i64 20))] [(1000001, seqB 106 4 paF pa0 l)]) (fun _ => 0) () trivial (by (refine Entails.mk' [(1000001, 1000001)] rfl rfl ?_ ?_ <;> repeat' (first | exact True.intro | exact lr | exact rr | exact SV.le_int (by omega) | exact SV.le_any _ | refine And.intro ?_ ?_)); done) ?_
 rintro ⟨⟩ -
 conv => whnf
 repeat' (first | (refine br_intro ?_ ?_ <;> intro hb <;> (try simp only [brs] at hb) <;> conv => whnf) | omega | (refine And.intro ?_ ?_; ((try dsimp only); first | omega | (refine szA rfl ?_; omega) | (refine szB rfl ?_; omega) | (unfold inI64; omega) | exact rfl | (simp only [lns] at *; omega) | decide | (unfold inI64; decide)); conv => whnf) | decide | assumption)
 refine CallX.of (s208 g cmp l (by omega) hcmp) [(1000001, 1000001)] rfl ⟨lr, lr, lr, lr, trivial⟩ ⟨rr, trivial⟩ rfl rfl ?_
 rintro x rout ⟨rfl, c, hc, rfl⟩
 refine ⟨rfl, ?_⟩
 conv => whnf
 refine LoopX.rule hT (C := []) (ι := Unit) (fun _ => True) (fun _ => mkSt [(0, .buf 1000001), (1, .d (.int .i64 l.length)), (2, .fn g []), (6, .d (.int .i64 20))] [(1000001, seqB 106 4 paF pa0 c)]) (fun _ => 0) () trivial (by (refine Entails.mk' [(1000001, 1000001)] rfl rfl ?_ ?_ <;> repeat' (first | exact True.intro | exact lr | exact rr | exact SV.le_int (by omega) | exact SV.le_any _ | refine And.intro ?_ ?_)); done) ?_
 rintro ⟨⟩ -
 conv => whnf
 repeat' (first | (refine br_intro ?_ ?_ <;> intro hb <;> (try simp only [brs] at hb) <;> conv => whnf) | omega | (refine And.intro ?_ ?_; ((try dsimp only); first | omega | (refine szA rfl ?_; omega) | (refine szB rfl ?_; omega) | (unfold inI64; omega) | exact rfl | (simp only [lns] at *; omega) | decide | (unfold inI64; decide)); conv => whnf) | decide | assumption)
 refine .ret _ ?_
 conv => whnf
 exact ⟨_, ⟨rfl, c, hc, rfl⟩, rr, trivial⟩
theorem s126 (g : FuncId) (cmp : Pas → Pas → Int) (l : List Pas) (hl : l.length < 20)
 (hcmp : ∀ p q, p ∈ l → q ∈ l → FSpec Tryz.prog g [.agg ((paF p).map .d), .agg ((paF q).map .d)] [] (fun y r => y = .d (.int .i64 (cmp p q)) ∧ r = [])) :
 FSpec Tryz.prog 109 [.buf 1000001, .fn g []] [(1000001, seqB 106 4 paF pa0 l)]
  (fun y r => y = .tup [] ∧ ∃ c, sameP l c ∧ r = [(1000001, seqB 106 4 paF pa0 c)]) := by
 refine spec_of hT (C := []) Tryz.func109 rfl Tryz.call109 rfl rfl rfl ?_
 conv => whnf
 repeat' (first | (refine br_intro ?_ ?_ <;> intro hb <;> (try simp only [brs] at hb) <;> conv => whnf) | omega | (refine And.intro ?_ ?_; ((try dsimp only); first | omega | (refine szA rfl ?_; omega) | (refine szB rfl ?_; omega) | (unfold inI64; omega) | exact rfl | (simp only [lns] at *; omega) | decide | (unfold inI64; decide)); conv => whnf) | decide | assumption)
 refine CallX.of (s175 g cmp l hl hcmp) [(1000001, 1000001)] rfl ⟨lr, lr, lr, trivial⟩ ⟨rr, trivial⟩ rfl rfl ?_
 rintro x rout ⟨rfl, c, hc, rfl⟩
 refine ⟨rfl, ?_⟩
 conv => whnf
 refine .ret _ ?_
 conv => whnf
 exact ⟨_, ⟨rfl, c, hc, rfl⟩, rr, trivial⟩
theorem s129 (a b : Pas) (ha : -2^40 ≤ a.tm ∧ a.tm ≤ 2^40) (hb : -2^40 ≤ b.tm ∧ b.tm ≤ 2^40) : FSpec Tryz.prog 112 [.agg ((paF a).map .d), .agg ((paF b).map .d)] [] (fun x r => x = .d (.bool (decide (pasCmp a b = 0))) ∧ r = []) := by
 refine spec_of hT (C := []) Tryz.func112 rfl Tryz.call112 rfl rfl rfl ?_
 conv => whnf
 repeat' (first | (refine CallX.exact (s127 a b ha hb) rfl rfl ?_; rotate_right; conv => whnf) | (refine br_intro ?_ ?_ <;> intro hb <;> (try simp only [brs] at hb) <;> conv => whnf) | omega | (refine And.intro ?_ ?_; ((try dsimp only); first | omega | (refine szA rfl ?_; omega) | (refine szB rfl ?_; omega) | (unfold inI64; omega) | exact rfl | (simp only [lns] at *; omega) | decide | (unfold inI64; decide)); conv => whnf) | decide | assumption)
 refine .ret _ ?_
 conv => whnf
 refine ⟨[], ⟨?_, rfl⟩, trivial⟩
 conv => lhs; whnf
def subP (l c : List Pas) : Prop := c.length ≤ l.length ∧ ∀ x ∈ c, x ∈ l
theorem s128 (g : FuncId) (eq : Pas → Pas → Bool) (l : List Pas) (hl : l.length ≤ 2^20)
 (heq : ∀ p q, p ∈ l → q ∈ l → FSpec Tryz.prog g [.agg ((paF p).map .d), .agg ((paF q).map .d)] [] (fun y r => y = .d (.bool (eq p q)) ∧ r = [])) :
 FSpec Tryz.prog 111 [.buf 1000001, .fn g []] [(1000001, seqB 106 4 paF pa0 l)]
  (fun y r => ∃ c, subP l c ∧ ∃ d, (d = 1000001 ∨ d = 64) ∧ y = .buf d ∧ r = [(d, seqB 106 4 paF pa0 c)]) := by
 refine spec_of hT (C := []) Tryz.func111 rfl Tryz.call111 rfl rfl rfl ?_
 conv => whnf
 repeat' (first | (refine br_intro ?_ ?_ <;> intro hb <;> (try simp only [brs] at hb) <;> conv => whnf) | (refine RegX.rule (id := 6) hT rfl [] oTCpE111_6 (by decide +kernel) ?_; conv => whnf) | (refine RegX.rule (id := 11) hT rfl [] oTCpE111_11 (by decide +kernel) ?_; conv => whnf) | omega | (refine And.intro ?_ ?_; ((try dsimp only); first | omega | (refine szA rfl ?_; omega) | (refine szB rfl ?_; omega) | (unfold inI64; omega) | exact rfl | (simp only [lns] at *; omega) | decide | (unfold inI64; decide)); conv => whnf) | decide | assumption)
 · refine .ret _ ?_
   conv => whnf
   exact ⟨_, ⟨l, ⟨Nat.le_refl _, fun x h => h⟩, 1000001, .inl rfl, rfl, rfl⟩, rr, trivial⟩
 refine LoopX.rule hT (C := []) (ι := Nat) (fun k => 1 ≤ k ∧ k ≤ l.length) (fun k => mkSt [(0, .buf 1000001), (1, .fn g []), (5, .d (.int .i64 k))] [(1000001, seqB 106 4 paF pa0 l)]) (fun k => l.length - k) 1 ⟨by omega, by omega⟩ (by (refine Entails.mk' [(1000001, 1000001)] rfl rfl ?_ ?_ <;> repeat' (first | exact True.intro | exact lr | exact rr | exact SV.le_int (by omega) | exact SV.le_any _ | refine And.intro ?_ ?_)); done) ?_
 rintro k ⟨p1, p2⟩
 conv => whnf
 repeat' (first | (refine CallX.of (heq (l.getD (k : Int).toNat pa0) (l.getD ((k : Int) - 1).toNat pa0) (getD_mem (by omega)) (getD_mem (by omega))) [] rfl ⟨lr, lr, trivial⟩ trivial rfl rfl ?_; rintro x rout ⟨rfl, rfl⟩; refine ⟨rfl, ?_⟩; conv => whnf) | (refine br_intro ?_ ?_ <;> intro hb <;> (try simp only [brs] at hb) <;> conv => whnf) | (refine RegX.rule (id := 6) hT rfl [] oTCpE111_6 (by decide +kernel) ?_; conv => whnf) | (refine RegX.rule (id := 11) hT rfl [] oTCpE111_11 (by decide +kernel) ?_; conv => whnf) | omega | (refine And.intro ?_ ?_; ((try dsimp only); first | omega | (refine szA rfl ?_; omega) | (refine szB rfl ?_; omega) | (unfold inI64; omega) | exact rfl | (simp only [lns] at *; omega) | decide | (unfold inI64; decide)); conv => whnf) | decide | assumption)
 · refine .look rfl ?_
   conv => whnf
   repeat' (first | (refine br_intro ?_ ?_ <;> intro hb <;> (try simp only [brs] at hb) <;> conv => whnf) | (refine RegX.rule (id := 6) hT rfl [] oTCpE111_6 (by decide +kernel) ?_; conv => whnf) | (refine RegX.rule (id := 11) hT rfl [] oTCpE111_11 (by decide +kernel) ?_; conv => whnf) | omega | (refine And.intro ?_ ?_; ((try dsimp only); first | omega | (refine szA rfl ?_; omega) | (refine szB rfl ?_; omega) | (unfold inI64; omega) | exact rfl | (simp only [lns] at *; omega) | decide | (unfold inI64; decide)); conv => whnf) | decide | assumption)
   have hsub : SV.le (SV.sub 1000001 4 (k : Int).toNat (((l.length : Nat) : Int) - (k : Int)).toNat) (SV.sub 1000001 4 k (l.length - k)) := by
    rw [show (k : Int).toNat = k by omega, show (((l.length : Nat) : Int) - (k : Int)).toNat = l.length - k by omega]; exact lr
   refine LoopX.rule hT (C := []) (ι := Nat × Nat × List Pas) (fun (q, m, c) => k ≤ q ∧ q < k + m ∧ 1 ≤ m ∧ k + m ≤ l.length ∧ sameP l c)
    (fun (q, m, c) => mkSt [(0, .buf 1000001), (1, .fn g []), (5, .d (.int .i64 q)), (6, .sub 1000001 4 k (l.length - k)), (7, .d (.int .i64 m))] [(1000001, seqB 106 4 paF pa0 c)])
    (fun (_, m, _) => l.length - m) (k, 1, l) ⟨by omega, by omega, by omega, by omega, rfl, fun x h => h⟩ (by (refine Entails.mk' [(1000001, 1000001)] rfl rfl ?_ ?_ <;> repeat' (first | exact True.intro | exact lr | exact rr | (exact hsub) | exact SV.le_int (by omega) | exact SV.le_any _ | refine And.intro ?_ ?_)); done) ?_
   rintro ⟨q, m, c⟩ ⟨r1, r2, r3, r4, r5⟩
   have hc0 := r5.1
   conv => whnf
   repeat' (first | (refine CallX.of (heq (c.getD (k + (m : Int).toNat) pa0) (c.getD (k + ((m : Int) - 1).toNat) pa0) (r5.2 _ (getD_mem (by omega))) (r5.2 _ (getD_mem (by omega)))) [] rfl ⟨lr, lr, trivial⟩ trivial rfl rfl ?_; rintro x rout ⟨rfl, rfl⟩; refine ⟨rfl, ?_⟩; conv => whnf) | (refine SliceX.first (lo := none) rfl ?_; conv => whnf) | (refine SliceX.look (lo := some _) rfl ?_; conv => whnf) | (refine br_intro ?_ ?_ <;> intro hb <;> (try simp only [brs] at hb) <;> conv => whnf) | (refine RegX.rule (id := 6) hT rfl [] oTCpE111_6 (by decide +kernel) ?_; conv => whnf) | (refine RegX.rule (id := 11) hT rfl [] oTCpE111_11 (by decide +kernel) ?_; conv => whnf) | omega | (refine And.intro ?_ ?_; ((try dsimp only); first | omega | (refine szA rfl ?_; omega) | (refine szB rfl ?_; omega) | (unfold inI64; omega) | exact rfl | (simp only [lns] at *; omega) | decide | (unfold inI64; decide)); conv => whnf) | decide | assumption)
   · have e1 : ∀ z, z = k + (m : Int).toNat → z < l.length → c.getD z pa0 ∈ l := fun z _ h => r5.2 _ (getD_mem (by omega))
     refine ⟨(q + 1, m + 1, _), ⟨by omega, by omega, by omega, by omega, sameP_set r5 (e1 _ rfl (by omega))⟩, by show l.length - (m + 1) < l.length - m; omega, Entails.mk' [(1000001, 1000001)] rfl rfl ⟨lr, lr, SV.le_int (by omega), lr, SV.le_int (by omega), trivial⟩ ⟨Res.le_putF (fun _ _ => rfl), trivial⟩⟩
   · exact ⟨(q, m + 1, c), ⟨by omega, by omega, by omega, by omega, r5⟩, by show l.length - (m + 1) < l.length - m; omega, (by (refine Entails.mk' [(1000001, 1000001)] rfl rfl ?_ ?_ <;> repeat' (first | exact True.intro | exact lr | exact rr | exact SV.le_int (by omega) | exact SV.le_any _ | refine And.intro ?_ ?_)); done)⟩
   · refine .ret _ ?_
     conv => whnf
     refine ⟨_, ⟨c.take q, ⟨by rw [List.length_take]; omega, fun x hx => r5.2 x (List.mem_of_mem_take hx)⟩, 64, .inr rfl, rfl, rfl⟩, Res.le_buf (by rw [List.length_take]; omega) (fun i hi => ?_), trivial⟩
     have hi : i < q := by
      have : i < (q : Int).toNat := hi
      omega
     have h1 : Nat.ble (q : Int).toNat i = false := by
      rw [← Bool.not_eq_true, Nat.ble_eq]; omega
     show (bif Nat.ble (q : Int).toNat i && _ then _ else rowF paF pa0 c i) = _
     rw [h1]
     simp only [Bool.false_and, cond_false, rowF]
     rw [List.getD_eq_getElem?_getD, List.getD_eq_getElem?_getD, List.getElem?_take_of_lt hi]
 · exact ⟨k + 1, ⟨by omega, by omega⟩, by omega, (by (refine Entails.mk' [(1000001, 1000001)] rfl rfl ?_ ?_ <;> repeat' (first | exact True.intro | exact lr | exact rr | exact SV.le_int (by omega) | exact SV.le_any _ | refine And.intro ?_ ?_)); done)⟩
 · refine .ret _ ?_
   conv => whnf
   exact ⟨_, ⟨l, ⟨Nat.le_refl _, fun x h => h⟩, 1000001, .inl rfl, rfl, rfl⟩, rr, trivial⟩
def pOk1 (p : Pas) : Prop := p.gate.length ≤ 8 ∧ p.plate.length ≤ 8 ∧ (-2^40 ≤ p.tm ∧ p.tm ≤ 2^40) ∧ -2^40 ≤ p.cents ∧ p.cents ≤ 2^40
def pSh (l : List Pas) (k : Nat) : Prop := l.length ≤ k ∧ ∀ p ∈ l, pOk1 p
theorem pSh_snoc {l : List Pas} {k : Nat} {x : Pas} (h : pSh l k) (hx : pOk1 x) : pSh (l ++ [x]) (k + 1) := by
 refine ⟨by rw [List.length_append]; simpa using h.1, fun p hp => ?_⟩
 rcases List.mem_append.1 hp with q | q
 · exact h.2 p q
 · simp at q; subst q; exact hx
theorem pSh_put {l : List Pas} {k m : Nat} {i : Nat} {x : Pas} (h : pSh l k) (hm : k ≤ m) (hx : i < l.length → pOk1 x) : pSh (l.set i x) m := by
 refine ⟨by have := h.1; rw [List.length_set]; omega, fun p hp => ?_⟩
 by_cases hi : i < l.length
 · rcases List.mem_or_eq_of_mem_set hp with q | q
   · exact h.2 p q
   · subst q; exact hx hi
 · rw [List.set_eq_of_length_le (by omega)] at hp; exact h.2 p hp
theorem mem_bd {l : List Int} {u : Int} (h : u ∈ l) (q : l.all (fun x => decide (-2^40 ≤ x ∧ x ≤ 2^40)) = true) : -2^40 ≤ u ∧ u ≤ 2^40 := by
 have := List.all_eq_true.1 q u h
 exact of_decide_eq_true this
theorem SV.le_upd {α : Type} {f : α → List DV} {d : α} {l : List α} {k j off : Nat} {ds : List DV} (g : α → α) (hg : ∀ y, setAtD (f y) off ds = f (g y)) :
 SV.le (.d (.ro k l.length fun i => bif Nat.beq i j then setAtD (rowF f d l i) off ds else rowF f d l i)) (.d (seqD k f d (l.set j (g (l.getD j d))))) :=
 SV.le_putF fun y hy => by rw [hg, List.getD_eq_getElem?_getD, hy]; rfl
theorem s63 (n : Nat) (L : Nat → Int) (hL : Rok n L) (a : Int) (h0 : 0 ≤ a) (ha : a ≤ 2^38) (m : Int) (hm1 : 0 ≤ m) (hm2 : m ≤ 12) :
 FSpec Tryz.prog 40 [.ptr 1000000 0, .d (.int .i64 m)] [(1000000, strm n L a)] (fun y r => (∃ l, pSh l m.toNat ∧ y = .d (pass l)) ∧ Moved n L a 60 r) := by
 refine spec_of hT (C := []) Tryz.func40 rfl Tryz.call40 rfl rfl rfl ?_
 conv => whnf
 refine LoopX.rule hT (C := []) (ι := Int × List Pas × Nat) (fun (b, l, k) => (a ≤ b ∧ b ≤ a + 4 * k ∧ (k : Int) ≤ m) ∧ pSh l k)
  (fun (b, l, k) => mkSt [(0, .ptr 1000000 0), (5, .buf 5), (7, .d (.int .i64 m)), (8, .d (.int .i64 k))] [(1000000, strm n L b), (5, seqB 106 4 paF pa0 l)])
  (fun (_, _, k) => 12 - k) (a, [], 0) ⟨⟨by simp, by simp, by simpa using hm1⟩, ⟨by simp, by simp⟩⟩ ?_ ?_
 · exact (Entails.nil 5 5 106 4 (rowF paF pa0 []) rfl rfl (by decide)).trans (by (refine Entails.mk' [(1000000, 1000000), (5, 5)] rfl rfl ?_ ?_ <;> repeat' (first | exact True.intro | exact lr | exact rr | exact SV.le_int (by omega) | exact SV.le_any _ | refine And.intro ?_ ?_)); done)
 rintro ⟨b, l, k⟩ ⟨⟨p1, p2, p3⟩, q1⟩
 have hl1 := q1.1
 conv => whnf
 repeat' (first | (refine CallX.of (s33 n L hL _ ?_ ?_ [5, 10, 60, 62, 66, 72, 100, 105, 150, 300, 1440, 1500, 1501] ?_ ?_) [(1000000, 1000000)] rfl ⟨lr, SV.le_lit rfl rfl, trivial⟩ ⟨rr, trivial⟩ rfl rfl ?_; rotate_right; rintro x rout ⟨⟨u1, hu1, rfl⟩, ⟨c, c1, c2, rfl⟩⟩; refine ⟨rfl, ?_⟩; conv => whnf) | (refine CallX.of (s15 n L hL _ ?_ ?_ [[103, 49], [103, 49], [103, 50], [103, 51]] ?_ ?_) [(1000000, 1000000)] rfl ⟨lr, SV.le_lit rfl rfl, trivial⟩ ⟨rr, trivial⟩ rfl rfl ?_; rotate_right; rintro x rout ⟨⟨u2, hu2, rfl⟩, ⟨c, c1, c2, rfl⟩⟩; refine ⟨rfl, ?_⟩; conv => whnf) | (refine CallX.of (s15 n L hL _ ?_ ?_ [[65, 66, 49], [65, 66, 49], [65, 66, 50], [90, 90, 57]] ?_ ?_) [(1000000, 1000000)] rfl ⟨lr, SV.le_lit rfl rfl, trivial⟩ ⟨rr, trivial⟩ rfl rfl ?_; rotate_right; rintro x rout ⟨⟨u3, hu3, rfl⟩, ⟨c, c1, c2, rfl⟩⟩; refine ⟨rfl, ?_⟩; conv => whnf) | (refine CallX.of (s33 n L hL _ ?_ ?_ [0, 30, 30, 80, 500] ?_ ?_) [(1000000, 1000000)] rfl ⟨lr, SV.le_lit rfl rfl, trivial⟩ ⟨rr, trivial⟩ rfl rfl ?_; rotate_right; rintro x rout ⟨⟨u4, hu4, rfl⟩, ⟨c, c1, c2, rfl⟩⟩; refine ⟨rfl, ?_⟩; conv => whnf) | (refine br_intro ?_ ?_ <;> intro hb <;> (try simp only [brs] at hb) <;> conv => whnf) | omega | (refine And.intro ?_ ?_; ((try dsimp only); first | omega | (refine szA rfl ?_; omega) | (refine szB rfl ?_; omega) | (unfold inI64; omega) | exact rfl | (simp only [lns] at *; omega) | decide | (unfold inI64; decide)); conv => whnf) | decide | assumption)
 · refine ⟨(_, _, k + 1), ?_, ?_, Entails.mk' [(1000000, 1000000), (5, 25)] rfl rfl ⟨lr, lr, lr, lr, trivial⟩ ⟨rr, Res.le_snocF (x := ⟨_, _, _, _⟩) rfl, trivial⟩⟩
   · exact ⟨⟨by omega, by omega, by omega⟩, pSh_snoc q1 ⟨mem_len hu2 rfl, mem_len hu3 rfl, mem_bd hu1 rfl, mem_bd hu4 rfl⟩⟩
   · show 12 - (k + 1) < 12 - k; omega
 have hcmp : ∀ l' : List Pas, (∀ x ∈ l', x ∈ l) → ∀ p q, p ∈ l' → q ∈ l' → FSpec Tryz.prog 110 [.agg ((paF p).map .d), .agg ((paF q).map .d)] [] (fun y r => y = .d (.int .i64 (pasCmp p q)) ∧ r = []) :=
  fun l' hs p q hp hq => s127 p q (q1.2 p (hs p hp)).2.2.1 (q1.2 q (hs q hq)).2.2.1
 have heq : ∀ l' : List Pas, (∀ x ∈ l', x ∈ l) → ∀ p q, p ∈ l' → q ∈ l' → FSpec Tryz.prog 112 [.agg ((paF p).map .d), .agg ((paF q).map .d)] [] (fun y r => y = .d (.bool (decide (pasCmp p q = 0))) ∧ r = []) :=
  fun l' hs p q hp hq => s129 p q (q1.2 p (hs p hp)).2.2.1 (q1.2 q (hs q hq)).2.2.1
 refine CallX.of (s126 110 pasCmp l (by omega) (hcmp l fun _ h => h)) [(1000001, 5)] rfl ⟨lr, lr, trivial⟩ ⟨rr, trivial⟩ rfl rfl ?_
 rintro x rout ⟨rfl, c, hc, rfl⟩
 refine ⟨rfl, ?_⟩
 conv => whnf
 repeat' (first | (refine br_intro ?_ ?_ <;> intro hb <;> (try simp only [brs] at hb) <;> conv => whnf) | omega | (refine And.intro ?_ ?_; ((try dsimp only); first | omega | (refine szA rfl ?_; omega) | (refine szB rfl ?_; omega) | (unfold inI64; omega) | exact rfl | (simp only [lns] at *; omega) | decide | (unfold inI64; decide)); conv => whnf) | decide | assumption)
 refine CallX.of (s128 112 (fun p q => decide (pasCmp p q = 0)) c (by have := hc.1; omega) (heq c hc.2)) [(1000001, 5), (64, 100)] rfl ⟨lr, lr, trivial⟩ ⟨rr, trivial⟩ rfl rfl ?_
 rintro x rout ⟨e, he, d, hd, rfl, rfl⟩
 have hsh : pSh e m.toNat := ⟨by have := hc.1; have := he.1; omega, fun p hp => q1.2 p (hc.2 p (he.2 p hp))⟩
 have hl2 := hsh.1
 clear hcmp heq
 rcases hd with rfl | rfl
 · refine ⟨rfl, ?_⟩
   conv => whnf
   repeat' (first | (refine CallX.of (s84 n L hL _ ?_ ?_ _ ?_) [(1000000, 1000000)] rfl ⟨lr, lr, trivial⟩ ⟨rr, trivial⟩ rfl rfl ?_; rotate_right; rintro x rout ⟨⟨f, rfl⟩, ⟨c, c1, c2, rfl⟩⟩; refine ⟨rfl, ?_⟩; conv => whnf) | (refine CallX.of (s86 n L hL _ ?_ ?_ _ ?_) [(1000000, 1000000)] rfl ⟨lr, lr, trivial⟩ ⟨rr, trivial⟩ rfl rfl ?_; rotate_right; rintro x rout ⟨⟨j, hj1, hj2, hj3, rfl⟩, ⟨c, c1, c2, rfl⟩⟩; refine ⟨rfl, ?_⟩; conv => whnf) | (refine CallX.of (s104 n L hL _ ?_ ?_ _ _ ?_ ?_ ?_) [(1000000, 1000000)] rfl ⟨lr, lr, lr, trivial⟩ ⟨rr, trivial⟩ rfl rfl ?_; rotate_right; rintro x rout ⟨⟨u5, hk1, hk2, rfl⟩, ⟨c, c1, c2, rfl⟩⟩; refine ⟨rfl, ?_⟩; conv => whnf) | (refine CallX.of (s15 n L hL _ ?_ ?_ [[110, 111, 110, 101], [], [65]] ?_ ?_) [(1000000, 1000000)] rfl ⟨lr, SV.le_lit rfl rfl, trivial⟩ ⟨rr, trivial⟩ rfl rfl ?_; rotate_right; rintro x rout ⟨⟨u4, hu4, rfl⟩, ⟨c, c1, c2, rfl⟩⟩; refine ⟨rfl, ?_⟩; conv => whnf) | (refine CallX.of (s15 n L hL _ ?_ ?_ [[97], [], [97, 98, 49]] ?_ ?_) [(1000000, 1000000)] rfl ⟨lr, SV.le_lit rfl rfl, trivial⟩ ⟨rr, trivial⟩ rfl rfl ?_; rotate_right; rintro x rout ⟨⟨u4, hu4, rfl⟩, ⟨c, c1, c2, rfl⟩⟩; refine ⟨rfl, ?_⟩; conv => whnf) | (refine br_intro ?_ ?_ <;> intro hb <;> (try simp only [brs] at hb) <;> conv => whnf) | omega | (refine And.intro ?_ ?_; ((try dsimp only); first | omega | (refine szA rfl ?_; omega) | (refine szB rfl ?_; omega) | (unfold inI64; omega) | exact rfl | (simp only [lns] at *; omega) | decide | (unfold inI64; decide)); conv => whnf) | decide | assumption)
   all_goals
    refine .freeze _ 5 106 4 _ _ rfl (.weak _ ?_)
    (conv => whnf)
   · refine ⟨_, [(1000000, strm n L _)], SV.le_upd (fun p => ⟨u5, p.gate, p.plate, p.cents⟩) (fun _ => rfl), ⟨⟨_, ?_, rfl⟩, _, by omega, by omega, rfl⟩, rr, trivial⟩
     exact pSh_put hsh (Nat.le_refl _) (fun h => ⟨(hsh.2 _ (getD_mem h)).1, (hsh.2 _ (getD_mem h)).2.1, ⟨hk1, hk2⟩, (hsh.2 _ (getD_mem h)).2.2.2⟩)
   · refine ⟨_, [(1000000, strm n L _)], SV.le_upd (fun p => ⟨p.tm, u4, p.plate, p.cents⟩) (fun _ => rfl), ⟨⟨_, ?_, rfl⟩, _, by omega, by omega, rfl⟩, rr, trivial⟩
     exact pSh_put hsh (Nat.le_refl _) (fun h => ⟨mem_len hu4 rfl, (hsh.2 _ (getD_mem h)).2⟩)
   · refine ⟨_, [(1000000, strm n L _)], SV.le_upd (fun p => ⟨p.tm, p.gate, u4, p.cents⟩) (fun _ => rfl), ⟨⟨_, ?_, rfl⟩, _, by omega, by omega, rfl⟩, rr, trivial⟩
     exact pSh_put hsh (Nat.le_refl _) (fun h => ⟨(hsh.2 _ (getD_mem h)).1, mem_len hu4 rfl, (hsh.2 _ (getD_mem h)).2.2⟩)
   · refine ⟨_, [(1000000, strm n L _)], SV.le_upd (fun p => ⟨p.tm, p.gate, p.plate, u5⟩) (fun _ => rfl), ⟨⟨_, ?_, rfl⟩, _, by omega, by omega, rfl⟩, rr, trivial⟩
     exact pSh_put hsh (Nat.le_refl _) (fun h => ⟨(hsh.2 _ (getD_mem h)).1, (hsh.2 _ (getD_mem h)).2.1, (hsh.2 _ (getD_mem h)).2.2.1, hk1, hk2⟩)
   all_goals exact ⟨_, [(1000000, strm n L _)], lr, ⟨⟨e, hsh, rfl⟩, _, by omega, by omega, rfl⟩, rr, trivial⟩
 · refine ⟨rfl, ?_⟩
   conv => whnf
   repeat' (first | (refine CallX.of (s84 n L hL _ ?_ ?_ _ ?_) [(1000000, 1000000)] rfl ⟨lr, lr, trivial⟩ ⟨rr, trivial⟩ rfl rfl ?_; rotate_right; rintro x rout ⟨⟨f, rfl⟩, ⟨c, c1, c2, rfl⟩⟩; refine ⟨rfl, ?_⟩; conv => whnf) | (refine CallX.of (s86 n L hL _ ?_ ?_ _ ?_) [(1000000, 1000000)] rfl ⟨lr, lr, trivial⟩ ⟨rr, trivial⟩ rfl rfl ?_; rotate_right; rintro x rout ⟨⟨j, hj1, hj2, hj3, rfl⟩, ⟨c, c1, c2, rfl⟩⟩; refine ⟨rfl, ?_⟩; conv => whnf) | (refine CallX.of (s104 n L hL _ ?_ ?_ _ _ ?_ ?_ ?_) [(1000000, 1000000)] rfl ⟨lr, lr, lr, trivial⟩ ⟨rr, trivial⟩ rfl rfl ?_; rotate_right; rintro x rout ⟨⟨u5, hk1, hk2, rfl⟩, ⟨c, c1, c2, rfl⟩⟩; refine ⟨rfl, ?_⟩; conv => whnf) | (refine CallX.of (s15 n L hL _ ?_ ?_ [[110, 111, 110, 101], [], [65]] ?_ ?_) [(1000000, 1000000)] rfl ⟨lr, SV.le_lit rfl rfl, trivial⟩ ⟨rr, trivial⟩ rfl rfl ?_; rotate_right; rintro x rout ⟨⟨u4, hu4, rfl⟩, ⟨c, c1, c2, rfl⟩⟩; refine ⟨rfl, ?_⟩; conv => whnf) | (refine CallX.of (s15 n L hL _ ?_ ?_ [[97], [], [97, 98, 49]] ?_ ?_) [(1000000, 1000000)] rfl ⟨lr, SV.le_lit rfl rfl, trivial⟩ ⟨rr, trivial⟩ rfl rfl ?_; rotate_right; rintro x rout ⟨⟨u4, hu4, rfl⟩, ⟨c, c1, c2, rfl⟩⟩; refine ⟨rfl, ?_⟩; conv => whnf) | (refine br_intro ?_ ?_ <;> intro hb <;> (try simp only [brs] at hb) <;> conv => whnf) | omega | (refine And.intro ?_ ?_; ((try dsimp only); first | omega | (refine szA rfl ?_; omega) | (refine szB rfl ?_; omega) | (unfold inI64; omega) | exact rfl | (simp only [lns] at *; omega) | decide | (unfold inI64; decide)); conv => whnf) | decide | assumption)
   all_goals
    refine .freeze _ 100 106 4 _ _ rfl (.weak _ ?_)
    (conv => whnf)
   · refine ⟨_, [(1000000, strm n L _)], SV.le_upd (fun p => ⟨u5, p.gate, p.plate, p.cents⟩) (fun _ => rfl), ⟨⟨_, ?_, rfl⟩, _, by omega, by omega, rfl⟩, rr, trivial⟩
     exact pSh_put hsh (Nat.le_refl _) (fun h => ⟨(hsh.2 _ (getD_mem h)).1, (hsh.2 _ (getD_mem h)).2.1, ⟨hk1, hk2⟩, (hsh.2 _ (getD_mem h)).2.2.2⟩)
   · refine ⟨_, [(1000000, strm n L _)], SV.le_upd (fun p => ⟨p.tm, u4, p.plate, p.cents⟩) (fun _ => rfl), ⟨⟨_, ?_, rfl⟩, _, by omega, by omega, rfl⟩, rr, trivial⟩
     exact pSh_put hsh (Nat.le_refl _) (fun h => ⟨mem_len hu4 rfl, (hsh.2 _ (getD_mem h)).2⟩)
   · refine ⟨_, [(1000000, strm n L _)], SV.le_upd (fun p => ⟨p.tm, p.gate, u4, p.cents⟩) (fun _ => rfl), ⟨⟨_, ?_, rfl⟩, _, by omega, by omega, rfl⟩, rr, trivial⟩
     exact pSh_put hsh (Nat.le_refl _) (fun h => ⟨(hsh.2 _ (getD_mem h)).1, mem_len hu4 rfl, (hsh.2 _ (getD_mem h)).2.2⟩)
   · refine ⟨_, [(1000000, strm n L _)], SV.le_upd (fun p => ⟨p.tm, p.gate, p.plate, u5⟩) (fun _ => rfl), ⟨⟨_, ?_, rfl⟩, _, by omega, by omega, rfl⟩, rr, trivial⟩
     exact pSh_put hsh (Nat.le_refl _) (fun h => ⟨(hsh.2 _ (getD_mem h)).1, (hsh.2 _ (getD_mem h)).2.1, (hsh.2 _ (getD_mem h)).2.2.1, hk1, hk2⟩)
   all_goals exact ⟨_, [(1000000, strm n L _)], lr, ⟨⟨e, hsh, rfl⟩, _, by omega, by omega, rfl⟩, rr, trivial⟩
end Go.Proofs.YtcjfniddeibbhaaGreatDoor
namespace Go.Proofs
open Go.Shelf
end Go.Proofs
set_option maxRecDepth 20000
namespace Go.Proofs.YtcjfniddeibbhaaGreatDoor
open Go Go.Eng Go.RowKit
theorem Res.le_appF {α : Type} {f : α → List DV} {d : α} {l m : List α} {e k : Nat} : Res.le (.buf e k (l.length + m.length) (appGet l.length (rowF f d l) (rowF f d m))) (seqB e k f d (l ++ m)) := by
 refine Res.le_buf (by simp) (fun i hi => ?_)
 by_cases h : i < l.length
 · rw [appGet_lt h]; simp only [rowF]; rw [List.getD_eq_getElem?_getD, List.getD_eq_getElem?_getD, List.getElem?_append_left h]
 · rw [appGet_ge (by omega)]; simp only [rowF]; rw [List.getD_eq_getElem?_getD, List.getD_eq_getElem?_getD, List.getElem?_append_right (by omega)]
theorem pas_eq {a b : Pas} : a = b ↔ a.tm = b.tm ∧ a.gate = b.gate ∧ a.plate = b.plate ∧ a.cents = b.cents := by cases a; cases b; simp
instance : DecidableEq Pas := fun _ _ => decidable_of_iff _ pas_eq.symm
theorem Res.le_upd {α : Type} {f : α → List DV} {d : α} {l : List α} {e k j off : Nat} {ds : List DV} (g : α → α) (hg : ∀ y, setAtD (f y) off ds = f (g y)) :
 Res.le (.buf e k l.length fun i => bif Nat.beq i j then setAtD (rowF f d l i) off ds else rowF f d l i) (seqB e k f d (l.set j (g (l.getD j d)))) :=
 Res.le_putF fun y hy => by rw [hg, List.getD_eq_getElem?_getD, hy]; rfl
def allK {α : Type} (K : α → Prop) (k : Nat) (l : List α) : Prop := l.length ≤ k ∧ ∀ x ∈ l, K x
theorem allK_snoc {α : Type} {K : α → Prop} {l : List α} {k m : Nat} {x : α} (h : allK K k l) (hm : k + 1 ≤ m) (hx : K x) : allK K m (l ++ [x]) := by
 refine ⟨by rw [List.length_append]; have := h.1; simp; omega, fun p hp => ?_⟩
 rcases List.mem_append.1 hp with q | q
 · exact h.2 p q
 · simp at q; subst q; exact hx
theorem allK_le {α : Type} {K : α → Prop} {l : List α} {k m : Nat} (h : allK K k l) (hm : k ≤ m) : allK K m l := ⟨by have := h.1; omega, h.2⟩
theorem allK_upd {α : Type} {K : α → Prop} {l : List α} {k j : Nat} {d : α} {g : α → α} (h : allK K k l) (hg : ∀ y, K y → K (g y)) : allK K k (l.set j (g (l.getD j d))) := by
 refine ⟨by rw [List.length_set]; exact h.1, fun p hp => ?_⟩
 by_cases hj : j < l.length
 · rcases List.mem_or_eq_of_mem_set hp with q | q
   · exact h.2 p q
   · subst q; exact hg _ (h.2 _ (getD_mem hj))
 · rw [List.set_eq_of_length_le (by omega)] at hp; exact h.2 p hp
theorem rows_updG {α : Type} {f : α → List DV} {d : α} {l : List α} {j off : Nat} {ds : List DV} {get : Nat → List DV} (hg : ∀ i, i < l.length → get i = rowF f d l i) (g : α → α) (h : ∀ y, setAtD (f y) off ds = f (g y)) :
 ∀ i, i < (l.set j (g (l.getD j d))).length → (bif Nat.beq i j then setAtD (get i) off ds else get i) = rowF f d (l.set j (g (l.getD j d))) i := by
 rw [List.length_set]
 exact rows_putG hg (fun y hy => by rw [h, List.getD_eq_getElem?_getD, hy]; rfl)
abbrev updL {α : Type} (l : List α) (j : Nat) (d : α) (g : α → α) : List α := l.set j (g (l.getD j d))
theorem SV.le_upd2 {α : Type} {f : α → List DV} {d : α} {l : List α} {k j1 j2 o1 o2 : Nat} {ds1 ds2 : List DV} (g1 g2 : α → α) (h1 : ∀ y, setAtD (f y) o1 ds1 = f (g1 y)) (h2 : ∀ y, setAtD (f y) o2 ds2 = f (g2 y)) :
 SV.le (.d (.ro k l.length fun i => bif Nat.beq i j2 then setAtD (bif Nat.beq i j1 then setAtD (rowF f d l i) o1 ds1 else rowF f d l i) o2 ds2 else (bif Nat.beq i j1 then setAtD (rowF f d l i) o1 ds1 else rowF f d l i)))
  (.d (seqD k f d (updL (updL l j1 d g1) j2 d g2))) :=
 SV.le_ro (by simp) (fun i hi => rows_updG (rows_updG (fun _ _ => rfl) g1 h1) g2 h2 i (by simpa using hi))
structure Plt where
 frm : Int
 veh : List UInt8
 plt : List UInt8
deriving DecidableEq
structure Hld where
 veh : List UInt8
 frm : Int
 til : Int
def clashP (o p : Plt) : Bool := decide (o.veh = p.veh) || decide (o.plt = p.plt)
def livStep (acc : List Plt) (x : Plt) : List Plt := acc.filter (fun e => !clashP e x) ++ [x]
def liv (l : List Plt) : List Plt := l.foldl livStep []
def early (l : List Plt) (t : Int) : List Plt := l.filter fun p => decide (p.frm ≤ t)
def worn (l : List Plt) (t : Int) : List Plt := (early l t).filter fun p => !(early l t).any fun o => decide (p.frm < o.frm) && clashP o p
theorem snoc_ind {α : Type} {P : List α → Prop} (h0 : P []) (h1 : ∀ l x, P l → P (l ++ [x])) : ∀ l, P l := by
 have : ∀ l : List α, P l.reverse := by
  intro l
  induction l with
  | nil => exact h0
  | cons x l ih => rw [List.reverse_cons]; exact h1 _ _ ih
 intro l
 have := this l.reverse
 rwa [List.reverse_reverse] at this
theorem liv_snoc (l : List Plt) (x : Plt) : liv (l ++ [x]) = (liv l).filter (fun e => !clashP e x) ++ [x] := by
 unfold liv; rw [List.foldl_append]; rfl
def srtP (l : List Plt) : Prop := l.Pairwise (fun p q => p.frm ≤ q.frm)
def aprP (l : List Plt) : Prop := l.Pairwise (fun p q => p.frm = q.frm → clashP p q = false)
theorem liv_mem {l : List Plt} : ∀ {e}, e ∈ liv l → e ∈ l := by
 refine snoc_ind (P := fun l => ∀ {e}, e ∈ liv l → e ∈ l) (by intro e h; cases h) ?_ l
 intro l x ih e h
 rw [liv_snoc, List.mem_append, List.mem_filter] at h
 rw [List.mem_append]
 exact h.imp (fun q => ih q.1) id
theorem liv_apart (l : List Plt) : (liv l).Pairwise (fun p q => clashP p q = false) := by
 refine snoc_ind (P := fun l => (liv l).Pairwise (fun p q => clashP p q = false)) .nil ?_ l
 intro l x ih
 rw [liv_snoc, List.pairwise_append]
 refine ⟨ih.filter _, by simp, fun a ha b hb => ?_⟩
 rw [List.mem_singleton] at hb
 subst hb
 have := (List.mem_filter.1 ha).2
 simpa using this
theorem early_snoc (l : List Plt) (x : Plt) (t : Int) : early (l ++ [x]) t = if x.frm ≤ t then early l t ++ [x] else early l t := by
 unfold early; rw [List.filter_append]
 by_cases h : x.frm ≤ t <;> simp [h]
theorem early_all {l : List Plt} {t : Int} (h : ∀ e ∈ l, e.frm ≤ t) : early l t = l := by
 unfold early
 rw [List.filter_eq_self]
 intro e he; simpa using h e he
theorem wornE (E : List Plt) (hs : srtP E) (ha : aprP E) : E.filter (fun p => !E.any fun o => decide (p.frm < o.frm) && clashP o p) = liv E := by
 revert hs ha
 refine snoc_ind (P := fun E => srtP E → aprP E → E.filter (fun p => !E.any fun o => decide (p.frm < o.frm) && clashP o p) = liv E) (by intro _ _; rfl) ?_ E
 intro l x ih hs ha
 unfold srtP at hs
 unfold aprP at ha
 rw [List.pairwise_append] at hs ha
 have h1 := ih hs.1 ha.1
 rw [liv_snoc, ← h1, List.filter_append, List.filter_filter]
 congr 1
 · refine List.filter_congr fun p hp => ?_
   have q1 := hs.2.2 p hp x (by simp)
   have q2 := ha.2.2 p hp x (by simp)
   rw [List.any_append, Bool.not_or, Bool.and_comm]
   congr 1
   simp only [List.any_cons, List.any_nil, Bool.or_false]
   by_cases h : p.frm < x.frm
   · have : clashP x p = clashP p x := by unfold clashP; simp only [eq_comm]
     simp [h, this]
   · have : p.frm = x.frm := by omega
     simp [h, q2 this]
 · rw [List.filter_eq_self]
   intro y hy
   rw [List.mem_singleton] at hy
   subst hy
   rw [Bool.not_eq_true', List.any_eq_false]
   intro o ho
   have : o.frm ≤ y.frm := by
    rcases List.mem_append.1 ho with q | q
    · exact hs.2.2 o q y (by simp)
    · rw [List.mem_singleton] at q; subst q; exact Int.le_refl _
   simp [show ¬ y.frm < o.frm by omega]
theorem worn_liv {l : List Plt} (hs : srtP l) (ha : aprP l) (t : Int) : worn l t = liv (early l t) :=
 wornE _ (hs.filter _) (ha.filter _)
theorem liv_early {l : List Plt} (hs : srtP l) {t : Int} : ∀ {e}, e ∈ liv l → e.frm ≤ t → e ∈ liv (early l t) := by
 revert hs
 refine snoc_ind (P := fun l => srtP l → ∀ {e}, e ∈ liv l → e.frm ≤ t → e ∈ liv (early l t)) (by intro _ e h; cases h) ?_ l
 intro l x ih hs e he ht
 unfold srtP at hs
 rw [List.pairwise_append] at hs
 rw [early_snoc]
 by_cases hx : x.frm ≤ t
 · rw [if_pos hx, early_all (fun e he => by have := hs.2.2 e he x (by simp); omega)]
   exact he
 · rw [if_neg hx]
   rw [liv_snoc, List.mem_append] at he
   rcases he with q | q
   · exact ih hs.1 (List.mem_filter.1 q).1 ht
   · rw [List.mem_singleton] at q; subst q; exact absurd ht hx
theorem apart_eq {L : List Plt} (h : L.Pairwise (fun p q => clashP p q = false)) {a b : Plt} (ha : a ∈ L) (hb : b ∈ L) (hc : clashP a b = true) : a = b := by
 induction L with
 | nil => cases ha
 | cons y L ih =>
   rw [List.pairwise_cons] at h
   rcases List.mem_cons.1 ha with rfl | ha'
   · rcases List.mem_cons.1 hb with rfl | hb'
     · rfl
     · rw [h.1 b hb'] at hc; cases hc
   · rcases List.mem_cons.1 hb with rfl | hb'
     · have := h.1 a ha'
       have q : clashP b a = clashP a b := by unfold clashP; simp only [eq_comm]
       rw [q, hc] at this; cases this
     · exact ih h.2 ha' hb'
def findP (L : List Plt) (p : List UInt8) : Option Plt := L.find? fun e => decide (e.plt = p)
theorem findP_of {L : List Plt} (h : L.Pairwise (fun p q => clashP p q = false)) {e : Plt} (he : e ∈ L) : findP L e.plt = some e := by
 cases hf : findP L e.plt with
 | none =>
   have := List.find?_eq_none.1 hf e he
   simp at this
 | some a =>
   have h1 := List.find?_some hf
   have h2 := List.mem_of_find?_eq_some hf
   simp only [decide_eq_true_eq] at h1
   rw [apart_eq h h2 he (by unfold clashP; simp [h1])]
theorem findP_some {L : List Plt} {p : List UInt8} {e : Plt} (h : findP L p = some e) : e ∈ L ∧ e.plt = p :=
 ⟨List.mem_of_find?_eq_some h, by simpa using List.find?_some h⟩
theorem findP_none {L : List Plt} {p : List UInt8} (h : findP L p = none) : ∀ e ∈ L, e.plt ≠ p := by
 intro e he
 have := List.find?_eq_none.1 h e he
 simpa using this
structure HS where
 live : List Plt
 out : List UInt8 → List Hld
def hdrop (s : HS) (p : List UInt8) (t : Int) : HS :=
 match findP s.live p with
 | none => s
 | some e => ⟨s.live.filter fun e => !decide (e.plt = p), fun q => if q = p ∧ e.frm < t then s.out q ++ [⟨e.veh, e.frm, t⟩] else s.out q⟩
def findV (L : List Plt) (v : List UInt8) : Option Plt := L.find? fun e => decide (e.veh = v)
def hmid (s : HS) (x : Plt) : HS := match findV s.live x.veh with | none => s | some e => hdrop s e.plt x.frm
def hstep (s : HS) (x : Plt) : HS := ⟨(hdrop (hmid s x) x.plt x.frm).live ++ [x], (hdrop (hmid s x) x.plt x.frm).out⟩
def hs0 : HS := ⟨[], fun _ => []⟩
def hall (l : List Plt) : HS := l.foldl hstep hs0
def hend (l : List Plt) : HS := l.foldl (fun s x => hdrop s x.plt 5761440) (hall l)
def inH (t : Int) (h : Hld) : Bool := decide (h.frm ≤ t) && decide (t < h.til)
def findH (o : List Hld) (t : Int) : Option (List UInt8) := (o.find? (inH t)).map (·.veh)
def expH (l live : List Plt) (p : List UInt8) (t : Int) : Option (List UInt8) :=
 match findP (liv (early l t)) p with
 | some e => if e ∈ live then none else some e.veh
 | none => none
structure HInv (T : Int) (l : List Plt) (s : HS) : Prop where
 eq : ∀ p t, t < T → findH (s.out p) t = expH l s.live p t
 til : ∀ p h, h ∈ s.out p → h.til ≤ T
 sub : ∀ e ∈ s.live, e ∈ liv l
 apart : s.live.Pairwise (fun p q => clashP p q = false)
theorem hdrop_live (s : HS) (p : List UInt8) (t : Int) : (hdrop s p t).live = s.live.filter fun e => !decide (e.plt = p) := by
 unfold hdrop
 cases h : findP s.live p with
 | some e => rfl
 | none =>
   symm
   rw [List.filter_eq_self]
   intro e he
   simpa using findP_none h e he
theorem hdrop_inv {T : Int} {l : List Plt} {s : HS} (h : HInv T l s) (hs : srtP l) (p : List UInt8) : HInv T l (hdrop s p T) := by
 have hlive := hdrop_live s p T
 have hsub : ∀ e ∈ (hdrop s p T).live, e ∈ s.live := by intro e he; rw [hlive] at he; exact (List.mem_filter.1 he).1
 refine ⟨fun q t ht => ?_, fun q x hx => ?_, fun e he => h.sub e (hsub e he), by rw [hlive]; exact h.apart.filter _⟩
 · have hold := h.eq q t ht
   cases hf : findP s.live p with
   | none =>
     have : hdrop s p T = s := by unfold hdrop; rw [hf]
     rw [this]; exact hold
   | some e =>
     obtain ⟨e1, e2⟩ := findP_some hf
     have ho : (hdrop s p T).out q = if q = p ∧ e.frm < T then s.out q ++ [⟨e.veh, e.frm, T⟩] else s.out q := by unfold hdrop; rw [hf]
     rw [ho]
     by_cases hq : q = p
     · subst hq
       by_cases hte : e.frm ≤ t
       · have hin := liv_early hs (h.sub e e1) hte
         have hfe : findP (liv (early l t)) q = some e := by rw [← e2]; exact findP_of (liv_apart _) hin
         have h0 : expH l s.live q t = none := by unfold expH; rw [hfe]; simp [e1]
         have h1 : expH l (hdrop s q T).live q t = some e.veh := by
          unfold expH; rw [hfe]
          have : e ∉ (hdrop s q T).live := by rw [hlive, List.mem_filter]; simp [e2]
          simp [this]
         rw [h0] at hold
         rw [h1, if_pos ⟨rfl, by omega⟩]
         unfold findH at hold ⊢
         rw [Option.map_eq_none_iff] at hold
         rw [List.find?_append, hold]
         simp [inH, hte, ht]
       · have hex : expH l (hdrop s q T).live q t = expH l s.live q t := by
          unfold expH
          cases hg : findP (liv (early l t)) q with
          | none => rfl
          | some a =>
            obtain ⟨a1, a2⟩ := findP_some hg
            have hat : a.frm ≤ t := by
             have := (List.mem_filter.1 (liv_mem a1)).2
             simpa using this
            have hna : a ∉ s.live := fun hm => by
             have := apart_eq h.apart hm e1 (by unfold clashP; simp [a2, e2])
             subst this; exact hte hat
            have hnb : a ∉ (hdrop s q T).live := fun hm => hna (hsub a hm)
            simp [hna, hnb]
         rw [hex, ← hold]
         split
         · unfold findH
           rw [List.find?_append]
           cases (s.out q).find? (inH t) with
           | some y => rfl
           | none => simp [inH, hte]
         · rfl
     · rw [if_neg (fun c => hq c.1), hold]
       unfold expH
       cases hg : findP (liv (early l t)) q with
       | none => rfl
       | some a =>
         obtain ⟨a1, a2⟩ := findP_some hg
         have : a ∈ (hdrop s p T).live ↔ a ∈ s.live := by
          rw [hlive, List.mem_filter]
          exact ⟨fun q => q.1, fun m => ⟨m, by simp only [Bool.not_eq_true', decide_eq_false_iff_not]; rw [a2]; exact hq⟩⟩
         simp [this]
 · cases hf : findP s.live p with
   | none =>
     have : hdrop s p T = s := by unfold hdrop; rw [hf]
     rw [this] at hx; exact h.til q x hx
   | some e =>
     have ho : (hdrop s p T).out q = if q = p ∧ e.frm < T then s.out q ++ [⟨e.veh, e.frm, T⟩] else s.out q := by unfold hdrop; rw [hf]
     rw [ho] at hx
     split at hx
     · rcases List.mem_append.1 hx with m | m
       · exact h.til q x m
       · rw [List.mem_singleton] at m; subst m; exact Int.le_refl _
     · exact h.til q x hx
theorem HInv.raise {T0 T : Int} {l : List Plt} {s : HS} (h : HInv T0 l s) (hl : ∀ e, e ∈ liv l → e ∈ s.live) (hf : ∀ e ∈ l, e.frm ≤ T0) (hT : T0 ≤ T) : HInv T l s := by
 refine ⟨fun p t ht => ?_, fun p x hx => Int.le_trans (h.til p x hx) hT, h.sub, h.apart⟩
 by_cases h0 : t < T0
 · exact h.eq p t h0
 · have he : early l t = l := early_all (fun e he => by have := hf e he; omega)
   have h1 : expH l s.live p t = none := by
    unfold expH
    rw [he]
    cases hg : findP (liv l) p with
    | none => rfl
    | some a => simp [hl a (findP_some hg).1]
   rw [h1]
   unfold findH
   rw [Option.map_eq_none_iff, List.find?_eq_none]
   intro x hx
   have := h.til p x hx
   simp [inH]; omega
theorem hmid_live {s : HS} (h : s.live.Pairwise (fun p q => clashP p q = false)) (x : Plt) : (hmid s x).live = s.live.filter fun e => !decide (e.veh = x.veh) := by
 unfold hmid
 cases hf : findV s.live x.veh with
 | none =>
   symm
   rw [List.filter_eq_self]
   intro e he
   have := List.find?_eq_none.1 hf e he
   simpa using this
 | some e =>
   have h1 := List.find?_some hf
   have h2 := List.mem_of_find?_eq_some hf
   simp only [decide_eq_true_eq] at h1
   simp only
   rw [hdrop_live]
   refine List.filter_congr fun a ha => ?_
   congr 1
   rw [decide_eq_decide]
   constructor
   · intro q
     rw [apart_eq h ha h2 (by unfold clashP; simp [q])]; exact h1
   · intro q
     rw [apart_eq h ha h2 (by unfold clashP; simp [q, h1])]
theorem hstep_live {s : HS} (h : s.live.Pairwise (fun p q => clashP p q = false)) (x : Plt) : (hstep s x).live = s.live.filter (fun e => !clashP e x) ++ [x] := by
 show (hdrop (hmid s x) x.plt x.frm).live ++ [x] = _
 rw [hdrop_live, hmid_live h, List.filter_filter]
 congr 1
 refine List.filter_congr fun a ha => ?_
 unfold clashP
 rw [Bool.not_or, Bool.and_comm]
theorem hmid_inv {l : List Plt} {s : HS} {x : Plt} (h : HInv x.frm l s) (hs : srtP l) : HInv x.frm l (hmid s x) := by
 unfold hmid
 cases findV s.live x.veh with
 | none => exact h
 | some e => exact hdrop_inv h hs _
theorem hstep_inv {l : List Plt} {s : HS} {x : Plt} (h : HInv x.frm l s) (hl : s.live = liv l) (hs : srtP (l ++ [x])) : HInv x.frm (l ++ [x]) (hstep s x) ∧ (hstep s x).live = liv (l ++ [x]) := by
 unfold srtP at hs
 rw [List.pairwise_append] at hs
 have hlive : (hstep s x).live = liv (l ++ [x]) := by rw [hstep_live h.apart, liv_snoc, hl]
 have h2 := hdrop_inv (hmid_inv h hs.1) hs.1 x.plt
 refine ⟨⟨fun p t ht => ?_, h2.til, fun e he => by rwa [hlive] at he, by rw [hlive]; exact liv_apart _⟩, hlive⟩
 have := h2.eq p t ht
 show findH ((hdrop (hmid s x) x.plt x.frm).out p) t = _
 rw [this]
 unfold expH
 rw [early_snoc, if_neg (by omega)]
 cases hg : findP (liv (early l t)) p with
 | none => rfl
 | some a =>
   obtain ⟨a1, a2⟩ := findP_some hg
   have hat : a.frm ≤ t := by
    have := (List.mem_filter.1 (liv_mem a1)).2
    simpa using this
   have : a ∈ (hstep s x).live ↔ a ∈ (hdrop (hmid s x) x.plt x.frm).live := by
    show a ∈ (hdrop (hmid s x) x.plt x.frm).live ++ [x] ↔ _
    rw [List.mem_append, List.mem_singleton]
    exact ⟨fun q => q.resolve_right (by rintro rfl; omega), .inl⟩
   simp [this]
theorem hall_snoc (l : List Plt) (x : Plt) : hall (l ++ [x]) = hstep (hall l) x := by unfold hall; rw [List.foldl_append]; rfl
theorem hall_inv (l : List Plt) (hs : srtP l) : (hall l).live = liv l ∧ ∀ T, (∀ e ∈ l, e.frm ≤ T) → HInv T l (hall l) := by
 revert hs
 refine snoc_ind (P := fun l => srtP l → (hall l).live = liv l ∧ ∀ T, (∀ e ∈ l, e.frm ≤ T) → HInv T l (hall l)) ?_ ?_ l
 · intro _
   exact ⟨rfl, fun T _ => ⟨fun p t _ => rfl, fun p h hh => (List.not_mem_nil hh).elim, fun e he => (List.not_mem_nil he).elim, .nil⟩⟩
 · intro l x ih hs
   have hs' := hs
   unfold srtP at hs'
   rw [List.pairwise_append] at hs'
   obtain ⟨i1, i2⟩ := ih hs'.1
   have h1 := i2 x.frm (fun e he => hs'.2.2 e he x (by simp))
   have h2 := hstep_inv h1 i1 hs
   rw [hall_snoc]
   refine ⟨h2.2, fun T hT => ?_⟩
   have hx : x.frm ≤ T := hT x (by simp)
   refine h2.1.raise (fun e he => by rw [h2.2]; exact he) (fun e he => ?_) hx
   rcases List.mem_append.1 he with q | q
   · exact hs'.2.2 e q x (by simp)
   · rw [List.mem_singleton] at q; subst q; exact Int.le_refl _
theorem hdrops_inv {T : Int} {l : List Plt} (hs : srtP l) : ∀ (m : List Plt) (s : HS), HInv T l s → HInv T l (m.foldl (fun s x => hdrop s x.plt T) s) ∧
 ∀ e ∈ (m.foldl (fun s x => hdrop s x.plt T) s).live, e ∈ s.live ∧ ∀ x ∈ m, e.plt ≠ x.plt := by
 intro m
 induction m with
 | nil => intro s h; exact ⟨h, fun e he => ⟨he, fun x hx => by cases hx⟩⟩
 | cons y m ih =>
   intro s h
   obtain ⟨i1, i2⟩ := ih _ (hdrop_inv h hs y.plt)
   refine ⟨i1, fun e he => ?_⟩
   obtain ⟨j1, j2⟩ := i2 e he
   rw [hdrop_live, List.mem_filter] at j1
   refine ⟨j1.1, fun x hx => ?_⟩
   rcases List.mem_cons.1 hx with rfl | q
   · simpa using j1.2
   · exact j2 x q
theorem hend_eq {l : List Plt} (hs : srtP l) (hm : ∀ e ∈ l, e.frm < 5761440) {t : Int} (ht : t < 5761440) (p : List UInt8) :
 findH ((hend l).out p) t = (findP (liv (early l t)) p).map (·.veh) := by
 obtain ⟨h1, h2⟩ := hall_inv l hs
 have h3 := h2 5761440 (fun e he => by have := hm e he; omega)
 obtain ⟨h4, h5⟩ := hdrops_inv hs l _ h3
 have := h4.eq p t ht
 unfold hend
 rw [this]
 unfold expH
 cases hg : findP (liv (early l t)) p with
 | none => rfl
 | some a =>
   have hna : a ∉ (l.foldl (fun s x => hdrop s x.plt 5761440) (hall l)).live := fun hm' => by
    obtain ⟨j1, j2⟩ := h5 a hm'
    rw [h1] at j1
    exact j2 a (liv_mem j1) rfl
   simp [hna]
def oTHiA272_1 : List (Nat × List Nat) := [(0, []), (1, []), (3, [0, 1]), (4, [0, 1]), (8, [0, 1, 3, 4]), (9, [0, 1, 3, 4]), (2, [3, 4, 8, 9]), (5, [8, 9]), (6, [8, 9]), (7, [8, 9]), (10, []), (11, []), (12, []), (13, []), (14, []), (15, []), (16, []), (17, []), (18, []), (19, []), (20, []), (21, [])]
def oTHiA211_2 : List (Nat × List Nat) := [(0, []), (1, []), (5, [0, 1]), (6, [0, 1]), (2, [5, 6]), (3, [5, 6]), (4, [5, 6]), (7, []), (8, []), (9, []), (10, [])]
def oTHiA211_16 : List (Nat × List Nat) := [(0, []), (1, []), (2, [0, 1]), (3, []), (5, [0, 1, 2, 3]), (6, [0, 1, 2, 3, 5]), (7, [0, 1, 2, 3, 5]), (8, [0, 1, 2, 3, 5]), (9, [0, 1, 2, 3, 5]), (10, [0, 1, 2, 3]), (4, [5, 6, 7, 8, 9, 10]), (11, []), (12, []), (13, []), (14, [])]
def oTHiA211_17 : List (Nat × List Nat) := [(0, []), (1, []), (3, [0, 1]), (4, [0, 1]), (5, [0, 1]), (6, [0, 1, 3, 4, 5]), (7, [0, 1, 3, 4, 5]), (8, [0, 1, 3, 4, 5]), (9, [0, 1]), (2, [3, 4, 5, 6, 7, 8, 9]), (10, []), (11, []), (12, []), (13, [])]
def oTHiA164_1 : List (Nat × List Nat) := [(0, []), (1, []), (11, [0, 1]), (12, [0, 1]), (2, [11, 12]), (3, [11, 12]), (4, [11, 12]), (5, [11, 12]), (6, [11, 12]), (7, [11, 12]), (8, [11, 12]), (9, [11, 12]), (10, [11, 12]), (13, []), (14, []), (15, []), (16, [])]
def oTHiA94_6 : List (Nat × List Nat) := [(0, []), (2, [0]), (3, [0]), (1, [2, 3]), (4, []), (5, []), (6, []), (7, [5, 6]), (8, [5, 6, 7]), (9, [5, 6, 7]), (10, [5, 6, 7]), (11, [5, 6]), (12, [5, 6]), (13, [5, 6]), (14, []), (15, []), (16, []), (17, []), (18, []), (19, [])]
structure Rdg where
 tm : Int
 st : List UInt8
 meter : Int
 fuel : Int
def rgF : Rdg → List DV := fun r => [.int .i64 r.tm, .str r.st, .int .i64 r.meter, .int .i64 r.fuel]
structure Leg where
 veh : List UInt8
 out : Rdg
 inn : Rdg
def lgF : Leg → List DV := fun x => [.str x.veh, .int .i64 x.out.tm, .str x.out.st, .int .i64 x.out.meter, .int .i64 x.out.fuel, .int .i64 x.inn.tm, .str x.inn.st, .int .i64 x.inn.meter, .int .i64 x.inn.fuel]
def rg0 : Rdg := ⟨0, [], 0, 0⟩
def lg0 : Leg := ⟨[], rg0, rg0⟩
abbrev legs (l : List Leg) : DV := seqD 9 lgF lg0 l
structure Hir where
 key : List UInt8
 drv : List UInt8
 frm : Int
 to : Int
 legs : List Leg
def hiF : Hir → List DV := fun h => [.str h.key, .str h.drv, .int .i64 h.frm, .int .i64 h.to, Go.Proofs.YtcjfniddeibbhaaGreatDoor.legs h.legs]
def hi0 : Hir := ⟨[], [], 0, 0, []⟩
abbrev hirs (l : List Hir) : DV := seqD 5 hiF hi0 l
abbrev hcell (h : Hir) : Res := .cells 130 [.d (.str h.key), .d (.str h.drv), .d (.int .i64 h.frm), .d (.int .i64 h.to), .d (Go.Proofs.YtcjfniddeibbhaaGreatDoor.legs h.legs)]
def lgK (x : Leg) : Prop := x.veh.length ≤ 2^40 ∧ x.out.st.length ≤ 2^40 ∧ x.inn.st.length ≤ 2^40
def hiK (h : Hir) : Prop := h.key.length ≤ 2^40 ∧ h.drv.length ≤ 2^40 ∧ h.legs.length ≤ 2^40 ∧ ∀ x ∈ h.legs, lgK x
def hiOk (l : List Hir) : Prop := l.length ≤ 2^40 ∧ ∀ h ∈ l, hiK h
def rdgE (r : Rdg) : Int := if ¬ (0 ≤ r.tm ∧ r.tm ≤ 5761439) then 1 else if isKeyB r.st = false then 5 else if ¬ ((0 ≤ r.meter ∧ r.meter ≤ 999999) ∧ (0 ≤ r.fuel ∧ r.fuel ≤ 8)) then 1 else 0
def timE (a b : Int) : Int := if a < 0 ∨ b ≤ a ∨ 5761439 < b then 1 else if 172800 < b - a then 2 else 0
def legE (h : Hir) (i : Nat) : Int :=
 if isKeyB (h.legs.getD i lg0).veh = false then 5
 else if rdgE (h.legs.getD i lg0).out ≠ 0 then rdgE (h.legs.getD i lg0).out
 else if i = 0 ∧ (h.legs.getD i lg0).out.tm ≠ h.frm then 7
 else if 0 < i ∧ (h.legs.getD i lg0).out.tm ≠ (h.legs.getD (i - 1) lg0).inn.tm then 7
 else if 0 < i ∧ (h.legs.getD i lg0).veh = (h.legs.getD (i - 1) lg0).veh then 16
 else if 0 < i ∧ (h.legs.getD i lg0).out.st ≠ (h.legs.getD (i - 1) lg0).inn.st then 8
 else if (h.legs.getD i lg0).inn.tm = -1 then (if ¬ ((h.legs.getD i lg0).inn.st = [] ∧ (h.legs.getD i lg0).inn.meter = 0 ∧ (h.legs.getD i lg0).inn.fuel = 0) then 3 else if (i : Int) < (h.legs.length : Int) - 1 then 11 else 0)
 else if rdgE (h.legs.getD i lg0).inn ≠ 0 then rdgE (h.legs.getD i lg0).inn
 else if (h.legs.getD i lg0).inn.tm ≤ (h.legs.getD i lg0).out.tm then 7 else 0
def hirE (h : Hir) : Int :=
 if isKeyB h.key = false ∨ isKeyB h.drv = false then 5 else if timE h.frm h.to ≠ 0 then timE h.frm h.to
 else if h.legs.length = 0 then 3 else if 20 < h.legs.length then 2 else firstAt (legE h) h.legs.length
def hirsE1 (l : List Hir) (i : Nat) : Int := if hirE (l.getD i hi0) ≠ 0 then hirE (l.getD i hi0) else if 0 < i ∧ strLe (l.getD i hi0).key (l.getD (i - 1) hi0).key = true then 7 else 0
def hirsE (l : List Hir) : Int := if 500 < l.length then 2 else firstAt (hirsE1 l) l.length
theorem z220 (n : Int) : FSpec Tryz.prog 92 [.d (.int .i64 n)] [] (fun x o => x = .d (.int .i64 (if 0 ≤ n ∧ n ≤ 5761439 then 0 else 1)) ∧ o = []) := by
 refine spec_of hT (C := []) Tryz.func92 rfl Tryz.call92 rfl rfl rfl ?_
 conv => whnf
 repeat' (first | (refine CallX.exact (s154 _) rfl rfl ?_; rotate_right; conv => whnf) | (refine CallX.exact (s107 _ _) rfl rfl ?_; rotate_right; conv => whnf) | (refine br_intro ?_ ?_ <;> intro hb <;> (try simp only [brs] at hb) <;> conv => whnf) | omega | (refine And.intro ?_ ?_; ((try dsimp only); first | omega | (refine szA rfl ?_; omega) | (refine szB rfl ?_; omega) | (unfold inI64; omega) | exact rfl | (simp only [lns] at *; omega) | decide | (unfold inI64; decide)); conv => whnf) | decide | assumption)
 refine .ret _ ?_
 conv => whnf
 refine ⟨[], ⟨?_, rfl⟩, trivial⟩
 conv => lhs; whnf
 congr 2
 grind
theorem z284 (r : Rdg) (h : r.st.length ≤ 2^40) : FSpec Tryz.prog 209 [.agg ((rgF r).map .d)] [] (fun x o => x = .d (.int .i64 (rdgE r)) ∧ o = []) := by
 refine spec_of hT (C := []) Tryz.func209 rfl Tryz.call209 rfl rfl rfl ?_
 conv => whnf
 repeat' (first | (refine CallX.exact (s133 _) rfl rfl ?_; rotate_right; conv => whnf) | (refine CallX.exact (s21 _ h) rfl rfl ?_; rotate_right; conv => whnf) | (refine CallX.exact (s110 _ _ _) rfl rfl ?_; rotate_right; conv => whnf) | (refine br_intro ?_ ?_ <;> intro hb <;> (try simp only [brs] at hb) <;> conv => whnf) | omega | (refine And.intro ?_ ?_; ((try dsimp only); first | omega | (refine szA rfl ?_; omega) | (refine szB rfl ?_; omega) | (unfold inI64; omega) | exact rfl | (simp only [lns] at *; omega) | decide | (unfold inI64; decide)); conv => whnf) | decide | assumption)
 all_goals
  refine .ret _ ?_
  conv => whnf
  refine ⟨[], ⟨?_, rfl⟩, trivial⟩
  conv => lhs; whnf
  congr 2
  unfold rdgE; grind
theorem z312 (r : Rdg) (h : r.st.length ≤ 2^40) : FSpec Tryz.prog 272 [.agg ((rgF r).map .d)] [] (fun x o => x = .d (.int .i64 (rdgE r)) ∧ o = []) := by
 refine spec_of hT (C := []) Tryz.func272 rfl Tryz.call272 rfl rfl rfl ?_
 conv => whnf
 repeat' (first | (refine CallX.exact (z220 _) rfl rfl ?_; rotate_right; conv => whnf) | (refine CallX.exact (s108 _ h) rfl rfl ?_; rotate_right; conv => whnf) | (refine CallX.exact (s119 _ _ _) rfl rfl ?_; rotate_right; conv => whnf) | (refine CallX.exact (s107 _ _) rfl rfl ?_; rotate_right; conv => whnf) | (refine CallX.pure (s105 [_, _, _] (by simp)) ⟨SV.le_lit (by rfl) (by rfl), trivial⟩ rfl ?_; conv => whnf) | (refine br_intro ?_ ?_ <;> intro hb <;> (try simp only [brs] at hb) <;> conv => whnf) | (refine RegX.rule (id := 1) hT rfl [] oTHiA272_1 (by decide +kernel) ?_; conv => whnf) | omega | (refine And.intro ?_ ?_; ((try dsimp only); first | omega | (refine szA rfl ?_; omega) | (refine szB rfl ?_; omega) | (unfold inI64; omega) | exact rfl | (simp only [lns] at *; omega) | decide | (unfold inI64; decide)); conv => whnf) | decide | assumption)
 all_goals
  refine .ret _ ?_
  conv => whnf
  refine ⟨[], ⟨?_, rfl⟩, trivial⟩
  conv => lhs; whnf
  congr 2
  unfold rdgE; simp only [firstE]; grind
theorem z239 (a b : Int) : FSpec Tryz.prog 162 [.agg [.d (.int .i64 a), .d (.int .i64 b)]] [] (fun x o => x = .d (.int .i64 (timE a b)) ∧ o = []) := by
 refine spec_of hT (C := []) Tryz.func162 rfl Tryz.call162 rfl rfl rfl ?_
 conv => whnf
 repeat' (first | (refine br_intro ?_ ?_ <;> intro hb <;> (try simp only [brs] at hb) <;> conv => whnf) | omega | (refine And.intro ?_ ?_; ((try dsimp only); first | omega | (refine szA rfl ?_; omega) | (refine szB rfl ?_; omega) | (unfold inI64; omega) | exact rfl | (simp only [lns] at *; omega) | decide | (unfold inI64; decide)); conv => whnf) | decide | assumption)
 all_goals
  refine .ret _ ?_
  conv => whnf
  refine ⟨[], ⟨?_, rfl⟩, trivial⟩
  conv => lhs; whnf
  congr 2
  unfold timE; grind
def daysW (a b : Int) : Int := (b - a + 1440 - 1).tdiv 1440
theorem daysW_lt {a b : Int} (h : a < b) : 120 < daysW a b ↔ 172800 < b - a := by
 unfold daysW
 rw [Int.tdiv_eq_ediv_of_nonneg (by omega)]
 omega
theorem z311 (a b : Int) (h : 0 ≤ a ∧ a < b ∧ b ≤ 5761439) : FSpec Tryz.prog 271 [.agg [.d (.int .i64 a), .d (.int .i64 b)]] [] (fun x o => x = .d (.int .i64 (daysW a b)) ∧ o = []) := by
 obtain ⟨h1, h2, h3⟩ := h
 have hd : inI64 ((b - a + 1440 - 1).tdiv 1440) := by unfold inI64; rw [Int.tdiv_eq_ediv_of_nonneg (by omega)]; omega
 refine spec_of hT (C := []) Tryz.func271 rfl Tryz.call271 rfl rfl rfl ?_
 conv => whnf
 repeat' (first | (refine And.intro hd ?_; conv => whnf) | (refine br_intro ?_ ?_ <;> intro hb <;> (try simp only [brs] at hb) <;> conv => whnf) | omega | (refine And.intro ?_ ?_; ((try dsimp only); first | omega | (refine szA rfl ?_; omega) | (refine szB rfl ?_; omega) | (unfold inI64; omega) | exact rfl | (simp only [lns] at *; omega) | decide | (unfold inI64; decide)); conv => whnf) | decide | assumption)
 refine .ret _ ?_
 conv => whnf
 refine ⟨[], ⟨?_, rfl⟩, trivial⟩
 conv => lhs; whnf
 rfl
theorem z263 (a b : Int) : FSpec Tryz.prog 210 [.agg [.d (.int .i64 a), .d (.int .i64 b)]] [] (fun x o => x = .d (.int .i64 (timE a b)) ∧ o = []) := by
 have hd := daysW_lt (a := a) (b := b)
 refine spec_of hT (C := []) Tryz.func210 rfl Tryz.call210 rfl rfl rfl ?_
 conv => whnf
 repeat' (first | (refine CallX.exact (z311 a b ⟨by omega, by omega, by omega⟩) rfl rfl ?_; rotate_right; conv => whnf) | (refine CallX.exact (s107 _ _) rfl rfl ?_; rotate_right; conv => whnf) | (refine br_intro ?_ ?_ <;> intro hb <;> (try simp only [brs] at hb) <;> conv => whnf) | omega | (refine And.intro ?_ ?_; ((try dsimp only); first | omega | (refine szA rfl ?_; omega) | (refine szB rfl ?_; omega) | (unfold inI64; omega) | exact rfl | (simp only [lns] at *; omega) | decide | (unfold inI64; decide)); conv => whnf) | decide | assumption)
 all_goals
  refine .ret _ ?_
  conv => whnf
  refine ⟨[], ⟨?_, rfl⟩, trivial⟩
  conv => lhs; whnf
  congr 2
  unfold timE; grind
set_option maxHeartbeats 2000000 in
theorem z240 (h : Hir) (hk : hiK h) (i : Nat) (hi : i < h.legs.length) : FSpec Tryz.prog 163 [.agg ((hiF h).map .d), .d (.int .i64 i)] [] (fun x o => x = .d (.int .i64 (legE h i)) ∧ o = []) := by
 have e1 : (i : Int).toNat = i := Int.toNat_natCast i
 have hl := hk.2.2.1
 have hx : lgK (h.legs.getD (i : Int).toNat lg0) := hk.2.2.2 _ (getD_mem (by omega))
 refine spec_of hT (C := []) Tryz.func163 rfl Tryz.call163 rfl rfl rfl ?_
 conv => whnf
 repeat' (first | (refine CallX.exact (s21 _ hx.1) rfl rfl ?_; rotate_right; conv => whnf) | (refine CallX.exact (z284 (h.legs.getD (i : Int).toNat lg0).out hx.2.1) rfl rfl ?_; rotate_right; conv => whnf) | (refine CallX.exact (z284 (h.legs.getD (i : Int).toNat lg0).inn hx.2.2) rfl rfl ?_; rotate_right; conv => whnf) | (refine br_intro ?_ ?_ <;> intro hb <;> (try simp only [brs] at hb) <;> conv => whnf) | omega | (refine And.intro ?_ ?_; ((try dsimp only); first | omega | (refine szA rfl ?_; omega) | (refine szB rfl ?_; omega) | (unfold inI64; omega) | exact rfl | (simp only [lns] at *; omega) | decide | (unfold inI64; decide)); conv => whnf) | decide | assumption)
 all_goals
  refine .ret _ ?_
  conv => whnf
  refine ⟨[], ⟨?_, rfl⟩, trivial⟩
  conv => lhs; whnf
  congr 2
  clear hx hk
  simp only [e1, toNat_pred] at *
  unfold legE; grind
set_option maxHeartbeats 2000000 in
theorem z264 (h : Hir) (hk : hiK h) (i : Nat) (hi : i < h.legs.length) : FSpec Tryz.prog 211 [.agg ((hiF h).map .d), .d (.int .i64 i)] [] (fun x o => x = .d (.int .i64 (legE h i)) ∧ o = []) := by
 have e1 : (i : Int).toNat = i := Int.toNat_natCast i
 have hl := hk.2.2.1
 have hx : lgK (h.legs.getD (i : Int).toNat lg0) := hk.2.2.2 _ (getD_mem (by omega))
 refine spec_of hT (C := []) Tryz.func211 rfl Tryz.call211 rfl rfl rfl ?_
 conv => whnf
 repeat' (first | (refine CallX.exact (s108 _ hx.1) rfl rfl ?_; rotate_right; conv => whnf) | (refine CallX.exact (z312 (h.legs.getD (i : Int).toNat lg0).out hx.2.1) rfl rfl ?_; rotate_right; conv => whnf) | (refine CallX.exact (z312 (h.legs.getD (i : Int).toNat lg0).inn hx.2.2) rfl rfl ?_; rotate_right; conv => whnf) | (refine CallX.exact (s107 _ _) rfl rfl ?_; rotate_right; conv => whnf) | (refine CallX.pure (s105 [_, _] (by simp)) ⟨SV.le_lit (by rfl) (by rfl), trivial⟩ rfl ?_; conv => whnf) | (refine br_intro ?_ ?_ <;> intro hb <;> (try simp only [brs] at hb) <;> conv => whnf) | (refine RegX.rule (id := 2) hT rfl [] oTHiA211_2 (by decide +kernel) ?_; conv => whnf) | (refine RegX.rule (id := 16) hT rfl [] oTHiA211_16 (by decide +kernel) ?_; conv => whnf) | (refine RegX.rule (id := 17) hT rfl [] oTHiA211_17 (by decide +kernel) ?_; conv => whnf) | omega | (refine And.intro ?_ ?_; ((try dsimp only); first | omega | (refine szA rfl ?_; omega) | (refine szB rfl ?_; omega) | (unfold inI64; omega) | exact rfl | (simp only [lns] at *; omega) | decide | (unfold inI64; decide)); conv => whnf) | decide | assumption)
 all_goals
  refine .ret _ ?_
  conv => whnf
  refine ⟨[], ⟨?_, rfl⟩, trivial⟩
  conv => lhs; whnf
  congr 2
  clear hx hk
  simp only [e1, toNat_pred, firstE] at *
  unfold legE; grind
theorem hirE_bad {h : Hir} (q : isKeyB h.key = false ∨ isKeyB h.drv = false) : hirE h = 5 := by unfold hirE; rw [if_pos q]
theorem hirE_time {h : Hir} (q1 : isKeyB h.key = true) (q2 : isKeyB h.drv = true) (q : timE h.frm h.to ≠ 0) : hirE h = timE h.frm h.to := by
 unfold hirE; rw [if_neg (by rw [q1, q2]; simp), if_pos q]
theorem hirE_legs {h : Hir} (q1 : isKeyB h.key = true) (q2 : isKeyB h.drv = true) (q : timE h.frm h.to = 0) : hirE h = if h.legs.length = 0 then 3 else if 20 < h.legs.length then 2 else firstAt (legE h) h.legs.length := by
 unfold hirE; rw [if_neg (by rw [q1, q2]; simp), if_neg (by omega)]
set_option maxHeartbeats 2000000 in
theorem z183 (h : Hir) (hk : hiK h) : FSpec Tryz.prog 89 [.agg ((hiF h).map .d)] [] (fun x o => x = .d (.int .i64 (hirE h)) ∧ o = []) := by
 have c1 := s21 h.key hk.1
 have c2 := s21 h.drv hk.2.1
 have c3 := z239 h.frm h.to
 have hl := hk.2.2.1
 cases q1 : isKeyB h.key with
 | false =>
   rw [hirE_bad (.inl q1)]
   rw [q1] at c1
   refine spec_of hT (C := []) Tryz.func89 rfl Tryz.call89 rfl rfl rfl ?_
   conv => whnf
   repeat' (first | (refine CallX.exact (c1) rfl rfl ?_; rotate_right; conv => whnf) | (refine br_intro ?_ ?_ <;> intro hb <;> (try simp only [brs] at hb) <;> conv => whnf) | omega | (refine And.intro ?_ ?_; ((try dsimp only); first | omega | (refine szA rfl ?_; omega) | (refine szB rfl ?_; omega) | (unfold inI64; omega) | exact rfl | (simp only [lns] at *; omega) | decide | (unfold inI64; decide)); conv => whnf) | decide | assumption)
   refine .ret _ ?_
   conv => whnf
   refine ⟨[], ⟨?_, rfl⟩, trivial⟩
   conv => lhs; whnf
 | true =>
 rw [q1] at c1
 cases q2 : isKeyB h.drv with
 | false =>
   rw [hirE_bad (.inr q2)]
   rw [q2] at c2
   refine spec_of hT (C := []) Tryz.func89 rfl Tryz.call89 rfl rfl rfl ?_
   conv => whnf
   repeat' (first | (refine CallX.exact (c1) rfl rfl ?_; rotate_right; conv => whnf) | (refine CallX.exact (c2) rfl rfl ?_; rotate_right; conv => whnf) | (refine br_intro ?_ ?_ <;> intro hb <;> (try simp only [brs] at hb) <;> conv => whnf) | omega | (refine And.intro ?_ ?_; ((try dsimp only); first | omega | (refine szA rfl ?_; omega) | (refine szB rfl ?_; omega) | (unfold inI64; omega) | exact rfl | (simp only [lns] at *; omega) | decide | (unfold inI64; decide)); conv => whnf) | decide | assumption)
   refine .ret _ ?_
   conv => whnf
   refine ⟨[], ⟨?_, rfl⟩, trivial⟩
   conv => lhs; whnf
 | true =>
 rw [q2] at c2
 by_cases q3 : timE h.frm h.to = 0
 · have hE := hirE_legs q1 q2 q3
   rw [hE]
   clear hE
   rw [q3] at c3
   by_cases q4 : h.legs.length = 0
   · rw [if_pos q4]
     refine spec_of hT (C := []) Tryz.func89 rfl Tryz.call89 rfl rfl rfl ?_
     conv => whnf
     repeat' (first | (refine CallX.exact (c1) rfl rfl ?_; rotate_right; conv => whnf) | (refine CallX.exact (c2) rfl rfl ?_; rotate_right; conv => whnf) | (refine CallX.exact (c3) rfl rfl ?_; rotate_right; conv => whnf) | (refine br_intro ?_ ?_ <;> intro hb <;> (try simp only [brs] at hb) <;> conv => whnf) | omega | (refine And.intro ?_ ?_; ((try dsimp only); first | omega | (refine szA rfl ?_; omega) | (refine szB rfl ?_; omega) | (unfold inI64; omega) | exact rfl | (simp only [lns] at *; omega) | decide | (unfold inI64; decide)); conv => whnf) | decide | assumption)
     all_goals first
      | (exfalso; omega)
      | (refine .ret _ ?_
         conv => whnf
         refine ⟨[], ⟨?_, rfl⟩, trivial⟩
         conv => lhs; whnf
         all_goals rfl)
   by_cases q5 : 20 < h.legs.length
   · rw [if_neg q4, if_pos q5]
     refine spec_of hT (C := []) Tryz.func89 rfl Tryz.call89 rfl rfl rfl ?_
     conv => whnf
     repeat' (first | (refine CallX.exact (c1) rfl rfl ?_; rotate_right; conv => whnf) | (refine CallX.exact (c2) rfl rfl ?_; rotate_right; conv => whnf) | (refine CallX.exact (c3) rfl rfl ?_; rotate_right; conv => whnf) | (refine br_intro ?_ ?_ <;> intro hb <;> (try simp only [brs] at hb) <;> conv => whnf) | omega | (refine And.intro ?_ ?_; ((try dsimp only); first | omega | (refine szA rfl ?_; omega) | (refine szB rfl ?_; omega) | (unfold inI64; omega) | exact rfl | (simp only [lns] at *; omega) | decide | (unfold inI64; decide)); conv => whnf) | decide | assumption)
     all_goals first
      | (exfalso; omega)
      | (refine .ret _ ?_
         conv => whnf
         refine ⟨[], ⟨?_, rfl⟩, trivial⟩
         conv => lhs; whnf
         all_goals rfl)
   obtain ⟨F, hfin⟩ : ∃ F : Int, F = firstAt (legE h) h.legs.length := ⟨_, rfl⟩
   rw [if_neg q4, if_neg q5, ← hfin]
   refine spec_of hT (C := []) Tryz.func89 rfl Tryz.call89 rfl rfl rfl ?_
   conv => whnf
   repeat' (first | (refine CallX.exact (c1) rfl rfl ?_; rotate_right; conv => whnf) | (refine CallX.exact (c2) rfl rfl ?_; rotate_right; conv => whnf) | (refine CallX.exact (c3) rfl rfl ?_; rotate_right; conv => whnf) | (refine br_intro ?_ ?_ <;> intro hb <;> (try simp only [brs] at hb) <;> conv => whnf) | omega | (refine And.intro ?_ ?_; ((try dsimp only); first | omega | (refine szA rfl ?_; omega) | (refine szB rfl ?_; omega) | (unfold inI64; omega) | exact rfl | (simp only [lns] at *; omega) | decide | (unfold inI64; decide)); conv => whnf) | decide | assumption)
   all_goals first
    | (exfalso; omega)
    | skip
   refine LoopX.rule hT (C := []) (ι := Nat) (fun i => i ≤ h.legs.length ∧ ∀ j, j < i → legE h j = 0) (fun i => mkSt [(1, .ptr 1 0), (34, .d (.int .i64 h.legs.length)), (35, .d (.int .i64 i))] [(1, hcell h)]) (fun i => h.legs.length - i) 0 ⟨by omega, by omega⟩ (by (refine Entails.mk' [(1, 1)] rfl rfl ?_ ?_ <;> repeat' (first | exact True.intro | exact lr | exact rr | exact SV.le_int (by omega) | exact SV.le_any _ | refine And.intro ?_ ?_)); done) ?_
   rintro i ⟨p1, p2⟩
   have e1 : (i : Int).toNat = i := Int.toNat_natCast i
   conv => whnf
   repeat' (first | (refine CallX.pure (z240 h hk i (by omega)) ⟨lr, lr, trivial⟩ rfl ?_; conv => whnf) | (refine br_intro ?_ ?_ <;> intro hb <;> (try simp only [brs] at hb) <;> conv => whnf) | omega | (refine And.intro ?_ ?_; ((try dsimp only); first | omega | (refine szA rfl ?_; omega) | (refine szB rfl ?_; omega) | (unfold inI64; omega) | exact rfl | (simp only [lns] at *; omega) | decide | (unfold inI64; decide)); conv => whnf) | decide | assumption)
   · refine .ret _ ?_
     conv => whnf
     refine ⟨[], ⟨?_, rfl⟩, trivial⟩
     conv => lhs; whnf
     congr 2
     rw [hfin]
     exact (firstAt_eq (by omega) p2 (by simpa using hb) rfl).symm
   · exact ⟨i + 1, ⟨by omega, first_step p2 (by simpa using hb)⟩, by omega, (by (refine Entails.mk' [(1, 1)] rfl rfl ?_ ?_ <;> repeat' (first | exact True.intro | exact lr | exact rr | exact SV.le_int (by omega) | exact SV.le_any _ | refine And.intro ?_ ?_)); done)⟩
   · refine .ret _ ?_
     conv => whnf
     refine ⟨[], ⟨?_, rfl⟩, trivial⟩
     conv => lhs; whnf
     congr 2
     have : i = h.legs.length := by omega
     subst this
     rw [hfin, firstAt_zero p2]
 · rw [hirE_time q1 q2 q3]
   generalize timE h.frm h.to = E at c3 q3
   refine spec_of hT (C := []) Tryz.func89 rfl Tryz.call89 rfl rfl rfl ?_
   conv => whnf
   repeat' (first | (refine CallX.exact (c1) rfl rfl ?_; rotate_right; conv => whnf) | (refine CallX.exact (c2) rfl rfl ?_; rotate_right; conv => whnf) | (refine CallX.exact (c3) rfl rfl ?_; rotate_right; conv => whnf) | (refine br_intro ?_ ?_ <;> intro hb <;> (try simp only [brs] at hb) <;> conv => whnf) | omega | (refine And.intro ?_ ?_; ((try dsimp only); first | omega | (refine szA rfl ?_; omega) | (refine szB rfl ?_; omega) | (unfold inI64; omega) | exact rfl | (simp only [lns] at *; omega) | decide | (unfold inI64; decide)); conv => whnf) | decide | assumption)
   all_goals first
    | (exfalso; omega)
    | (refine .ret _ ?_
       conv => whnf
       refine ⟨[], ⟨?_, rfl⟩, trivial⟩
       conv => lhs; whnf
       all_goals rfl)
set_option maxHeartbeats 2000000 in
theorem z210 (h : Hir) (hk : hiK h) : FSpec Tryz.prog 164 [.agg ((hiF h).map .d)] [] (fun x o => x = .d (.int .i64 (hirE h)) ∧ o = []) := by
 have c1 := s108 h.key hk.1
 have c2 := s108 h.drv hk.2.1
 have c3 := z263 h.frm h.to
 have hl := hk.2.2.1
 have c5 := s105 [5, timE h.frm h.to] (by simp)
 rw [show firstE [5, timE h.frm h.to] = 5 from rfl] at c5
 have c6 := s105 [0, timE h.frm h.to] (by simp)
 rw [show firstE [0, timE h.frm h.to] = timE h.frm h.to from by simp only [firstE]; grind] at c6
 cases q1 : isKeyB h.key with
 | false =>
   rw [hirE_bad (.inl q1)]
   rw [q1] at c1
   generalize timE h.frm h.to = E at c3 c5 c6
   refine spec_of hT (C := []) Tryz.func164 rfl Tryz.call164 rfl rfl rfl ?_
   conv => whnf
   repeat' (first | (refine CallX.exact (c1) rfl rfl ?_; rotate_right; conv => whnf) | (refine CallX.exact (c3) rfl rfl ?_; rotate_right; conv => whnf) | (refine CallX.exact (s107 _ _) rfl rfl ?_; rotate_right; conv => whnf) | (refine CallX.pure c5 ⟨SV.le_lit (by rfl) (by rfl), trivial⟩ rfl ?_; conv => whnf) | (refine br_intro ?_ ?_ <;> intro hb <;> (try simp only [brs] at hb) <;> conv => whnf) | (refine RegX.rule (id := 1) hT rfl [] oTHiA164_1 (by decide +kernel) ?_; conv => whnf) | omega | (refine And.intro ?_ ?_; ((try dsimp only); first | omega | (refine szA rfl ?_; omega) | (refine szB rfl ?_; omega) | (unfold inI64; omega) | exact rfl | (simp only [lns] at *; omega) | decide | (unfold inI64; decide)); conv => whnf) | decide | assumption)
   refine .ret _ ?_
   conv => whnf
   refine ⟨[], ⟨?_, rfl⟩, trivial⟩
   conv => lhs; whnf
 | true =>
 rw [q1] at c1
 cases q2 : isKeyB h.drv with
 | false =>
   rw [hirE_bad (.inr q2)]
   rw [q2] at c2
   generalize timE h.frm h.to = E at c3 c5 c6
   refine spec_of hT (C := []) Tryz.func164 rfl Tryz.call164 rfl rfl rfl ?_
   conv => whnf
   repeat' (first | (refine CallX.exact (c1) rfl rfl ?_; rotate_right; conv => whnf) | (refine CallX.exact (c2) rfl rfl ?_; rotate_right; conv => whnf) | (refine CallX.exact (c3) rfl rfl ?_; rotate_right; conv => whnf) | (refine CallX.exact (s107 _ _) rfl rfl ?_; rotate_right; conv => whnf) | (refine CallX.pure c5 ⟨SV.le_lit (by rfl) (by rfl), trivial⟩ rfl ?_; conv => whnf) | (refine br_intro ?_ ?_ <;> intro hb <;> (try simp only [brs] at hb) <;> conv => whnf) | (refine RegX.rule (id := 1) hT rfl [] oTHiA164_1 (by decide +kernel) ?_; conv => whnf) | omega | (refine And.intro ?_ ?_; ((try dsimp only); first | omega | (refine szA rfl ?_; omega) | (refine szB rfl ?_; omega) | (unfold inI64; omega) | exact rfl | (simp only [lns] at *; omega) | decide | (unfold inI64; decide)); conv => whnf) | decide | assumption)
   refine .ret _ ?_
   conv => whnf
   refine ⟨[], ⟨?_, rfl⟩, trivial⟩
   conv => lhs; whnf
 | true =>
 rw [q2] at c2
 by_cases q3 : timE h.frm h.to = 0
 · have hE := hirE_legs q1 q2 q3
   rw [hE]
   clear hE
   rw [q3] at c3 c6
   by_cases q4 : h.legs.length = 0
   · rw [if_pos q4]
     refine spec_of hT (C := []) Tryz.func164 rfl Tryz.call164 rfl rfl rfl ?_
     conv => whnf
     repeat' (first | (refine CallX.exact (c1) rfl rfl ?_; rotate_right; conv => whnf) | (refine CallX.exact (c2) rfl rfl ?_; rotate_right; conv => whnf) | (refine CallX.exact (c3) rfl rfl ?_; rotate_right; conv => whnf) | (refine CallX.exact (s107 _ _) rfl rfl ?_; rotate_right; conv => whnf) | (refine CallX.pure c6 ⟨SV.le_lit (by rfl) (by rfl), trivial⟩ rfl ?_; conv => whnf) | (refine br_intro ?_ ?_ <;> intro hb <;> (try simp only [brs] at hb) <;> conv => whnf) | (refine RegX.rule (id := 1) hT rfl [] oTHiA164_1 (by decide +kernel) ?_; conv => whnf) | omega | (refine And.intro ?_ ?_; ((try dsimp only); first | omega | (refine szA rfl ?_; omega) | (refine szB rfl ?_; omega) | (unfold inI64; omega) | exact rfl | (simp only [lns] at *; omega) | decide | (unfold inI64; decide)); conv => whnf) | decide | assumption)
     all_goals first
      | (exfalso; omega)
      | (refine .ret _ ?_
         conv => whnf
         refine ⟨[], ⟨?_, rfl⟩, trivial⟩
         conv => lhs; whnf
         all_goals rfl)
   by_cases q5 : 20 < h.legs.length
   · rw [if_neg q4, if_pos q5]
     refine spec_of hT (C := []) Tryz.func164 rfl Tryz.call164 rfl rfl rfl ?_
     conv => whnf
     repeat' (first | (refine CallX.exact (c1) rfl rfl ?_; rotate_right; conv => whnf) | (refine CallX.exact (c2) rfl rfl ?_; rotate_right; conv => whnf) | (refine CallX.exact (c3) rfl rfl ?_; rotate_right; conv => whnf) | (refine CallX.exact (s107 _ _) rfl rfl ?_; rotate_right; conv => whnf) | (refine CallX.pure c6 ⟨SV.le_lit (by rfl) (by rfl), trivial⟩ rfl ?_; conv => whnf) | (refine br_intro ?_ ?_ <;> intro hb <;> (try simp only [brs] at hb) <;> conv => whnf) | (refine RegX.rule (id := 1) hT rfl [] oTHiA164_1 (by decide +kernel) ?_; conv => whnf) | omega | (refine And.intro ?_ ?_; ((try dsimp only); first | omega | (refine szA rfl ?_; omega) | (refine szB rfl ?_; omega) | (unfold inI64; omega) | exact rfl | (simp only [lns] at *; omega) | decide | (unfold inI64; decide)); conv => whnf) | decide | assumption)
     all_goals first
      | (exfalso; omega)
      | (refine .ret _ ?_
         conv => whnf
         refine ⟨[], ⟨?_, rfl⟩, trivial⟩
         conv => lhs; whnf
         all_goals rfl)
   obtain ⟨F, hfin⟩ : ∃ F : Int, F = firstAt (legE h) h.legs.length := ⟨_, rfl⟩
   rw [if_neg q4, if_neg q5, ← hfin]
   refine spec_of hT (C := []) Tryz.func164 rfl Tryz.call164 rfl rfl rfl ?_
   conv => whnf
   repeat' (first | (refine CallX.exact (c1) rfl rfl ?_; rotate_right; conv => whnf) | (refine CallX.exact (c2) rfl rfl ?_; rotate_right; conv => whnf) | (refine CallX.exact (c3) rfl rfl ?_; rotate_right; conv => whnf) | (refine CallX.exact (s107 _ _) rfl rfl ?_; rotate_right; conv => whnf) | (refine CallX.pure c6 ⟨SV.le_lit (by rfl) (by rfl), trivial⟩ rfl ?_; conv => whnf) | (refine br_intro ?_ ?_ <;> intro hb <;> (try simp only [brs] at hb) <;> conv => whnf) | (refine RegX.rule (id := 1) hT rfl [] oTHiA164_1 (by decide +kernel) ?_; conv => whnf) | omega | (refine And.intro ?_ ?_; ((try dsimp only); first | omega | (refine szA rfl ?_; omega) | (refine szB rfl ?_; omega) | (unfold inI64; omega) | exact rfl | (simp only [lns] at *; omega) | decide | (unfold inI64; decide)); conv => whnf) | decide | assumption)
   all_goals first
    | (exfalso; omega)
    | skip
   refine LoopX.rule hT (C := []) (ι := Nat) (fun i => i ≤ h.legs.length ∧ ∀ j, j < i → legE h j = 0) (fun i => mkSt [(1, .ptr 1 0), (37, .d (.int .i64 h.legs.length)), (38, .d (.int .i64 i))] [(1, hcell h)]) (fun i => h.legs.length - i) 0 ⟨by omega, by omega⟩ (by (refine Entails.mk' [(1, 1)] rfl rfl ?_ ?_ <;> repeat' (first | exact True.intro | exact lr | exact rr | exact SV.le_int (by omega) | exact SV.le_any _ | refine And.intro ?_ ?_)); done) ?_
   rintro i ⟨p1, p2⟩
   have e1 : (i : Int).toNat = i := Int.toNat_natCast i
   conv => whnf
   repeat' (first | (refine CallX.pure (z264 h hk i (by omega)) ⟨lr, lr, trivial⟩ rfl ?_; conv => whnf) | (refine br_intro ?_ ?_ <;> intro hb <;> (try simp only [brs] at hb) <;> conv => whnf) | (refine RegX.rule (id := 1) hT rfl [] oTHiA164_1 (by decide +kernel) ?_; conv => whnf) | omega | (refine And.intro ?_ ?_; ((try dsimp only); first | omega | (refine szA rfl ?_; omega) | (refine szB rfl ?_; omega) | (unfold inI64; omega) | exact rfl | (simp only [lns] at *; omega) | decide | (unfold inI64; decide)); conv => whnf) | decide | assumption)
   · refine .ret _ ?_
     conv => whnf
     refine ⟨[], ⟨?_, rfl⟩, trivial⟩
     conv => lhs; whnf
     congr 2
     rw [hfin]
     exact (firstAt_eq (by omega) p2 (by simpa using hb) rfl).symm
   · exact ⟨i + 1, ⟨by omega, first_step p2 (by simpa using hb)⟩, by omega, (by (refine Entails.mk' [(1, 1)] rfl rfl ?_ ?_ <;> repeat' (first | exact True.intro | exact lr | exact rr | exact SV.le_int (by omega) | exact SV.le_any _ | refine And.intro ?_ ?_)); done)⟩
   · refine .ret _ ?_
     conv => whnf
     refine ⟨[], ⟨?_, rfl⟩, trivial⟩
     conv => lhs; whnf
     congr 2
     have : i = h.legs.length := by omega
     subst this
     rw [hfin, firstAt_zero p2]
 · rw [hirE_time q1 q2 q3]
   generalize timE h.frm h.to = E at c3 q3 c5 c6
   refine spec_of hT (C := []) Tryz.func164 rfl Tryz.call164 rfl rfl rfl ?_
   conv => whnf
   repeat' (first | (refine CallX.exact (c1) rfl rfl ?_; rotate_right; conv => whnf) | (refine CallX.exact (c2) rfl rfl ?_; rotate_right; conv => whnf) | (refine CallX.exact (c3) rfl rfl ?_; rotate_right; conv => whnf) | (refine CallX.exact (s107 _ _) rfl rfl ?_; rotate_right; conv => whnf) | (refine CallX.pure c6 ⟨SV.le_lit (by rfl) (by rfl), trivial⟩ rfl ?_; conv => whnf) | (refine br_intro ?_ ?_ <;> intro hb <;> (try simp only [brs] at hb) <;> conv => whnf) | (refine RegX.rule (id := 1) hT rfl [] oTHiA164_1 (by decide +kernel) ?_; conv => whnf) | omega | (refine And.intro ?_ ?_; ((try dsimp only); first | omega | (refine szA rfl ?_; omega) | (refine szB rfl ?_; omega) | (unfold inI64; omega) | exact rfl | (simp only [lns] at *; omega) | decide | (unfold inI64; decide)); conv => whnf) | decide | assumption)
   all_goals first
    | (exfalso; omega)
    | (refine .ret _ ?_
       conv => whnf
       refine ⟨[], ⟨?_, rfl⟩, trivial⟩
       conv => lhs; whnf
       all_goals rfl)
set_option maxHeartbeats 2000000 in
theorem z124 (l : List Hir) (hk : hiOk l) : FSpec Tryz.prog 94 [.d (hirs l)] [] (fun x r => x = .d (.int .i64 (hirsE l)) ∧ r = []) := by
 refine spec_of hT (C := []) Tryz.func94 rfl Tryz.call94 rfl rfl rfl ?_
 conv => whnf
 refine br_intro (fun h0 => ?_) (fun h0 => ?_)
 · simp at h0
   conv => whnf
   refine .ret _ ?_
   conv => whnf
   refine ⟨[], ⟨?_, rfl⟩, trivial⟩
   conv => lhs; whnf
   unfold hirsE; rw [if_pos (by omega)]
 simp at h0
 conv => whnf
 refine LoopX.rule hT (C := []) (ι := Nat) (fun i => i ≤ l.length ∧ ∀ j, j < i → hirsE1 l j = 0) (fun i => mkSt [(0, .d (hirs l)), (9, .d (hirs l)), (10, .d (.int .i64 l.length)), (11, .d (.int .i64 i))] []) (fun i => l.length - i) 0 ⟨by omega, by omega⟩ (by (refine Entails.mk' [] rfl rfl ?_ ?_ <;> repeat' (first | exact True.intro | exact lr | exact rr | exact SV.le_int (by omega) | exact SV.le_any _ | refine And.intro ?_ ?_)); done) ?_
 rintro i ⟨p1, p2⟩
 have hx : (i : Int) < l.length → hiK (l.getD (i : Int).toNat hi0) := fun hi => hk.2 _ (getD_mem (by omega))
 have e1 : (i : Int).toNat = i := Int.toNat_natCast i
 have em : (max ((i : Int) - 1) 0).toNat = i - 1 := by omega
 have hbad : ∀ e : Int, i < l.length → e ≠ 0 → hirsE1 l i = e → hirsE l = e := fun e h h1 h2 => by
  unfold hirsE; rw [if_neg (by omega)]
  exact firstAt_eq h p2 h1 h2
 conv => whnf
 repeat' (first | (refine And.intro (show 0 ≤ max ((i : Int) - 1) 0 ∧ max ((i : Int) - 1) 0 < (l.length : Int) from by omega) ?_; conv => whnf) | (refine CallX.pure (z210 (l.getD (i : Int).toNat hi0) (hx (by omega))) ⟨lr, trivial⟩ rfl ?_; conv => whnf) | (refine CallX.exact (s107 _ _) rfl rfl ?_; rotate_right; conv => whnf) | (refine CallX.pure (s105 [_, _] (by simp)) ⟨SV.le_lit (by rfl) (by rfl), trivial⟩ rfl ?_; conv => whnf) | (refine br_intro ?_ ?_ <;> intro hb <;> (try simp only [brs] at hb) <;> conv => whnf) | (refine RegX.rule (id := 6) hT rfl [] oTHiA94_6 (by decide +kernel) ?_; conv => whnf) | omega | (refine And.intro ?_ ?_; ((try dsimp only); first | omega | (refine szA rfl ?_; omega) | (refine szB rfl ?_; omega) | (unfold inI64; omega) | exact rfl | (simp only [lns] at *; omega) | decide | (unfold inI64; decide)); conv => whnf) | decide | assumption)
 all_goals first
  | (refine ⟨i + 1, ⟨by omega, first_step p2 (by clear p2 hbad hk hx; simp only [e1, em, cond_true, firstE] at *; unfold hirsE1 strLe; grind)⟩, by omega, (by (refine Entails.mk' [] rfl rfl ?_ ?_ <;> repeat' (first | exact True.intro | exact lr | exact rr | exact SV.le_int (by omega) | exact SV.le_any _ | refine And.intro ?_ ?_)); done)⟩)
  | (refine .ret _ ?_
     conv => whnf
     refine ⟨[], ⟨?_, rfl⟩, trivial⟩
     conv => lhs; whnf
     congr 2
     first
      | exact (hbad _ (by omega) (by clear p2 hbad hk hx; simp only [e1, em, cond_true, firstE] at *; grind) (by clear p2 hbad hk hx; simp only [e1, em, cond_true, firstE] at *; unfold hirsE1 strLe; grind)).symm
      | (have : i = l.length := by omega
         subst this
         unfold hirsE; rw [if_neg (by omega), firstAt_zero p2]))
theorem SV.le_agg {l m : List SV} (h : argsLe0 l m) : SV.le (.agg l) (.agg m) := by
 obtain ⟨h1, h2⟩ := argsLe0_get h
 intro G β v hv
 cases hv with | agg _ vs hl hd =>
 refine .agg _ _ (hl.trans h1) (fun i y v hy hv => ?_)
 have hi : i < l.length := by rw [h1]; exact (List.getElem?_eq_some_iff.1 hy).1
 exact h2 i _ y (List.getElem?_eq_getElem hi) hy G β v (hd i _ v (List.getElem?_eq_getElem hi) hv)
def cellsLe : List SV → List SV → Prop
 | [], [] => True
 | x :: l, y :: m => SV.le x y ∧ cellsLe l m
 | _, _ => False
theorem cellsLe_get : ∀ {l m : List SV}, cellsLe l m → l.length = m.length ∧ ∀ (i : Nat) x y, l[i]? = some x → m[i]? = some y → SV.le x y := by
 intro l
 induction l with
 | nil =>
   intro m h
   cases m with
   | nil => exact ⟨rfl, by simp⟩
   | cons y m => exact h.elim
 | cons x l ih =>
   intro m h
   cases m with
   | nil => exact h.elim
   | cons y m =>
     obtain ⟨h1, h2⟩ := h
     obtain ⟨i1, i2⟩ := ih h2
     refine ⟨by simp [i1], fun i a b ha hb => ?_⟩
     cases i with
     | zero => simp at ha hb; subst ha; subst hb; exact h1
     | succ i => exact i2 i a b (by simpa using ha) (by simpa using hb)
theorem Res.le_cellsL {e : TypeId} {l m : List SV} (h : cellsLe l m) : Res.le (.cells e l) (.cells e m) :=
 Res.le_cells (cellsLe_get h).1 (cellsLe_get h).2
theorem getD_app_lt {α : Type} {l m : List α} {i : Nat} {z : α} (h : i < l.length) : (l ++ m).getD i z = l.getD i z := by
 rw [List.getD_eq_getElem?_getD, List.getD_eq_getElem?_getD, List.getElem?_append_left h]
end Go.Proofs.YtcjfniddeibbhaaGreatDoor
