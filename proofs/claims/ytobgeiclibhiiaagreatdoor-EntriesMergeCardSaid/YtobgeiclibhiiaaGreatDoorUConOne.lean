/- EntriesMerge is proved: for every input the law returns true, and its argument reads afterwards as it read before. Conditions: those of the given row alone. -/
import Derived.Shelf.LaysM
import Derived.Shelf.Strconv.Itoa3
import Derived.Test.YtobgeiclibhiiaaGreatDoorProg
import Derived.Test.YtobgeiclibhiiaaGreatDoorUEngTwo
import Derived.Below
import Derived.Lib.SplitLaws
import Derived.Shelf.Strings.SlTrimAscii
import Derived.Shelf.Spec.SlicesGrow
import Derived.Shelf.Small.Strs
set_option linter.unusedVariables false
set_option linter.unusedSimpArgs false
namespace Go.Proofs
open Go.Shelf
def Tryz.laysM171_ren : Go.Shelf.Ren := ⟨fun | 171 => 67 | 243 => 110 | 246 => 141 | 283 => 161 | 284 => 162 | 285 => 163 | 286 => 164 | 129 => 139 | 317 => 176 | 318 => 177 | 319 => 178 | 320 => 179 | 337 => 185 | 338 => 186 | n => n, fun | 3 => 3 | 9 => 9 | 2 => 2 | 4 => 4 | 171 => 183 | 0 => 0 | 53 => 164 | 37 => 185 | 5 => 5 | 173 => 186 | 212 => 201 | 51 => 162 | 20 => 20 | 213 => 202 | 46 => 121 | 232 => 209 | 233 => 210 | n => n, fun | 17 => 1 | 18 => 2 | 19 => 3 | n => n⟩
theorem Tryz.laysM171 : Go.Proofs.LaysM.n171 Tryz.prog Tryz.laysM171_ren := {
 mixed := by kernel_rfl
 f129 := Tryz.func139.trans (congrArg some (by kernel_rfl))
 f171 := Tryz.func67.trans (congrArg some (by kernel_rfl))
 f243 := Tryz.func110.trans (congrArg some (by kernel_rfl))
 f246 := Tryz.func141.trans (congrArg some (by kernel_rfl))
 f283 := Tryz.func161.trans (congrArg some (by kernel_rfl))
 f284 := Tryz.func162.trans (congrArg some (by kernel_rfl))
 f285 := Tryz.func163.trans (congrArg some (by kernel_rfl))
 f286 := Tryz.func164.trans (congrArg some (by kernel_rfl))
 f317 := Tryz.func176.trans (congrArg some (by kernel_rfl))
 f318 := Tryz.func177.trans (congrArg some (by kernel_rfl))
 f319 := Tryz.func178.trans (congrArg some (by kernel_rfl))
 f320 := Tryz.func179.trans (congrArg some (by kernel_rfl))
 f337 := Tryz.func185.trans (congrArg some (by kernel_rfl))
 f338 := Tryz.func186.trans (congrArg some (by kernel_rfl))
 t0 := Tryz.underlying0
 a0 := Tryz.isAgg0
 z0 := Tryz.sizeOf0
 v0 := Tryz.zeroValue0
 t2 := Tryz.underlying2
 a2 := Tryz.isAgg2
 z2 := Tryz.sizeOf2
 v2 := Tryz.zeroValue2
 t3 := Tryz.underlying3
 a3 := Tryz.isAgg3
 z3 := Tryz.sizeOf3
 v3 := Tryz.zeroValue3
 t4 := Tryz.underlying4
 a4 := Tryz.isAgg4
 z4 := Tryz.sizeOf4
 v4 := Tryz.zeroValue4
 t5 := Tryz.underlying5
 a5 := Tryz.isAgg5
 z5 := Tryz.sizeOf5
 v5 := Tryz.zeroValue5
 t9 := Tryz.underlying9
 a9 := Tryz.isAgg9
 z9 := Tryz.sizeOf9
 v9 := Tryz.zeroValue9
 t20 := Tryz.underlying20
 a20 := Tryz.isAgg20
 z20 := Tryz.sizeOf20
 v20 := Tryz.zeroValue20
 t37 := Tryz.underlying185
 a37 := Tryz.isAgg185
 z37 := Tryz.sizeOf185
 v37 := Tryz.zeroValue185
 t46 := Tryz.underlying121
 a46 := Tryz.isAgg121
 z46 := Tryz.sizeOf121
 v46 := Tryz.zeroValue121
 t51 := Tryz.underlying162
 a51 := Tryz.isAgg162
 z51 := Tryz.sizeOf162
 v51 := Tryz.zeroValue162
 t53 := Tryz.underlying164
 a53 := Tryz.isAgg164
 z53 := Tryz.sizeOf164
 v53 := Tryz.zeroValue164
 t171 := Tryz.underlying183
 a171 := Tryz.isAgg183
 z171 := Tryz.sizeOf183
 v171 := Tryz.zeroValue183
 t173 := Tryz.underlying186
 a173 := Tryz.isAgg186
 z173 := Tryz.sizeOf186
 v173 := Tryz.zeroValue186
 t212 := Tryz.underlying201
 a212 := Tryz.isAgg201
 z212 := Tryz.sizeOf201
 v212 := Tryz.zeroValue201
 t213 := Tryz.underlying202
 a213 := Tryz.isAgg202
 z213 := Tryz.sizeOf202
 t232 := Tryz.underlying209
 a232 := Tryz.isAgg209
 z232 := Tryz.sizeOf209
 v232 := Tryz.zeroValue209
 t233 := Tryz.underlying210
 a233 := Tryz.isAgg210
 z233 := Tryz.sizeOf210
 v233 := Tryz.zeroValue210
 g17 := by kernel_rfl
 g18 := by kernel_rfl
 g19 := by kernel_rfl
 i0 := by kernel_rfl
 i2 := by kernel_rfl
 i3 := by kernel_rfl
 i4 := by kernel_rfl
 i5 := by kernel_rfl
 i9 := by kernel_rfl
 i20 := by kernel_rfl
 i37 := by kernel_rfl
 i46 := by kernel_rfl
 i51 := by kernel_rfl
 i53 := by kernel_rfl
 i171 := by kernel_rfl
 i173 := by kernel_rfl
 i212 := by kernel_rfl
 i232 := by kernel_rfl
 i233 := by kernel_rfl
 m17 := by kernel_rfl
 m18 := by kernel_rfl
 m19 := by kernel_rfl }
end Go.Proofs
set_option maxRecDepth 20000
namespace Go.Proofs.YtobgeiclibhiiaaGreatDoor
open Go Go.Eng
def oUCoA12_4 : List (Nat × List Nat) := [(0, []), (1, []), (2, []), (3, []), (4, []), (5, [0, 1, 2, 3, 4]), (6, [0, 1, 2, 3, 4]), (7, [0, 1, 2, 3, 4]), (8, [0, 1, 2, 3, 4]), (9, [0, 1, 2, 3, 4]), (10, []), (11, [])]
def oUCoA12_5 : List (Nat × List Nat) := [(0, []), (1, []), (2, []), (3, []), (4, []), (5, [0, 1, 2, 3, 4]), (6, [0, 1, 2, 3, 4]), (7, [0, 1, 2, 3, 4]), (8, [0, 1, 2, 3, 4]), (9, [0, 1, 2, 3, 4]), (10, []), (11, [])]
def eqTab : List Nat := [48, 76]
theorem eqTab_ok : eqTab.all (eqFits Tryz.prog) = true := by decide +kernel
noncomputable def T : Tab := tiOf Tryz.prog (mem eqTab)
theorem hT : TabOk Tryz.prog T := ⟨mem eqTab, fun _ _ h => h, fun t ht => List.all_eq_true.1 eqTab_ok t ((mem_iff _ _).1 ht)⟩
abbrev i64 (n : Int) : DV := .int .i64 n
def strm (n : Nat) (L : Nat → Int) (at' : Int) : Res := .cells 25 [.d (.ro 1 n fun i => [.int .i64 (L i)]), .d (.int .i64 at')]
def Rok (n : Nat) (L : Nat → Int) : Prop := n ≤ maxLen ∧ ∀ i, -2^63 ≤ L i ∧ L i < 2^63
theorem s148 (x n : Int) (hn : n ≤ 2^40) : FSpec Tryz.prog 32 [.d (.int .i64 x), .d (.int .i64 n)] [] (fun y r => (∃ m : Int, 0 ≤ m ∧ (1 ≤ n → m < n) ∧ (n < 1 → m = 0) ∧ y = .d (.int .i64 m)) ∧ r = []) := by
 refine spec_of hT (C := []) Tryz.func32 rfl Tryz.call32 rfl rfl rfl ?_
 conv => whnf
 refine br_intro (fun h => ?_) (fun h => ?_)
 · conv => whnf
   refine .ret _ ?_
   conv => whnf
   refine ⟨[], ⟨⟨_, ?_, ?_, ?_, rfl⟩, rfl⟩, trivial⟩
   all_goals (simp at h; omega)
 · conv => whnf
   refine ⟨?_, ?_⟩
   · simp at h; omega
   conv => whnf
   simp at h
   have h1 := Int.tmod_lt_of_pos x (b := n) (by omega)
   have h2 := Int.lt_tmod_of_pos x (b := n) (by omega)
   refine br_intro (fun h2 => ?_) (fun h2 => ?_)
   · conv => whnf
     simp at h2
     refine ⟨?_, ?_⟩
     · unfold inI64; omega
     · conv => whnf
       refine .ret _ ?_
       conv => whnf
       refine ⟨[], ⟨⟨_, ?_, ?_, ?_, rfl⟩, rfl⟩, trivial⟩
       all_goals omega
   · conv => whnf
     simp at h2
     refine .ret _ ?_
     conv => whnf
     refine ⟨[], ⟨⟨_, ?_, ?_, ?_, rfl⟩, rfl⟩, trivial⟩
     all_goals omega
theorem nextB {a n : Int} (h0 : 0 ≤ a) (hn : 1 ≤ n) : 0 ≤ a.tdiv n ∧ a.tdiv n ≤ a ∧ 0 ≤ a.tmod n ∧ a.tmod n < n ∧ 0 ≤ a.tdiv n * a.tmod n ∧ a.tdiv n * a.tmod n ≤ a ∧ a.tmod n ≤ a := by
 have h1 : 0 ≤ a.tdiv n := Int.tdiv_nonneg h0 (by omega)
 have h2 : 0 ≤ a.tmod n := Int.tmod_nonneg _ h0
 have h3 : a.tmod n < n := Int.tmod_lt_of_pos _ (by omega)
 have h4 := Int.tmod_add_mul_tdiv a n
 have h5 : a.tdiv n * 1 ≤ a.tdiv n * n := Int.mul_le_mul_of_nonneg_left hn h1
 have h6 : a.tdiv n * a.tmod n ≤ a.tdiv n * n := Int.mul_le_mul_of_nonneg_left (by omega) h1
 have h7 : 0 ≤ a.tdiv n * a.tmod n := Int.mul_nonneg h1 h2
 rw [Int.mul_comm] at h4
 have h8 : 0 ≤ a.tdiv n * n := Int.mul_nonneg h1 (by omega)
 refine ⟨h1, ?_, h2, h3, h7, ?_, ?_⟩ <;> omega
theorem s86 (n : Nat) (L : Nat → Int) (hL : Rok n L) (a : Int) (h0 : 0 ≤ a) (ha : a ≤ 2^40) (m : Int) (hm : m ≤ 2^40) :
 FSpec Tryz.prog 12 [.ptr 1000000 0, .d (.int .i64 m)] [(1000000, strm n L a)] (fun y r => (∃ j : Int, 0 ≤ j ∧ (1 ≤ m → j < m) ∧ (m < 1 → j = 0) ∧ y = .d (.int .i64 j)) ∧ r = [(1000000, strm n L (a + 1))]) := by
 refine spec_of hT (C := []) Tryz.func12 rfl Tryz.call12 rfl rfl rfl ?_
 conv => whnf
 refine ⟨by unfold inI64; omega, ?_⟩
 conv => whnf
 refine br_intro (fun h => ?_) (fun h => ?_)
 · conv => whnf
   refine ⟨by unfold inI64; omega, ?_⟩
   conv => whnf
   refine CallX.of (s148 _ _ hm) [] rfl ⟨lr, lr, trivial⟩ trivial rfl rfl ?_
   rintro x rout ⟨⟨j, j1, j2, j3, rfl⟩, rfl⟩
   refine ⟨rfl, ?_⟩
   conv => whnf
   refine .ret _ ?_
   conv => whnf
   exact ⟨[(1000000, strm n L (a + 1))], ⟨⟨_, j1, j2, j3, rfl⟩, rfl⟩, rr, trivial⟩
 · conv => whnf
   simp at h
   have hnp : (1:Int) ≤ n := by omega
   refine RegX.rule hT rfl [] oUCoA12_4 (by decide +kernel) ?_
   conv => whnf
   refine ⟨by unfold inI64; omega, ?_⟩
   conv => whnf
   refine ⟨by omega, ?_⟩
   conv => whnf
   have ea : a + 1 - 1 = a := by omega
   obtain ⟨b1, b2, b3, b4, b5, b6, b7⟩ := nextB h0 hnp
   refine RegX.rule hT rfl [] oUCoA12_5 (by decide +kernel) ?_
   conv => whnf
   refine ⟨by unfold inI64; omega, ?_⟩
   conv => whnf
   refine ⟨by omega, ?_⟩
   conv => whnf
   refine ⟨by unfold inI64; rw [ea]; omega, ?_⟩
   conv => whnf
   rw [ea]
   refine ⟨⟨b3, b4⟩, ?_⟩
   conv => whnf
   refine CallX.of (s148 _ _ (by omega)) [] rfl ⟨lr, lr, trivial⟩ trivial rfl rfl ?_
   rintro x rout ⟨⟨j, j1, j2, j3, rfl⟩, rfl⟩
   refine ⟨rfl, ?_⟩
   conv => whnf
   refine ⟨by unfold inI64; omega, ?_⟩
   conv => whnf
   have e2 : a.tdiv n * (7919 + a.tmod n) = 7919 * a.tdiv n + a.tdiv n * a.tmod n := by rw [Int.mul_add, Int.mul_comm _ 7919]
   rw [e2]
   refine ⟨by unfold inI64; omega, ?_⟩
   conv => whnf
   refine ⟨by unfold inI64; omega, ?_⟩
   conv => whnf
   refine CallX.of (s148 _ _ hm) [] rfl ⟨lr, lr, trivial⟩ trivial rfl rfl ?_
   rintro x rout ⟨⟨j, k1, k2, k3, rfl⟩, rfl⟩
   refine ⟨rfl, ?_⟩
   conv => whnf
   refine .ret _ ?_
   conv => whnf
   exact ⟨[(1000000, strm n L (a + 1))], ⟨⟨_, k1, k2, k3, rfl⟩, rfl⟩, rr, trivial⟩
def Moved (n : Nat) (L : Nat → Int) (a : Int) (c : Int) (r : List (Nat × Res)) : Prop := ∃ b, a ≤ b ∧ b ≤ a + c ∧ r = [(1000000, strm n L b)]
theorem s64 (n : Nat) (L : Nat → Int) (hL : Rok n L) (a : Int) (h0 : 0 ≤ a) (ha : a ≤ 2^40) (lo hi : Int) (h1 : -2^41 ≤ lo) (h2 : hi ≤ lo + 2^40 - 1) (h3 : lo ≤ 2^41) (h4 : lo ≤ hi) :
 FSpec Tryz.prog 6 [.ptr 1000000 0, .d (.int .i64 lo), .d (.int .i64 hi)] [(1000000, strm n L a)] (fun y r => (∃ j : Int, lo ≤ j ∧ j ≤ hi ∧ y = .d (.int .i64 j)) ∧ Moved n L a 1 r) := by
 refine spec_of hT (C := []) Tryz.func6 rfl Tryz.call6 rfl rfl rfl ?_
 conv => whnf
 refine br_intro (fun h => ?_) (fun h => ?_)
 · simp at h; omega
 conv => whnf
 refine ⟨by unfold inI64; omega, ?_⟩
 conv => whnf
 refine ⟨by unfold inI64; omega, ?_⟩
 conv => whnf
 refine CallX.of (s86 n L hL a h0 ha _ (by omega)) [(1000000, 1000000)] rfl ⟨lr, lr, trivial⟩ ⟨rr, trivial⟩ rfl rfl ?_
 rintro x rout ⟨⟨j, k1, k2, k3, rfl⟩, rfl⟩
 refine ⟨rfl, ?_⟩
 conv => whnf
 refine ⟨by unfold inI64; omega, ?_⟩
 conv => whnf
 refine .ret _ ?_
 conv => whnf
 exact ⟨[(1000000, strm n L (a + 1))], ⟨⟨_, by omega, by omega, rfl⟩, a + 1, by omega, by omega, rfl⟩, rr, trivial⟩
theorem s84 (n : Nat) (L : Nat → Int) (hL : Rok n L) (a : Int) (h0 : 0 ≤ a) (ha : a ≤ 2^40) (m : Int) (hm : m ≤ 2^40) :
 FSpec Tryz.prog 10 [.ptr 1000000 0, .d (.int .i64 m)] [(1000000, strm n L a)] (fun y r => (∃ b : Bool, y = .d (.bool b)) ∧ Moved n L a 1 r) := by
 refine spec_of hT (C := []) Tryz.func10 rfl Tryz.call10 rfl rfl rfl ?_
 conv => whnf
 refine CallX.of (s86 n L hL a h0 ha _ (by omega)) [(1000000, 1000000)] rfl ⟨lr, lr, trivial⟩ ⟨rr, trivial⟩ rfl rfl ?_
 rintro x rout ⟨⟨j, k1, k2, k3, rfl⟩, rfl⟩
 refine ⟨rfl, ?_⟩
 conv => whnf
 refine .ret _ ?_
 conv => whnf
 exact ⟨[(1000000, strm n L (a + 1))], ⟨⟨_, rfl⟩, a + 1, by omega, by omega, rfl⟩, rr, trivial⟩
theorem s33 (n : Nat) (L : Nat → Int) (hL : Rok n L) (a : Int) (h0 : 0 ≤ a) (ha : a ≤ 2^40) (l : List Int) (hl : 1 ≤ l.length) (hl2 : l.length ≤ 2^40) :
 FSpec Tryz.prog 26 [.ptr 1000000 0, .d (ints l)] [(1000000, strm n L a)] (fun y r => (∃ x ∈ l, y = .d (.int .i64 x)) ∧ Moved n L a 1 r) := by
 refine spec_of hT (C := []) Tryz.func26 rfl Tryz.call26 rfl rfl rfl ?_
 conv => whnf
 refine CallX.of (s86 n L hL a h0 ha l.length (by omega)) [(1000000, 1000000)] rfl ⟨lr, lr, trivial⟩ ⟨rr, trivial⟩ rfl rfl ?_
 rintro x rout ⟨⟨j, k1, k2, k3, rfl⟩, rfl⟩
 refine ⟨rfl, ?_⟩
 conv => whnf
 refine ⟨⟨k1, by omega⟩, ?_⟩
 conv => whnf
 refine .ret _ ?_
 conv => whnf
 exact ⟨[(1000000, strm n L (a + 1))], ⟨⟨_, getD_mem (by omega), rfl⟩, a + 1, by omega, by omega, rfl⟩, rr, trivial⟩
theorem s15 (n : Nat) (L : Nat → Int) (hL : Rok n L) (a : Int) (h0 : 0 ≤ a) (ha : a ≤ 2^40) (l : List (List UInt8)) (hl : 1 ≤ l.length) (hl2 : l.length ≤ 2^40) :
 FSpec Tryz.prog 7 [.ptr 1000000 0, .d (strs l)] [(1000000, strm n L a)] (fun y r => (∃ x ∈ l, y = .d (.str x)) ∧ Moved n L a 1 r) := by
 refine spec_of hT (C := []) Tryz.func7 rfl Tryz.call7 rfl rfl rfl ?_
 conv => whnf
 refine CallX.of (s86 n L hL a h0 ha l.length (by omega)) [(1000000, 1000000)] rfl ⟨lr, lr, trivial⟩ ⟨rr, trivial⟩ rfl rfl ?_
 rintro x rout ⟨⟨j, k1, k2, k3, rfl⟩, rfl⟩
 refine ⟨rfl, ?_⟩
 conv => whnf
 refine ⟨⟨k1, by omega⟩, ?_⟩
 conv => whnf
 refine .ret _ ?_
 conv => whnf
 exact ⟨[(1000000, strm n L (a + 1))], ⟨⟨_, getD_mem (by omega), rfl⟩, a + 1, by omega, by omega, rfl⟩, rr, trivial⟩
theorem Moved.trans {n : Nat} {L : Nat → Int} {a c : Int} {r : List (Nat × Res)} {b d : Int} (h1 : a ≤ b) (h2 : b + d ≤ a + c) (h : Moved n L b d r) : Moved n L a c r := by
 obtain ⟨e, q1, q2, rfl⟩ := h
 exact ⟨e, by omega, by omega, rfl⟩
theorem s104 (n : Nat) (L : Nat → Int) (hL : Rok n L) (a : Int) (h0 : 0 ≤ a) (ha : a ≤ 2^39) (lo hi : Int) (h1 : -2^38 ≤ lo) (h2 : lo ≤ hi) (h3 : hi ≤ 2^39) :
 FSpec Tryz.prog 28 [.ptr 1000000 0, .d (.int .i64 lo), .d (.int .i64 hi)] [(1000000, strm n L a)] (fun y r => (∃ j : Int, -2^40 ≤ j ∧ j ≤ 2^40 ∧ y = .d (.int .i64 j)) ∧ Moved n L a 2 r) := by
 refine spec_of hT (C := []) Tryz.func28 rfl Tryz.call28 rfl rfl rfl ?_
 conv => whnf
 refine CallX.of (s84 n L hL a h0 (by omega) 12 (by omega)) [(1000000, 1000000)] rfl ⟨lr, lr, trivial⟩ ⟨rr, trivial⟩ rfl rfl ?_
 rintro x rout ⟨⟨f, rfl⟩, ⟨b, b1, b2, rfl⟩⟩
 refine ⟨rfl, ?_⟩
 conv => whnf
 refine br_intro (fun hf => ?_) (fun hf => ?_)
 · conv => whnf
   refine ⟨by unfold inI64; omega, ?_⟩
   conv => whnf
   refine ⟨by unfold inI64; omega, ?_⟩
   conv => whnf
   refine CallX.of (s33 n L hL b (by omega) (by omega) [lo - 1, hi + 1, lo, hi, -1099511627776, 1099511627776] (by simp) (by simp)) [(1000000, 1000000)] rfl ⟨lr, SV.le_lit (by rfl) (by rfl), trivial⟩ ⟨rr, trivial⟩ rfl rfl ?_
   rintro x rout ⟨⟨j, hj, rfl⟩, ⟨c, c1, c2, rfl⟩⟩
   refine ⟨rfl, ?_⟩
   conv => whnf
   refine .ret _ ?_
   conv => whnf
   exact ⟨[(1000000, strm n L c)], ⟨⟨j, by simp at hj; omega, by simp at hj; omega, rfl⟩, c, by omega, by omega, rfl⟩, rr, trivial⟩
 · conv => whnf
   refine CallX.of (s64 n L hL b (by omega) (by omega) lo hi (by omega) (by omega) (by omega) h2) [(1000000, 1000000)] rfl ⟨lr, lr, lr, trivial⟩ ⟨rr, trivial⟩ rfl rfl ?_
   rintro x rout ⟨⟨j, j1, j2, rfl⟩, ⟨c, c1, c2, rfl⟩⟩
   refine ⟨rfl, ?_⟩
   conv => whnf
   refine .ret _ ?_
   conv => whnf
   exact ⟨[(1000000, strm n L c)], ⟨⟨j, by omega, by omega, rfl⟩, c, by omega, by omega, rfl⟩, rr, trivial⟩
end Go.Proofs.YtobgeiclibhiiaaGreatDoor
namespace Go.Eng
open Go
theorem RowIn.fro {G G' : Hp} {w : World} {e k n : Nat} {v : Value} {get : Nat → List DV} (h : RowIn G w e k v n get) (hle : G.le G') (hg : ∀ b o, blk v = some b → w.heap[b]? = some o → G' b = some o) : DV.Den G' (.ro k n get) v := by
 obtain ⟨xs, hown, hlen, hden⟩ := h
 rcases hown.2 with ⟨rfl, rfl⟩ | ⟨g, cap, cur, rfl, _, hh, hnc, hcm, hcs, htake⟩
 · exact .ronil _ _
 · refine .ro k n get _ cap (fun i j => xs.getD (i * k + j) Go.undef) rfl hnc hcm hlen ?_ ?_
   · intro i j x hi hx
     obtain ⟨u, hu, _⟩ := hden i j x hi hx
     have hlt : i * k + j < n * k := by
      have := (List.getElem?_eq_some_iff.1 hx).1
      rw [hlen i hi] at this
      calc i * k + j < i * k + k := by omega
       _ = (i + 1) * k := by rw [Nat.add_mul, Nat.one_mul]
       _ ≤ n * k := Nat.mul_le_mul_right _ hi
     refine ⟨cur, e, (0, 0), ?_, ?_, ?_⟩
     · rw [Addr.add_block]; exact hg g _ rfl hh
     · exact Addr.add_spot _ rfl _
     · rw [Addr.add_lit]
       simp only [Nat.zero_add]
       rw [← htake, List.getElem?_take_of_lt hlt] at hu
       rw [← Array.getElem?_toList, hu]
       rw [← htake, List.getD_eq_getElem?_getD, List.getElem?_take_of_lt hlt, hu]
       rfl
   · intro i j x hi hx
     obtain ⟨u, hu, hdu⟩ := hden i j x hi hx
     simp only [List.getD_eq_getElem?_getD, hu, Option.getD_some]
     exact hdu.mono hle
end Go.Eng
namespace Go.Eng
open Go
theorem ro_of_own {G : Hp} {w : World} {e k n : Nat} {get : Nat → List DV} {v : Value} {xs : List Value} (hown : w.ownsRow 0 e k v n xs) (hlen : ∀ i, i < n → (get i).length = k)
 (hden : ∀ i j x, i < n → (get i)[j]? = some x → ∃ u, xs[i * k + j]? = some u ∧ DV.Den G x u) (hgn : ∀ b, blk v = some b → G b = none) :
 ∃ G', G.le G' ∧ (∀ b o, G' b = some o → G b = some o ∨ (blk v = some b ∧ w.heap[b]? = some o)) ∧ DV.Den G' (.ro k n get) v := by
 rcases hown.2 with ⟨rfl, rfl⟩ | ⟨g, cap, cur, rfl, _, hg, hnc, hcm, hcs, htake⟩
 · exact ⟨G, Hp.le_refl G, fun b o e => .inl e, .ronil _ _⟩
 · have hle : G.le (G.add g (.cells cur e (0, 0))) := Hp.le_add (hgn g rfl)
   refine ⟨_, hle, ?_, ?_⟩
   · intro b o hb
     unfold Hp.add at hb
     split at hb
     · rename_i q; subst q; cases hb; exact .inr ⟨rfl, hg⟩
     · exact .inl hb
   · refine .ro k n get _ cap (fun i j => xs.getD (i * k + j) Go.undef) rfl hnc hcm hlen ?_ ?_
     · intro i j x hi hx
       obtain ⟨u, hu, _⟩ := hden i j x hi hx
       have hlt : i * k + j < n * k := by
        have := (List.getElem?_eq_some_iff.1 hx).1
        rw [hlen i hi] at this
        calc i * k + j < i * k + k := by omega
         _ = (i + 1) * k := by rw [Nat.add_mul, Nat.one_mul]
         _ ≤ n * k := Nat.mul_le_mul_right _ hi
       refine ⟨cur, e, (0, 0), ?_, ?_, ?_⟩
       · rw [Addr.add_block]; simp [Hp.add]
       · exact Addr.add_spot _ rfl _
       · rw [Addr.add_lit]
         simp only [Nat.zero_add]
         rw [← htake, List.getElem?_take_of_lt hlt] at hu
         rw [← Array.getElem?_toList, hu]
         rw [← htake, List.getD_eq_getElem?_getD, List.getElem?_take_of_lt hlt, hu]
         rfl
     · intro i j x hi hx
       obtain ⟨u, hu, hd⟩ := hden i j x hi hx
       rw [List.getD_eq_getElem?_getD, hu]
       exact hd.mono hle
def DV.flat : DV → Bool
 | .bool _ | .int .. | .str _ | .nilsl => true
 | _ => false
theorem DV.Den.flat {G G' : Hp} {x : DV} {v : Value} (h : DV.Den G x v) (hf : x.flat = true) : DV.Den G' x v := by
 cases h <;> first | (constructor; done) | (cases hf)
def SV.flat1 (d : Nat) : SV → Bool
 | .d x => x.flat
 | .buf c => !(Nat.beq c d)
 | _ => false
def SV.flat (d : Nat) : SV → Bool
 | .agg l => l.all (SV.flat1 d)
 | .tup l => l.all (SV.flat1 d)
 | x => SV.flat1 d x
theorem SV.Den.flat1 {G G' : Hp} {β β' : Env} {d : Nat} (hb : ∀ c, c ≠ d → β' c = β c) {x : SV} {v : Value} (h : SV.Den G β x v) (hf : SV.flat1 d x = true) : SV.Den G' β' x v := by
 cases h with
 | d x v hx => exact .d _ _ (hx.flat hf)
 | buf c v hv h1 =>
   refine .buf _ _ ?_ h1
   rw [hb c (by rintro rfl; simp [SV.flat1] at hf)]; exact hv
 | _ => cases hf
theorem SV.Den.flat {G G' : Hp} {β β' : Env} {d : Nat} (hb : ∀ c, c ≠ d → β' c = β c) {x : SV} {v : Value} (h : SV.Den G β x v) (hf : SV.flat d x = true) : SV.Den G' β' x v := by
 cases h with
 | agg l vs hl h =>
   refine .agg _ _ hl (fun i x v hx hv => (h i x v hx hv).flat1 hb ?_)
   exact List.all_eq_true.1 hf x (List.mem_of_getElem? hx)
 | tup l vs hl h =>
   refine .tup _ _ hl (fun i x v hx hv => (h i x v hx hv).flat1 hb ?_)
   exact List.all_eq_true.1 hf x (List.mem_of_getElem? hx)
 | d x v hx => exact (SV.Den.d (β := β) x v hx).flat1 (d := d) hb hf
 | buf c v hv h1 => exact (SV.Den.buf (G := G) c v hv h1).flat1 hb hf
 | _ => cases hf
def SV.nod1 (d : Nat) : SV → Bool
 | .d _ => true
 | .buf c => !(Nat.beq c d)
 | _ => false
def SV.nod (d : Nat) : SV → Bool
 | .agg l => l.all (SV.nod1 d)
 | x => SV.nod1 d x
theorem SV.Den.nod1 {G : Hp} {β β' : Env} {d : Nat} (hb : ∀ c, c ≠ d → β' c = β c) {x : SV} {v : Value} (h : SV.Den G β x v) (hf : SV.nod1 d x = true) : SV.Den G β' x v := by
 cases h with
 | d x v hx => exact .d _ _ hx
 | buf c v hv h1 =>
   refine .buf _ _ ?_ h1
   rw [hb c (by rintro rfl; simp [SV.nod1] at hf)]; exact hv
 | _ => cases hf
theorem SV.Den.nod {G : Hp} {β β' : Env} {d : Nat} (hb : ∀ c, c ≠ d → β' c = β c) {x : SV} {v : Value} (h : SV.Den G β x v) (hf : SV.nod d x = true) : SV.Den G β' x v := by
 cases h with
 | agg l vs hl h =>
   refine .agg _ _ hl (fun i x v hx hv => (h i x v hx hv).nod1 hb ?_)
   exact List.all_eq_true.1 hf x (List.mem_of_getElem? hx)
 | d x v hx => exact (SV.Den.d (β := β) x v hx).nod1 (d := d) hb hf
 | buf c v hv h1 => exact (SV.Den.buf (G := G) c v hv h1).nod1 hb hf
 | _ => cases hf
def Res.isBuf : Res → Prop
 | .buf .. => True
 | _ => False
def Res.flat : Res → Prop
 | .buf _ _ n g => ∀ i, i < n → (g i).all DV.flat = true
 | _ => False
theorem ResOk.flat {G G' : Hp} {β β' : Env} {w : World} {c : Nat} {r : Res} (hb : β' c = β c) (h : ResOk G β w c r) (hf : r.flat) : ResOk G' β' w c r := by
 cases r with
 | buf e k n g =>
   obtain ⟨v, xs, h1, h2, h3, h4, h5⟩ := h
   refine ⟨v, xs, hb.trans h1, h2, h3, h4, fun i j x hi hx => ?_⟩
   obtain ⟨u, hu, hd⟩ := h5 i j x hi hx
   exact ⟨u, hu, hd.flat (List.all_eq_true.1 (hf i hi) x (List.mem_of_getElem? hx))⟩
 | _ => exact hf.elim
theorem FSpec.lend {P : Program} {f : FuncId} {args : List SV} {rin : List (Nat × Res)} {post : SV → List (Nat × Res) → Prop} (d e kk n : Nat) (g : Nat → List DV)
 (h : FSpec P f (args.map (frz d kk n g)) rin post) (hd : lookL rin d = none) (hrin : ∀ c r, lookL rin c = some r → r.isBuf) (hn : (args.map (frz d kk n g)).all (SV.nod d) = true)
 (hf : ∀ x r, post x r → x.flat d = true ∧ (∀ c q, lookL r c = some q → q.flat) ∧ lookL r d = none) :
 FSpec P f args ((d, .buf e kk n g) :: rin) (fun x r => ∃ r0, post x r0 ∧ r = (d, .buf e kk n g) :: r0) := by
 refine ⟨h.enter, fun G β w vs hpre hvl hvd => ?_⟩
 have hR : ∀ (l : List (Nat × Res)) c, lookL ((d, Res.buf e kk n g) :: l) c = if c = d then some (.buf e kk n g) else lookL l c := by
  intro l c
  simp only [lookL]
  by_cases q : c = d
  · subst q; simp
  · rw [nbeq_ne q]; simp [q]
 have hdd : lookL ((d, Res.buf e kk n g) :: rin) d = some (.buf e kk n g) := by rw [hR]; simp
 have hne : ∀ {c r}, lookL rin c = some r → c ≠ d := by rintro c r q rfl; rw [hd] at q; cases q
 have hin : ∀ {c r}, lookL rin c = some r → lookL ((d, Res.buf e kk n g) :: rin) c = some r := by
  intro c r q; rw [hR, if_neg (hne q)]; exact q
 have hrd := hpre.rs d _ hdd
 obtain ⟨v, xs, hv, hown, hk, hlen, hden⟩ := hrd
 obtain ⟨G2, hle2, hg2, hro⟩ := ro_of_own (G := G) hown hlen hden (fun b hb => hpre.og d _ v b hdd rfl hv (.of hb))
 let β0 : Env := fun c => if c = d then none else β c
 have hb0 : ∀ c, c ≠ d → β0 c = β c := fun c q => by simp [β0, q]
 have hle0 : β0.le β := by
  intro c u hu
  by_cases q : c = d
  · subst q; simp [β0] at hu
  · rw [hb0 c q] at hu; exact hu
 have hpre2 : Pre G2 β0 w (lookL rin) := by
  refine ⟨fun b o q => ?_, fun c r q => ?_, fun c c' r r' v v' b e1 e2 o1 o2 f1 f2 b1 b2 => ?_, fun c r u b q o1 f1 b1 => ?_, fun c u q => ?_⟩
  · rcases hg2 b o q with p | p
    · exact hpre.gw b o p
    · exact p.2
  · have := hpre.rs c r (hin q)
    have k1 := this.keep (w' := w) hle2 (Env.le_refl β) (fun _ _ _ _ _ => rfl)
    have hc := hne q
    cases r with
    | buf e' k' n' g' => obtain ⟨v', xs', q1, q2⟩ := k1; exact ⟨v', xs', (hb0 c hc).trans q1, q2⟩
    | _ => exact (hrin c _ q).elim
  · exact hpre.dj c c' r r' v v' b (hin e1) (hin e2) o1 o2 (hle0 _ _ f1) (hle0 _ _ f2) b1 b2
  · have h1 := hpre.og c r u b (hin q) o1 (hle0 _ _ f1) b1
    cases hg : G2 b with
    | none => rfl
    | some o =>
      rcases hg2 b o hg with p | p
      · rw [h1] at p; cases p
      · exact absurd (hpre.dj c d r _ u v b (hin q) hdd o1 rfl (hle0 _ _ f1) hv b1 (.of p.1)) (hne q)
  · have hc : c ≠ d := by rintro rfl; simp [β0] at q
    obtain ⟨r, hr⟩ := hpre.sc c u (hle0 _ _ q)
    rw [hR, if_neg hc] at hr
    exact ⟨r, hr⟩
 have hcall := h.calls G2 β0 w vs hpre2 (by simpa using hvl) (fun i y u hy hu => by
  have hall := List.all_eq_true.1 hn y (List.mem_of_getElem? hy)
  rw [List.getElem?_map] at hy
  cases hx : args[i]? with
  | none => rw [hx] at hy; cases hy
  | some x =>
    rw [hx] at hy
    simp only [Option.map_some, Option.some.injEq] at hy
    subst hy
    exact (frz_den ⟨v, hv, hro⟩ ((hvd i x u hx hu).mono hle2 (Env.le_refl β))).nod hb0 hall)
 have hsub : ∀ b, Tin w β0 (lookL rin) b → Tin w β (lookL ((d, Res.buf e kk n g) :: rin)) b := by
  rintro b ⟨c, r, u, e1, o1, f1, b1⟩
  exact ⟨c, r, u, hin e1, o1, hle0 _ _ f1, b1⟩
 have hnT : ∀ b, blk v = some b → ¬ Tin w β0 (lookL rin) b := by
  rintro b hb ⟨c, r, u, e1, o1, f1, b1⟩
  exact hne e1 (hpre.dj c d r _ u v b (hin e1) hdd o1 rfl (hle0 _ _ f1) hv b1 (.of hb))
 have hlt : ∀ b, blk v = some b → b < w.heap.size := fun b hb => (hpre.rs d _ hdd).lt rfl hv (.of hb)
 refine hcall.mono ?_
 rintro ex w' ⟨u, x, rout, G', β', he, hpost, ho, hx⟩
 obtain ⟨f1, f2, f3⟩ := hf x rout hpost
 let β'' : Env := fun c => if c = d then β d else β' c
 have hb2 : ∀ c, c ≠ d → β'' c = β' c := fun c q => by simp [β'', q]
 have hbd : β'' d = β d := by simp [β'']
 have hne' : ∀ {c r}, lookL ((d, Res.buf e kk n g) :: rout) c = some r → c ≠ d → lookL rout c = some r := by
  intro c r q hc; rw [hR, if_neg hc] at q; exact q
 have hrd' : ∀ {r}, lookL ((d, Res.buf e kk n g) :: rout) d = some r → r = .buf e kk n g := by
  intro r q; rw [hR, if_pos rfl] at q; cases q; rfl
 have hele : β.le β'' := by
  intro c u hu
  by_cases q : c = d
  · subst q; rw [hbd]; exact hu
  · rw [hb2 c q]; exact ho.ele c u (by rw [hb0 c q]; exact hu)
 refine ⟨u, x, (d, .buf e kk n g) :: rout, G, β'', he, ⟨rout, hpost, rfl⟩, ⟨Hp.le_refl G, hele, fun b o q => ho.gw b o (ho.gle b o (hle2 b o q)), fun b o q => .inl q, ?_, fun c r q => ?_, ?_, ?_⟩, hx.flat hb2 f1⟩
 · exact ⟨ho.keep.os, ho.keep.tape, ho.keep.output, ho.keep.size, fun b q1 q2 => ho.keep.block b q1 (fun q3 => q2 (hsub b q3))⟩
 · by_cases hc : c = d
   · subst hc
     rw [hrd' q]
     exact (hpre.rs c _ hdd).keep (Hp.le_refl G) hele (fun _ u b hu hb => by
      rw [hv] at hu; cases hu
      have hb := hb.plain rfl
      exact ho.keep.block b (hlt b hb) (hnT b hb))
   · exact (ho.rs c r (hne' q hc)).flat (hb2 c hc) (f2 c r (hne' q hc))
 · intro c c' r r' u u' b e1 e2 o1 o2 g1 g2 b1 b2
   have key : ∀ {c r u}, c ≠ d → lookL rout c = some r → r.own = true → β'' c = some u → Blks w' r u b → ∀ {r' u'}, lookL ((d, Res.buf e kk n g) :: rout) d = some r' → β'' d = some u' → Blks w' r' u' b → False := by
    intro c r u hc e1 o1 g1 b1 r' u' e2 g2 b2
    rw [hbd, hv] at g2; cases g2
    have := hrd' e2; subst this
    have b2 := b2.plain rfl
    rw [hb2 c hc] at g1
    rcases (ho.og c r u b e1 o1 g1 b1).2 with q | q
    · exact hnT b b2 q
    · exact absurd (hlt b b2) (by omega)
   by_cases hc : c = d
   · by_cases hc' : c' = d
     · rw [hc, hc']
     · exact (key hc' (hne' e2 hc') o2 g2 b2 (hc ▸ e1) (hc ▸ g1) b1).elim
   · by_cases hc' : c' = d
     · exact (key hc (hne' e1 hc) o1 g1 b1 (hc' ▸ e2) (hc' ▸ g2) b2).elim
     · exact ho.dj c c' r r' u u' b (hne' e1 hc) (hne' e2 hc') o1 o2 (by rw [← hb2 c hc]; exact g1) (by rw [← hb2 c' hc']; exact g2) b1 b2
 · intro c r u b e1 o1 g1 b1
   by_cases hc : c = d
   · subst hc
     have := hrd' e1; subst this
     rw [hbd] at g1
     exact ⟨hpre.og c _ u b hdd rfl g1 (.of (b1.plain rfl)), .inl ⟨c, _, u, hdd, rfl, g1, .of (b1.plain rfl)⟩⟩
   · obtain ⟨q1, q2⟩ := ho.og c r u b (hne' e1 hc) o1 (by rw [← hb2 c hc]; exact g1) b1
     refine ⟨?_, q2.imp (hsub b) id⟩
     cases hg : G b with
     | none => rfl
     | some o => rw [ho.gle b o (hle2 b o hg)] at q1; cases q1
end Go.Eng
namespace Go.Eng
open Go
end Go.Eng
namespace Go.Eng
open Go Go.RowKit
theorem know_look {Q : Hp → Prop} (d : Nat) (r : Res) (hd : lookL [((1000009 : Nat), Res.know Q)] d = some r) : d = 1000009 ∧ r = .know Q := by
 simp only [lookL] at hd
 cases hq : Nat.beq d 1000009 with
 | false => rw [hq] at hd; cases hd
 | true => rw [hq] at hd; cases hd; exact ⟨Nat.eq_of_beq_eq_true hq, rfl⟩
theorem FSpec.ofKnow {P : Program} {f : FuncId} {args : List SV} {y : SV} {Q : Hp → Prop} (henter : ∀ args w, (callFunc f args).run P w = .ok (.enter f args) w)
 (h : ∀ (G : Hp) (β : Env) (w : World) (vs : List Value), Q G → (∀ b o, G b = some o → w.heap[b]? = some o) → vs.length = args.length → (∀ (i : Nat) x v, args[i]? = some x → vs[i]? = some v → SV.Den G β x v) →
   ∃ u, (∀ G β, SV.Den G β y u) ∧ Calls P f vs.toArray w fun e w' => e = .returned u ∧ Below w.heap.size w w') : FSpec P f args [(1000009, .know Q)] (fun x r => x = y ∧ r = [(1000009, .know Q)]) := by
 refine ⟨henter, fun G β w vs hpre hl hd => ?_⟩
 have hR : lookL [((1000009 : Nat), Res.know Q)] 1000009 = some (.know Q) := by simp [lookL]
 have hq : ResOk G β w 1000009 (.know Q) := hpre.rs _ _ hR
 obtain ⟨u, hu, hc⟩ := h G β w vs (hq.2 G (Hp.le_refl G)) hpre.gw hl hd
 refine hc.mono ?_
 rintro e w' ⟨rfl, hb⟩
 refine ⟨u, y, _, G, β, rfl, ⟨rfl, rfl⟩, ⟨Hp.le_refl G, Env.le_refl β, fun b o hg => ?_, fun b o hg => .inl hg, ⟨hb.os, hb.tape, hb.output, hb.size, fun b hlt _ => hb.block b hlt⟩, fun d r hd => ?_, fun d d' r r' v v' b h1 h2 o1 => ?_, fun d r v b h1 o1 => ?_⟩, hu G β⟩
 · have := hpre.gw b o hg
   have hlt : b < w.heap.size := (Array.getElem?_eq_some_iff.1 this).1
   rw [hb.block b hlt]; exact this
 · obtain ⟨rfl, rfl⟩ := know_look d r hd
   exact ⟨hq.1, hq.2⟩
 · obtain ⟨_, rfl⟩ := know_look d r h1; cases o1
 · obtain ⟨_, rfl⟩ := know_look d r h1; cases o1
theorem FSpec.atStart {P : Program} {f : FuncId} {args : List SV} {post : SV → Prop} {Q : Hp → Prop} (h : FSpec P f args [(1000009, .know Q)] (fun x r => post x ∧ r = [(1000009, .know Q)])) (W : World) (hQ : ∀ G, (Hp.le (fun b => W.heap[b]?) G) → Q G) :
 Pre (fun b => W.heap[b]?) (fun d => if d = 1000009 then some (.bool true) else none) W (lookL [((1000009 : Nat), Res.know Q)]) := by
 refine ⟨fun _ _ e => e, fun d r hd => ?_, fun d d' r r' v v' b h1 h2 o1 => ?_, fun d r v b h1 o1 => ?_, fun d v hd => ?_⟩
 · obtain ⟨rfl, rfl⟩ := know_look d r hd
   exact ⟨⟨_, if_pos rfl⟩, hQ⟩
 · obtain ⟨_, rfl⟩ := know_look d r h1; cases o1
 · obtain ⟨_, rfl⟩ := know_look d r h1; cases o1
 · by_cases q : d = 1000009
   · subst q; exact ⟨_, rfl⟩
   · rw [if_neg q] at hd; cases hd
end Go.Eng
namespace Go.Eng
open Go Go.RowKit
def facts (F : World → Prop) : Hp → Prop := fun G => ∀ w : World, (∀ (b : Nat) (o : Obj), G b = some o → w.heap[b]? = some o) → F w
theorem facts_start {F : World → Prop} {W : World} (h : ∀ w : World, (∀ (b : Nat) (o : Obj), W.heap[b]? = some o → w.heap[b]? = some o) → F w) (G : Hp) (hG : Hp.le (fun b => W.heap[b]?) G) : facts F G :=
 fun w hw => h w (fun b o e => hw b o (hG b o e))
mutual
theorem okN_more : ∀ x : SV, SV.okN [] x = true → SV.okN [((1000009 : Nat), (1000009 : Nat))] x = true
 | .any, _ => rfl
 | .bad, _ => rfl
 | .undef, _ => rfl
 | .d _, _ => rfl
 | .agg l, h => by simp only [SV.okN] at h ⊢; exact okNL_more l h
 | .tup l, h => by simp only [SV.okN] at h ⊢; exact okNL_more l h
 | .ptr _ _, h => by simp [SV.okN, lookN] at h
 | .buf _, h => by simp [SV.okN, lookN] at h
 | .bel _ _ _ _, h => by simp [SV.okN, lookN] at h
 | .mp _, h => by simp [SV.okN, lookN] at h
 | .fn f caps, h => by simp only [SV.okN] at h ⊢; exact okNL_more caps h
 | .sub _ _ _ _, h => by simp [SV.okN, lookN] at h
theorem okNL_more : ∀ l : List SV, SV.okNL [] l = true → SV.okNL [((1000009 : Nat), (1000009 : Nat))] l = true
 | [], _ => rfl
 | x :: l, h => by
   simp only [SV.okNL, Bool.and_eq_true] at h ⊢
   exact ⟨okN_more x h.1, okNL_more l h.2⟩
end
theorem CallX.kn {P : Program} {f : FuncId} {dst : Option Nat} {args : List SV} {s : St} {av : List Nat} {k : Upd → Prop} {y : SV} {Q : Hp → Prop}
 (hs : FSpec P f args [(1000009, .know Q)] fun x r => x = y ∧ r = [(1000009, .know Q)]) (hR : s.res 1000009 = some (.know Q)) (hargs : SV.okNL [] args = true) (hav : mem av 1099512627785 = false) (hy : SV.okN [] y = true)
 (hk : k ⟨dst, y, [], []⟩) : CallX P f dst args s av k := by
 have up : ∀ {x : SV}, SV.okN [] x = true → SV.okN [((1000009 : Nat), (1000009 : Nat))] x = true ∧ x.ren [((1000009 : Nat), (1000009 : Nat))] = x := by
  have idr : ∀ d c, lookN [((1000009 : Nat), (1000009 : Nat))] d = some c → c = d := by
   intro d c hd
   simp only [lookN] at hd
   cases hq : Nat.beq d 1000009 with
   | false => rw [hq] at hd; cases hd
   | true => rw [hq] at hd; cases hd; exact (Nat.eq_of_beq_eq_true hq).symm
  have mono : ∀ x : SV, SV.okN [] x = true → SV.okN [((1000009 : Nat), (1000009 : Nat))] x = true := okN_more
  exact fun {x} hx => ⟨mono x hx, ren_id idr x (mono x hx)⟩
 refine CallX.look hs [(1000009, 1000009)] rfl ?_ ⟨⟨1000009, rfl, hR⟩, trivial⟩ rfl (by simp [hav]) (by simp [(up hy).1, outN, lookN, Res.okN]) ?_
 · have : ∀ l : List SV, SV.okNL [] l = true → argsLe [((1000009 : Nat), (1000009 : Nat))] l l := by
    intro l
    induction l with
    | nil => intro _; trivial
    | cons x l ih =>
      intro h
      simp only [SV.okNL, Bool.and_eq_true] at h
      exact ⟨by rw [(up h.1).2]; exact SV.le_refl _, ih h.2⟩
   exact this args hargs
 · rw [(up hy).2]; exact hk
end Go.Eng
set_option maxRecDepth 20000
namespace Go.Proofs.YtobgeiclibhiiaaGreatDoor
open Go Go.Eng Go.Shelf Go.RowKit
def FX (w : World) : Prop := ∀ n : Int, -9223372036854775808 ≤ n → n ≤ 9223372036854775807 → Calls Tryz.prog 67 #[.int .i64 n] w fun e w' => e = .returned (.string ⟨(Lib.itoa n).toArray⟩) ∧ ∃ k os, w' = Go.Sort.grow (w.drewN k) os
abbrev KX : Res := .know (facts FX)
abbrev kx : List (Nat × Res) := [(1000009, KX)]
theorem below_grow {w : World} (n : Nat) (os : Array Obj) : Below w.heap.size w (Go.Sort.grow (w.drewN n) os) :=
 ⟨rfl, rfl, rfl, by simp [Go.Sort.grow, World.drewN], fun k hk => by
   show (w.heap ++ os)[k]? = _
   rw [Array.getElem?_append_left hk]⟩
theorem zItoa (n : Int) (h0 : -9223372036854775808 ≤ n) (h1 : n ≤ 9223372036854775807) : FSpec Tryz.prog 67 [.d (.int .i64 n)] kx (fun x r => x = .d (.str (Lib.itoa n)) ∧ r = kx) := by
 refine FSpec.ofKnow Tryz.call67 (fun G β w vs hq hg hvl hd => ?_)
 match vs, hvl with
 | [u], _ =>
   have h0' := hd 0 _ u rfl rfl
   cases h0' with | d _ _ h0' => cases h0' with | int _ _ =>
   have hF := hq w hg
   refine ⟨.string ⟨(Lib.itoa n).toArray⟩, fun _ _ => .d _ _ (.str _), ?_⟩
   have hcon := hF n h0 h1
   refine hcon.mono ?_
   rintro e' w' ⟨rfl, k, os, rfl⟩
   exact ⟨rfl, below_grow k os⟩
theorem s119 (n lo hi : Int) : FSpec Tryz.prog 51 [.d (.int .i64 n), .d (.int .i64 lo), .d (.int .i64 hi)] [] (fun x r => x = .d (.bool (decide (lo ≤ n ∧ n ≤ hi))) ∧ r = []) := by
 refine spec_of hT (C := []) Tryz.func51 rfl Tryz.call51 rfl rfl rfl ?_
 conv => whnf
 refine br_intro (fun h => ?_) (fun h => ?_)
 · conv => whnf
   refine .ret _ ?_
   conv => whnf
   refine ⟨[], ⟨?_, rfl⟩, trivial⟩
   conv => lhs; whnf
   simp at h ⊢; simp [h]
 · conv => whnf
   refine .ret _ ?_
   conv => whnf
   refine ⟨[], ⟨?_, rfl⟩, trivial⟩
   conv => lhs; whnf
   simp at h ⊢; omega
theorem s109 (n lo hi : Int) : FSpec Tryz.prog 77 [.d (.int .i64 n), .d (.int .i64 lo), .d (.int .i64 hi)] [] (fun x r => x = .d (.bool (decide (lo ≤ n ∧ n ≤ hi))) ∧ r = []) := by
 refine spec_of hT (C := []) Tryz.func77 rfl Tryz.call77 rfl rfl rfl ?_
 conv => whnf
 refine br_intro (fun h => ?_) (fun h => ?_)
 · conv => whnf
   refine .ret _ ?_
   conv => whnf
   refine ⟨[], ⟨?_, rfl⟩, trivial⟩
   conv => lhs; whnf
   simp at h ⊢; simp [h]
 · conv => whnf
   refine .ret _ ?_
   conv => whnf
   refine ⟨[], ⟨?_, rfl⟩, trivial⟩
   conv => lhs; whnf
   simp at h ⊢; omega
theorem s107 (b : Bool) (e : Int) : FSpec Tryz.prog 81 [.d (.bool b), .d (.int .i64 e)] [] (fun x r => x = .d (.int .i64 (if b then e else 0)) ∧ r = []) := by
 refine spec_of hT (C := []) Tryz.func81 rfl Tryz.call81 rfl rfl rfl ?_
 conv => whnf
 refine br_intro (fun h => ?_) (fun h => ?_)
 · conv => whnf
   refine .ret _ ?_
   conv => whnf
   refine ⟨[], ⟨?_, rfl⟩, trivial⟩
   conv => lhs; whnf
   simp [h]
 · conv => whnf
   refine .ret _ ?_
   conv => whnf
   refine ⟨[], ⟨?_, rfl⟩, trivial⟩
   conv => lhs; whnf
   simp [h]
theorem getD_toNat {α : Type} {l : List α} {i : Nat} {d : α} (h : i < l.length) : l.getD (i : Int).toNat d = l[i] := by
 rw [Int.toNat_natCast, List.getD_eq_getElem?_getD]; simp [h]
def firstE : List Int → Int
 | [] => 0
 | x :: l => if x = 0 then firstE l else x
theorem s161 (l : List Int) (hl : l.length ≤ 2^40) : FSpec Tryz.prog 71 [.d (ints l)] [] (fun x r => x = .d (.int .i64 (firstE l)) ∧ r = []) := by
 refine spec_of hT (C := []) Tryz.func71 rfl Tryz.call71 rfl rfl rfl ?_
 conv => whnf
 refine LoopX.rule hT (C := []) (ι := Nat) (fun i => i ≤ l.length ∧ firstE l = firstE (l.drop i)) (fun i => mkSt [(3, .d (.int .i64 0)), (6, .d (ints l)), (7, .d (.int .i64 l.length)), (8, .d (.int .i64 i))] []) (fun i => l.length - i) 0 ⟨by omega, by simp⟩ ?_ ?_
 · refine Entails.mk' [] rfl rfl ⟨lr, lr, lr, lr, trivial⟩ trivial
 rintro i ⟨p1, p2⟩
 conv => whnf
 refine br_intro (fun h => ?_) (fun h => ?_)
 · simp only [decide_eq_true_eq] at h
   conv => whnf
   refine ⟨⟨by omega, by omega⟩, ?_⟩
   conv => whnf
   have hi : i < l.length := by omega
   have hd : l.drop i = l[i] :: l.drop (i + 1) := List.drop_eq_getElem_cons hi
   refine br_intro (fun h2 => ?_) (fun h2 => ?_)
   · conv => whnf
     refine .ret _ ?_
     conv => whnf
     refine ⟨[], ⟨?_, rfl⟩, trivial⟩
     conv => lhs; whnf
     rw [getD_toNat hi] at h2 ⊢
     simp at h2
     rw [p2, hd, firstE, if_neg h2]
   · conv => whnf
     rw [getD_toNat hi] at h2
     simp at h2
     refine ⟨by unfold inI64; omega, ?_⟩
     conv => whnf
     refine ⟨i + 1, ⟨hi, ?_⟩, by omega, ?_⟩
     · rw [p2, hd, firstE, if_pos h2]
     · exact Entails.mk' [] rfl rfl ⟨lr, lr, lr, lr, trivial⟩ trivial
 · simp only [decide_eq_false_iff_not] at h
   conv => whnf
   refine .ret _ ?_
   conv => whnf
   refine ⟨[], ⟨?_, rfl⟩, trivial⟩
   conv => lhs; whnf
   rw [p2, List.drop_eq_nil_iff.2 (by omega)]; rfl
theorem s105 (l : List Int) (hl : l.length ≤ 2^40) : FSpec Tryz.prog 33 [.d (ints l)] [] (fun x r => x = .d (.int .i64 (firstE l)) ∧ r = []) := by
 refine spec_of hT (C := []) Tryz.func33 rfl Tryz.call33 rfl rfl rfl ?_
 conv => whnf
 refine CallX.pure (s161 l hl) ⟨lr, trivial⟩ rfl ?_
 conv => whnf
 refine .ret _ ?_
 conv => whnf
 exact ⟨[], ⟨rfl, rfl⟩, trivial⟩
def keyCh (i : Nat) (c : UInt8) : Bool := (decide (97 ≤ c.toNat) && decide (c.toNat ≤ 122)) || (!decide (i = 0) && ((decide (48 ≤ c.toNat) && decide (c.toNat ≤ 57)) || decide (c.toNat = 45) || decide (c.toNat = 95)))
def isKeyB (s : List UInt8) : Bool := (List.range s.length).all (fun i => keyCh i (s.getD i 0)) && !s.isEmpty && decide (s.length ≤ 40)
theorem keyCh_iff {i : Nat} {c : UInt8} : keyCh i c = true ↔ ((97 ≤ (c.toNat : Int) ∧ (c.toNat : Int) ≤ 122) ∨ ((i : Int) ≠ 0 ∧ ((48 ≤ (c.toNat : Int) ∧ (c.toNat : Int) ≤ 57) ∨ (c.toNat : Int) = 45 ∨ (c.toNat : Int) = 95))) := by
 simp only [keyCh, Bool.or_eq_true, Bool.and_eq_true, decide_eq_true_eq, Bool.not_eq_true', decide_eq_false_iff_not]
 omega
theorem s108 (s : List UInt8) (hl : s.length ≤ 2^40) : FSpec Tryz.prog 50 [.d (.str s)] [] (fun x r => x = .d (.bool (isKeyB s)) ∧ r = []) := by
 refine spec_of hT (C := []) Tryz.func50 rfl Tryz.call50 rfl rfl rfl ?_
 conv => whnf
 refine LoopX.rule hT (C := []) (ι := Nat) (fun i => i ≤ s.length ∧ ∀ j, j < i → keyCh j (s.getD j 0) = true) (fun i => mkSt [(0, .d (.str s)), (7, .d (.int .i64 s.length)), (8, .d (.int .i64 i))] []) (fun i => s.length - i) 0 ⟨by omega, by omega⟩ ?_ ?_
 · exact Entails.mk' [] rfl rfl ⟨lr, lr, lr, trivial⟩ trivial
 rintro i ⟨p1, p2⟩
 conv => whnf
 refine br_intro (fun h => ?_) (fun h => ?_)
 · simp only [decide_eq_true_eq] at h
   have hi : i < s.length := by omega
   have e1 : (i : Int).toNat = i := Int.toNat_natCast i
   conv => whnf
   repeat (refine And.intro (by (try unfold inI64); (try dsimp only); (try simp only [e1, List.length_cons, List.length_append, List.length_singleton, List.length_nil]); omega) ?_; conv => whnf)
   have hbad : keyCh i (s.getD i 0) = false → isKeyB s = false := fun h => by
    have : (List.range s.length).all (fun i => keyCh i (s.getD i 0)) = false := by
     rw [List.all_eq_false]; exact ⟨i, List.mem_range.2 hi, by rw [h]; simp⟩
    simp only [isKeyB, this, Bool.false_and]
   have hgood : keyCh i (s.getD i 0) = true → ∀ j, j < i + 1 → keyCh j (s.getD j 0) = true := fun h j hj => by
    rcases Nat.lt_or_ge j i with q | q
    · exact p2 j q
    · have : j = i := by omega
      subst this; exact h
   repeat' (refine br_intro (fun _ => ?_) (fun _ => ?_) <;> (conv => whnf))
   all_goals first
    | (refine And.intro (by unfold inI64; omega) ?_
       conv => whnf
       refine ⟨i + 1, ⟨hi, hgood ?_⟩, by omega, Entails.mk' [] rfl rfl ⟨lr, lr, lr, trivial⟩ trivial⟩
       rw [keyCh_iff]
       simp only [decide_eq_true_eq, decide_eq_false_iff_not, Bool.not_eq_true', Bool.not_eq_false', e1] at *
       omega)
    | (refine .ret _ ?_
       conv => whnf
       refine ⟨[], ⟨?_, rfl⟩, trivial⟩
       conv => lhs; whnf
       rw [hbad]
       cases hq : keyCh i (s.getD i 0) with
       | false => rfl
       | true =>
         rw [keyCh_iff] at hq
         simp only [decide_eq_true_eq, decide_eq_false_iff_not, Bool.not_eq_true', Bool.not_eq_false', e1] at *
         omega)
    | skip
 simp only [decide_eq_false_iff_not] at h
 have e1 : i = s.length := by omega
 subst e1
 have hall : (List.range s.length).all (fun i => keyCh i (s.getD i 0)) = true := by
  rw [List.all_eq_true]; intro j hj; exact p2 j (List.mem_range.1 hj)
 conv => whnf
 repeat' (refine br_intro (fun _ => ?_) (fun _ => ?_) <;> (conv => whnf))
 all_goals (refine .ret _ ?_; conv => whnf)
 all_goals (refine ⟨[], ⟨?_, rfl⟩, trivial⟩; conv => lhs; whnf)
 · rename_i hq
   have : s.isEmpty = false := by
    cases s with
    | nil => exact absurd hq (by decide)
    | cons x l => rfl
   unfold isKeyB
   rw [hall, this]
   simp
   omega
 · rename_i hq
   have : s.isEmpty = true := by
    cases s with
    | nil => rfl
    | cons x l => exact absurd hq (by simp)
   unfold isKeyB
   rw [hall, this]
   rfl
def strLe (a b : List UInt8) : Bool := Op.bytesLess a b || a == b
def firstAt (f : Nat → Int) : Nat → Int
 | 0 => 0
 | n + 1 => if firstAt f n = 0 then f n else firstAt f n
theorem firstAt_zero {f : Nat → Int} : ∀ {n : Nat}, (∀ j, j < n → f j = 0) → firstAt f n = 0 := by
 intro n
 induction n with
 | zero => intro _; rfl
 | succ n ih => intro h; rw [firstAt, if_pos (ih fun j hj => h j (by omega))]; exact h n (by omega)
theorem firstAt_eq {f : Nat → Int} {n i : Nat} {e : Int} (hi : i < n) (h : ∀ j, j < i → f j = 0) (h1 : e ≠ 0) (h2 : f i = e) : firstAt f n = e := by
 induction n with
 | zero => omega
 | succ n ih =>
   rw [firstAt]
   by_cases q : i < n
   · rw [ih q, if_neg h1]
   · have : i = n := by omega
     subst this
     rw [if_pos (firstAt_zero h)]; exact h2
end Go.Proofs.YtobgeiclibhiiaaGreatDoor
namespace Go.Proofs
open Go.Shelf
def Tryz.lays160_ren : Go.Shelf.Ren := ⟨fun | 160 => 143 | 232 => 166 | 231 => 165 | 227 => 167 | 234 => 169 | 233 => 168 | 236 => 171 | 235 => 170 | 228 => 180 | 271 => 183 | 151 => 182 | 197 => 181 | 120 => 189 | 152 => 188 | 260 => 187 | 137 => 190 | 119 => 191 | 224 => 192 | 225 => 193 | 217 => 194 | 266 => 195 | n => n, fun | 9 => 9 | 4 => 4 | 3 => 3 | 5 => 5 | 117 => 191 | 116 => 190 | 0 => 0 | 124 => 194 | 21 => 21 | 105 => 204 | 46 => 121 | 119 => 211 | 139 => 214 | 138 => 213 | n => n, fun | 3 => 4 | 4 => 5 | n => n⟩
theorem Tryz.lays160 : Go.Proofs.Lays.n160 Tryz.prog Tryz.lays160_ren := {
 mixed := by kernel_rfl
 f119 := Tryz.func191.trans (congrArg some (by kernel_rfl))
 f120 := Tryz.func189.trans (congrArg some (by kernel_rfl))
 f137 := Tryz.func190.trans (congrArg some (by kernel_rfl))
 f151 := Tryz.func182.trans (congrArg some (by kernel_rfl))
 f152 := Tryz.func188.trans (congrArg some (by kernel_rfl))
 f160 := Tryz.func143.trans (congrArg some (by kernel_rfl))
 f197 := Tryz.func181.trans (congrArg some (by kernel_rfl))
 f217 := Tryz.func194.trans (congrArg some (by kernel_rfl))
 f224 := Tryz.func192.trans (congrArg some (by kernel_rfl))
 f225 := Tryz.func193.trans (congrArg some (by kernel_rfl))
 f227 := Tryz.func167.trans (congrArg some (by kernel_rfl))
 f228 := Tryz.func180.trans (congrArg some (by kernel_rfl))
 f231 := Tryz.func165.trans (congrArg some (by kernel_rfl))
 f232 := Tryz.func166.trans (congrArg some (by kernel_rfl))
 f233 := Tryz.func168.trans (congrArg some (by kernel_rfl))
 f234 := Tryz.func169.trans (congrArg some (by kernel_rfl))
 f235 := Tryz.func170.trans (congrArg some (by kernel_rfl))
 f236 := Tryz.func171.trans (congrArg some (by kernel_rfl))
 f260 := Tryz.func187.trans (congrArg some (by kernel_rfl))
 f266 := Tryz.func195.trans (congrArg some (by kernel_rfl))
 f271 := Tryz.func183.trans (congrArg some (by kernel_rfl))
 t0 := Tryz.underlying0
 a0 := Tryz.isAgg0
 z0 := Tryz.sizeOf0
 v0 := Tryz.zeroValue0
 t3 := Tryz.underlying3
 a3 := Tryz.isAgg3
 z3 := Tryz.sizeOf3
 v3 := Tryz.zeroValue3
 t4 := Tryz.underlying4
 a4 := Tryz.isAgg4
 z4 := Tryz.sizeOf4
 v4 := Tryz.zeroValue4
 t5 := Tryz.underlying5
 a5 := Tryz.isAgg5
 z5 := Tryz.sizeOf5
 v5 := Tryz.zeroValue5
 t9 := Tryz.underlying9
 a9 := Tryz.isAgg9
 z9 := Tryz.sizeOf9
 v9 := Tryz.zeroValue9
 t21 := Tryz.underlying21
 a21 := Tryz.isAgg21
 z21 := Tryz.sizeOf21
 v21 := Tryz.zeroValue21
 t46 := Tryz.underlying121
 a46 := Tryz.isAgg121
 z46 := Tryz.sizeOf121
 v46 := Tryz.zeroValue121
 t105 := Tryz.underlying204
 a105 := Tryz.isAgg204
 z105 := Tryz.sizeOf204
 v105 := Tryz.zeroValue204
 t116 := Tryz.underlying190
 a116 := Tryz.isAgg190
 z116 := Tryz.sizeOf190
 t117 := Tryz.underlying191
 a117 := Tryz.isAgg191
 z117 := Tryz.sizeOf191
 v117 := Tryz.zeroValue191
 t119 := Tryz.underlying211
 a119 := Tryz.isAgg211
 z119 := Tryz.sizeOf211
 t124 := Tryz.underlying194
 a124 := Tryz.isAgg194
 z124 := Tryz.sizeOf194
 v124 := Tryz.zeroValue194
 t138 := Tryz.underlying213
 a138 := Tryz.isAgg213
 z138 := Tryz.sizeOf213
 v138 := Tryz.zeroValue213
 t139 := Tryz.underlying214
 a139 := Tryz.isAgg214
 z139 := Tryz.sizeOf214
 v139 := Tryz.zeroValue214
 g3 := by kernel_rfl
 g4 := by kernel_rfl }
end Go.Proofs
set_option maxRecDepth 20000
namespace Go.Proofs.YtobgeiclibhiiaaGreatDoor
open Go Go.Eng Go.Shelf
theorem s162 (s cs : List UInt8) (hl : s.length ≤ 2^40) (hc : cs.length ≤ 2^20) (ha : cs.all (fun b => decide (b.toNat < 128)) = true) : FSpec Tryz.prog 143 [.d (.str s), .d (.str cs)] [] (fun x r => x = .d (.str (Lib.trimS s cs)) ∧ r = []) := by
 refine FSpec.ofBelow Tryz.call143 (fun G β w vs _ hvl hd => ?_)
 match vs, hvl with
 | [u, v], _ =>
   have h0 := hd 0 _ u rfl rfl
   have h1 := hd 1 _ v rfl rfl
   cases h0 with | d _ _ h0 => cases h0 with | str _ =>
   cases h1 with | d _ _ h1 => cases h1 with | str _ =>
   refine ⟨.string ⟨(Lib.trimS s cs).toArray⟩, fun _ _ => .d _ _ (.str _), ?_⟩
   have hcon := Any.strings_Trim_laid Tryz.lays160 (by kernel_rfl) ⟨s.toArray⟩ ⟨cs.toArray⟩ w (by simp [ByteArray.size]; omega) (by simp [ByteArray.size]; omega) (ascii_of_all (by simpa using ha))
   have e : Tryz.lays160_ren.f 160 = 143 := rfl
   rw [e] at hcon
   simpa using hcon
theorem dropWhile_nil {p : UInt8 → Bool} {l : List UInt8} : l.dropWhile p = [] ↔ ∀ b ∈ l, p b = true := by
 induction l with
 | nil => simp
 | cons a l ih => by_cases h : p a = true <;> simp [List.dropWhile_cons, h, ih]
theorem trimS_nil {s cs : List UInt8} : Lib.trimS s cs = [] ↔ ∀ b ∈ s, cs.contains b = true := by
 unfold Lib.trimS Lib.trimLeftS Lib.trimRightS
 rw [dropWhile_nil]
 constructor
 · intro h b hb
   have h1 : s.reverse.dropWhile (cs.contains ·) = [] ∨ ¬ s.reverse.dropWhile (cs.contains ·) = [] := Classical.em _
   rcases h1 with h1 | h1
   · exact dropWhile_nil.1 h1 b (by simpa using hb)
   · obtain ⟨c, m, hc⟩ := List.exists_cons_of_ne_nil h1
     have h3 : cs.contains c = false := by
      have := List.head_dropWhile_not (cs.contains ·) (l := s.reverse) h1
      simp only [hc, List.head_cons] at this
      exact this
     have h4 := h c (by rw [List.mem_reverse, hc]; exact List.mem_cons_self)
     rw [h3] at h4; cases h4
 · intro h b hb
   rw [List.mem_reverse] at hb
   exact h b (by simpa using (List.dropWhile_sublist _).subset hb)
def onlyB (s cs : List UInt8) : Bool := s.all (cs.contains ·)
theorem s111 (s cs : List UInt8) (hl : s.length ≤ 2^40) (hc : cs.length ≤ 2^20) (ha : cs.all (fun b => decide (b.toNat < 128)) = true) : FSpec Tryz.prog 114 [.d (.str s), .d (.str cs)] [] (fun x r => x = .d (.bool (onlyB s cs)) ∧ r = []) := by
 refine spec_of hT (C := []) Tryz.func114 rfl Tryz.call114 rfl rfl rfl ?_
 conv => whnf
 refine CallX.pure (s162 _ _ hl hc ha) ⟨lr, lr, trivial⟩ rfl ?_
 conv => whnf
 refine .ret _ ?_
 conv => whnf
 refine ⟨[], ⟨?_, rfl⟩, trivial⟩
 show SV.d (.bool (Lib.trimS s cs == [])) = _
 congr 2
 rw [Bool.eq_iff_iff]
 simp only [beq_iff_eq, trimS_nil, onlyB, List.all_eq_true]
theorem s110 (a b c : Int) : FSpec Tryz.prog 102 [.d (.int .i64 a), .d (.int .i64 b), .d (.int .i64 c)] [] (fun x r => x = .d (.bool (decide (b ≤ a ∧ a ≤ c))) ∧ r = []) := by
 refine spec_of hT (C := []) Tryz.func102 rfl Tryz.call102 rfl rfl rfl ?_
 conv => whnf
 repeat' (refine br_intro (fun _ => ?_) (fun _ => ?_) <;> (conv => whnf))
 all_goals
  refine .ret _ ?_
  conv => whnf
  refine ⟨[], ⟨?_, rfl⟩, trivial⟩
  conv => lhs; whnf
  congr 2
  grind
def smallsL : List UInt8 := [97, 98, 99, 100, 101, 102, 103, 104, 105, 106, 107, 108, 109, 110, 111, 112, 113, 114, 115, 116, 117, 118, 119, 120, 121, 122]
def keyL : List UInt8 := smallsL ++ [48, 49, 50, 51, 52, 53, 54, 55, 56, 57, 45, 95]
theorem u8_all {p : UInt8 → Bool} (h : (List.range 256).all (fun n => p (UInt8.ofNat n)) = true) (c : UInt8) : p c = true := by
 have := List.all_eq_true.1 h c.toNat (List.mem_range.2 c.toNat_lt)
 simpa using this
theorem small_iff (c : UInt8) : smallsL.contains c = keyCh 0 c := by
 have := u8_all (p := fun c => smallsL.contains c == keyCh 0 c) (by decide +kernel) c
 simpa using this
theorem key_iff (c : UInt8) : keyL.contains c = keyCh 1 c := by
 have := u8_all (p := fun c => keyL.contains c == keyCh 1 c) (by decide +kernel) c
 simpa using this
theorem keyCh_succ (i : Nat) (c : UInt8) : keyCh (i + 1) c = keyCh 1 c := by simp [keyCh]
theorem keyCh_one {c : UInt8} (h : keyCh 0 c = true) : keyCh 1 c = true := by
 simp only [keyCh] at h ⊢; simp at h; simp [h]
theorem isKey_eq (s : List UInt8) : isKeyB s = (decide (1 ≤ (s.length : Int) ∧ (s.length : Int) ≤ 40) && onlyB (s.take 1) smallsL && onlyB s keyL) := by
 cases s with
 | nil => rfl
 | cons c l =>
   have h1 : onlyB ((c :: l).take 1) smallsL = keyCh 0 c := by simp only [onlyB, List.take_succ_cons, List.take_zero, List.all_cons, List.all_nil, Bool.and_true, small_iff]
   have h2 : onlyB (c :: l) keyL = (keyCh 1 c && l.all (keyCh 1 ·)) := by simp only [onlyB, List.all_cons, key_iff]
   have h3 : (List.range (c :: l).length).all (fun i => keyCh i ((c :: l).getD i 0)) = (keyCh 0 c && l.all (keyCh 1 ·)) := by
    rw [List.length_cons, List.range_succ_eq_map, List.all_cons, List.all_map]
    congr 1
    rw [Bool.eq_iff_iff, List.all_eq_true, List.all_eq_true]
    constructor
    · intro h x hx
      obtain ⟨i, hi, rfl⟩ := List.getElem_of_mem hx
      have := h i (List.mem_range.2 hi)
      simp only [Function.comp, List.getD_cons_succ, keyCh_succ] at this
      rwa [List.getD_eq_getElem?_getD, List.getElem?_eq_getElem hi] at this
    · intro h i hi
      have hi := List.mem_range.1 hi
      simp only [Function.comp, List.getD_cons_succ, keyCh_succ]
      rw [List.getD_eq_getElem?_getD, List.getElem?_eq_getElem hi]
      exact h _ (List.getElem_mem hi)
   unfold isKeyB
   rw [h1, h2, h3, Bool.eq_iff_iff]
   simp only [Bool.and_eq_true, decide_eq_true_eq, Bool.not_eq_true', List.isEmpty_cons, List.length_cons]
   constructor
   · rintro ⟨⟨⟨a, b⟩, _⟩, d⟩; exact ⟨⟨⟨by omega, by omega⟩, a⟩, keyCh_one a, b⟩
   · rintro ⟨⟨⟨_, d⟩, a⟩, _, b⟩; exact ⟨⟨⟨a, b⟩, trivial⟩, by omega⟩
theorem s21 (s : List UInt8) (hl : s.length ≤ 2^40) : FSpec Tryz.prog 76 [.d (.str s)] [] (fun x r => x = .d (.bool (isKeyB s)) ∧ r = []) := by
 refine spec_of hT (C := []) Tryz.func76 rfl Tryz.call76 rfl rfl rfl ?_
 conv => whnf
 repeat' (first | (refine CallX.exact (s110 _ _ _) rfl rfl ?_; rotate_right; conv => whnf) | (refine CallX.exact (s111 s keyL hl ?_ ?_) rfl rfl ?_; rotate_right; conv => whnf) | (refine CallX.exact (s111 _ smallsL ?_ ?_ ?_) rfl rfl ?_; rotate_right; conv => whnf) | (refine br_intro ?_ ?_ <;> intro hb <;> (try simp only [brs] at hb) <;> conv => whnf) | omega | (refine And.intro ?_ ?_; ((try dsimp only); first | omega | (refine szA rfl ?_; omega) | (refine szB rfl ?_; omega) | (unfold inI64; omega) | exact rfl | (simp only [List.toList_toArray, List.length_cons, List.length_nil]; omega) | (simp only [lns] at *; omega) | decide | (unfold inI64; decide)); conv => whnf) | decide | assumption)
 all_goals try (simp; omega)
 all_goals
  refine .ret _ ?_
  conv => whnf
  refine ⟨[], ⟨?_, rfl⟩, trivial⟩
  conv => lhs; whnf
  rw [isKey_eq]; congr 2; grind
theorem first_step {f : Nat → Int} {i : Nat} (p : ∀ j, j < i → f j = 0) (h : f i = 0) : ∀ j, j < i + 1 → f j = 0 := fun j hj => by
 rcases Nat.lt_or_ge j i with q | q
 · exact p j q
 · have : j = i := by omega
   subst this; exact h
theorem toNat_pred (i : Nat) : ((i : Int) - 1).toNat = i - 1 := by omega
theorem take_snocD {α : Type} {l : List α} {i : Nat} {d : α} (h : i < l.length) : l.take (i + 1) = l.take i ++ [l.getD i d] := by
 rw [List.take_succ_eq_append_getElem h, List.getD_eq_getElem?_getD, List.getElem?_eq_getElem h]; rfl
theorem firstAt_all {f : Nat → Int} : ∀ {n : Nat}, firstAt f n = 0 → ∀ j, j < n → f j = 0 := by
 intro n
 induction n with
 | zero => intro _ j hj; omega
 | succ n ih =>
   intro h j hj
   rw [firstAt] at h
   split at h
   · rename_i q
     rcases Nat.lt_or_ge j n with r | r
     · exact ih q j r
     · have : j = n := by omega
       subst this; exact h
   · omega
theorem mem_getD {α : Type} {l : List α} {x d : α} (h : x ∈ l) : ∃ j, j < l.length ∧ l.getD j d = x := by
 obtain ⟨j, hj, rfl⟩ := List.getElem_of_mem h
 exact ⟨j, hj, by rw [List.getD_eq_getElem?_getD, List.getElem?_eq_getElem hj]; rfl⟩
section
variable {α : Type} (cmp : α → α → Int)
def insR (x : α) : List α → List α
 | [] => [x]
 | y :: r => if cmp x y < 0 then y :: insR x r else x :: y :: r
def isortR (l : List α) : List α := l.foldl (fun acc x => insR cmp x acc) []
def isort (l : List α) : List α := (isortR cmp l).reverse
theorem insR_length (x : α) : ∀ l : List α, (insR cmp x l).length = l.length + 1 := by
 intro l
 induction l with
 | nil => rfl
 | cons y r ih => simp only [insR]; split <;> simp [ih]
theorem isortR_snoc (l : List α) (x : α) : isortR cmp (l ++ [x]) = insR cmp x (isortR cmp l) := by simp [isortR]
theorem isortR_length (l : List α) : (isortR cmp l).length = l.length := by
 have : ∀ (l acc : List α), (l.foldl (fun acc x => insR cmp x acc) acc).length = acc.length + l.length := by
  intro l
  induction l with
  | nil => intro acc; simp
  | cons x l ih => intro acc; rw [List.foldl_cons, ih, insR_length]; simp; omega
 rw [isortR, this]; simp
theorem insR_mem (x y : α) : ∀ {l : List α}, y ∈ insR cmp x l ↔ y = x ∨ y ∈ l := by
 intro l
 induction l with
 | nil => simp [insR]
 | cons z r ih =>
   simp only [insR]
   split
   · simp only [List.mem_cons, ih]
     constructor
     · rintro (h | h | h)
       · exact .inr (.inl h)
       · exact .inl h
       · exact .inr (.inr h)
     · rintro (h | h | h)
       · exact .inr (.inl h)
       · exact .inl h
       · exact .inr (.inr h)
   · simp
theorem isortR_mem {y : α} (l : List α) : y ∈ isortR cmp l ↔ y ∈ l := by
 have : ∀ (l acc : List α), y ∈ (l.foldl (fun acc x => insR cmp x acc) acc) ↔ y ∈ acc ∨ y ∈ l := by
  intro l
  induction l with
  | nil => intro acc; simp
  | cons x l ih =>
    intro acc; rw [List.foldl_cons, ih, insR_mem, List.mem_cons]
    constructor
    · rintro ((h | h) | h)
      · exact .inr (.inl h)
      · exact .inl h
      · exact .inr (.inr h)
    · rintro (h | h | h)
      · exact .inl (.inr h)
      · exact .inl (.inl h)
      · exact .inr h
 rw [isortR, this]; simp
end
theorem take_snoc {α : Type} {l : List α} {i : Nat} (h : i < l.length) : l.take (i + 1) = l.take i ++ [l[i]] := (List.take_append_getElem h).symm
theorem getD_mid {α : Type} (A B : List α) (x d : α) {i : Nat} (h : i = A.length) : (A ++ x :: B).getD i d = x := by
 subst h; rw [List.getD_eq_getElem?_getD]; simp
theorem swap_lemma {α : Type} (A B : List α) (x y : α) : (((A ++ [y] ++ [x] ++ B).set (A.length + 1) y).set A.length x) = A ++ [x] ++ [y] ++ B := by
 simp [List.set_append]
section
variable {α : Type} (cmp : α → α → Int)
theorem insR_perm (x : α) : ∀ l : List α, (insR cmp x l).Perm (x :: l) := by
 intro l
 induction l with
 | nil => exact .refl _
 | cons y r ih =>
   simp only [insR]
   split
   · exact (ih.cons y).trans (.swap x y r)
   · exact .refl _
theorem isortR_perm (l : List α) : (isortR cmp l).Perm l := by
 have : ∀ (l acc : List α), (l.foldl (fun acc x => insR cmp x acc) acc).Perm (l ++ acc) := by
  intro l
  induction l with
  | nil => intro acc; exact .refl _
  | cons x l ih =>
    intro acc
    rw [List.foldl_cons]
    refine (ih _).trans (((insR_perm cmp x acc).append_left l).trans ?_)
    exact List.perm_middle
 have h := this l []
 rw [List.append_nil] at h
 exact h
theorem isort_perm (l : List α) : (isort cmp l).Perm l := (List.reverse_perm _).trans (isortR_perm cmp l)
variable (R : α → α → Prop) (tr : ∀ a b c, R a b → R b c → R a c)
include tr in
theorem insR_pairwise (x : α) : ∀ l : List α, l.Pairwise (fun a b => R b a) → (∀ y ∈ l, (cmp x y < 0 → R x y) ∧ (¬ cmp x y < 0 → R y x)) → (insR cmp x l).Pairwise (fun a b => R b a) := by
 intro l
 induction l with
 | nil => intro _ _; simp [insR]
 | cons y r ih =>
   intro h hc
   have h' := List.pairwise_cons.1 h
   simp only [insR]
   split
   · rename_i hlt
     rw [List.pairwise_cons]
     refine ⟨fun z hz => ?_, ih h'.2 (fun z hz => hc z (by simp [hz]))⟩
     rcases (insR_mem cmp x z).1 hz with q | q
     · subst q; exact (hc y (by simp)).1 hlt
     · exact h'.1 z q
   · rename_i hlt
     have hyx := (hc y (by simp)).2 hlt
     rw [List.pairwise_cons]
     refine ⟨fun z hz => ?_, h⟩
     rcases List.mem_cons.1 hz with q | q
     · subst q; exact hyx
     · exact tr _ _ _ (h'.1 z q) hyx
include tr in
theorem isort_pairwise : ∀ l : List α, l.Pairwise (fun y x => (cmp x y < 0 → R x y) ∧ (¬ cmp x y < 0 → R y x)) → (isort cmp l).Pairwise R := by
 intro l h
 unfold isort
 rw [List.pairwise_reverse]
 have : ∀ n, n ≤ l.length → (isortR cmp (l.take n)).Pairwise (fun a b => R b a) := by
  intro n
  induction n with
  | zero => intro _; simp [isortR]
  | succ n ih =>
    intro hn
    rw [take_snoc hn, isortR_snoc]
    refine insR_pairwise cmp R tr _ _ (ih (by omega)) (fun y hy => ?_)
    have hy := (isortR_mem cmp _).1 hy
    have hp : (l.take (n + 1)).Pairwise (fun y x => (cmp x y < 0 → R x y) ∧ (¬ cmp x y < 0 → R y x)) := h.sublist (List.take_sublist _ _)
    rw [take_snoc hn, List.pairwise_append] at hp
    exact hp.2.2 y hy _ (by simp)
 have := this l.length (Nat.le_refl _)
 rwa [List.take_length] at this
end
theorem eq_of_getD {α : Type} {l m : List α} (d : α) (hl : l.length = m.length) (h : ∀ j, j < l.length → l.getD j d = m.getD j d) : l = m := by
 refine List.ext_getElem hl (fun i h1 h2 => ?_)
 have := h i h1
 rwa [List.getD_eq_getElem?_getD, List.getD_eq_getElem?_getD, List.getElem?_eq_getElem h1, List.getElem?_eq_getElem h2] at this
theorem all_step {p : Nat → Prop} {i : Nat} (h : ∀ j, j < i → p j) (h1 : p i) : ∀ j, j < i + 1 → p j := fun j hj => by
 rcases Nat.lt_or_ge j i with q | q
 · exact h j q
 · have : j = i := by omega
   subst this; exact h1
structure Gate where
 key : List UInt8
 area : List UInt8
 clock : Int
structure Pas where
 tm : Int
 gate : List UInt8
 plate : List UInt8
 cents : Int
def plCh (c : UInt8) : Bool := (decide (65 ≤ c.toNat) && decide (c.toNat ≤ 90)) || (decide (48 ≤ c.toNat) && decide (c.toNat ≤ 57))
def isPlateB (s : List UInt8) : Bool := s.all plCh && decide (2 ≤ s.length) && decide (s.length ≤ 10)
theorem s185 (s : List UInt8) (hl : s.length ≤ 2^40) : FSpec Tryz.prog 120 [.d (.str s)] [] (fun x r => x = .d (.bool (isPlateB s)) ∧ r = []) := by
 refine spec_of hT (C := []) Tryz.func120 rfl Tryz.call120 rfl rfl rfl ?_
 conv => whnf
 refine LoopX.rule hT (C := []) (ι := Nat) (fun i => i ≤ s.length ∧ ∀ j, j < i → plCh (s.getD j 0) = true) (fun i => mkSt [(0, .d (.str s)), (6, .d (.int .i64 s.length)), (7, .d (.int .i64 i))] []) (fun i => s.length - i) 0 ⟨by omega, by omega⟩ (by (refine Entails.mk' [] rfl rfl ?_ ?_ <;> repeat' (first | exact True.intro | exact lr | exact rr | exact SV.le_int (by omega) | exact SV.le_any _ | refine And.intro ?_ ?_)); done) ?_
 rintro i ⟨p1, p2⟩
 have e1 : (i : Int).toNat = i := Int.toNat_natCast i
 have hbad : i < s.length → plCh (s.getD i 0) = false → isPlateB s = false := fun hi h => by
  have : s.all plCh = false := by
   rw [List.all_eq_false]; exact ⟨s.getD i 0, getD_mem hi, by rw [h]; simp⟩
  simp only [isPlateB, this, Bool.false_and]
 have hall : i = s.length → s.all plCh = true := fun hi => by
  rw [List.all_eq_true]; intro c hc
  obtain ⟨j, hj, rfl⟩ := mem_getD (d := 0) hc
  exact p2 j (by omega)
 conv => whnf
 repeat' (first | (refine br_intro ?_ ?_ <;> intro hb <;> (try simp only [brs] at hb) <;> conv => whnf) | omega | (refine And.intro ?_ ?_; ((try dsimp only); first | omega | (refine szA rfl ?_; omega) | (refine szB rfl ?_; omega) | (unfold inI64; omega) | exact rfl | (simp only [List.toList_toArray, List.length_cons, List.length_nil]; omega) | (simp only [lns] at *; omega) | decide | (unfold inI64; decide)); conv => whnf) | decide | assumption)
 all_goals first
  | (refine ⟨i + 1, ⟨by omega, all_step p2 (by clear p2 hbad hall; simp only [e1] at *; simp only [plCh]; grind)⟩, by omega, (by (refine Entails.mk' [] rfl rfl ?_ ?_ <;> repeat' (first | exact True.intro | exact lr | exact rr | exact SV.le_int (by omega) | exact SV.le_any _ | refine And.intro ?_ ?_)); done)⟩)
  | (refine .ret _ ?_
     conv => whnf
     refine ⟨[], ⟨?_, rfl⟩, trivial⟩
     conv => lhs; whnf
     congr 2
     first
      | (rw [hbad (by omega) (by clear p2 hbad hall; simp only [e1] at *; simp only [plCh]; grind)])
      | (unfold isPlateB; rw [hall (by omega)]; clear p2 hbad hall; grind))
def cmpI (a b : Int) : Int := if a < b then -1 else if b < a then 1 else 0
def cmpS (a b : List UInt8) : Int := if Op.bytesLess a b = true then -1 else if Op.bytesLess b a = true then 1 else 0
theorem s210 (a : Int) : FSpec Tryz.prog 113 [.d (.int .i64 a)] [] (fun x r => x = .d (.bool false) ∧ r = []) := by
 refine spec_of hT (C := []) Tryz.func113 rfl Tryz.call113 rfl rfl rfl ?_
 conv => whnf
 refine .ret _ ?_
 conv => whnf
 refine ⟨[], ⟨?_, rfl⟩, trivial⟩
 conv => lhs; whnf
 simp
theorem s211 (a : List UInt8) : FSpec Tryz.prog 74 [.d (.str a)] [] (fun x r => x = .d (.bool false) ∧ r = []) := by
 refine spec_of hT (C := []) Tryz.func74 rfl Tryz.call74 rfl rfl rfl ?_
 conv => whnf
 refine .ret _ ?_
 conv => whnf
 refine ⟨[], ⟨?_, rfl⟩, trivial⟩
 conv => lhs; whnf
 simp
theorem s183 (a b : Int) : FSpec Tryz.prog 73 [.d (.int .i64 a), .d (.int .i64 b)] [] (fun x r => x = .d (.int .i64 (cmpI a b)) ∧ r = []) := by
 refine spec_of hT (C := []) Tryz.func73 rfl Tryz.call73 rfl rfl rfl ?_
 conv => whnf
 repeat' (first | (refine CallX.exact (s210 _) rfl rfl ?_; rotate_right; conv => whnf) | (refine br_intro ?_ ?_ <;> intro hb <;> (try simp only [brs] at hb) <;> conv => whnf) | omega | (refine And.intro ?_ ?_; ((try dsimp only); first | omega | (refine szA rfl ?_; omega) | (refine szB rfl ?_; omega) | (unfold inI64; omega) | exact rfl | (simp only [List.toList_toArray, List.length_cons, List.length_nil]; omega) | (simp only [lns] at *; omega) | decide | (unfold inI64; decide)); conv => whnf) | decide | assumption)
 all_goals
  refine .ret _ ?_
  conv => whnf
  refine ⟨[], ⟨?_, rfl⟩, trivial⟩
  conv => lhs; whnf
  congr 2; unfold cmpI; grind
theorem less_tri : ∀ (a b : List UInt8), Op.bytesLess a b = false → a ≠ b → Op.bytesLess b a = true := by
 intro a
 induction a with
 | nil => intro b h hn; cases b with
   | nil => exact absurd rfl hn
   | cons y ys => simp [Op.bytesLess] at h
 | cons x xs ih =>
   intro b h hn
   cases b with
   | nil => simp [Op.bytesLess]
   | cons y ys =>
     simp only [Op.bytesLess] at h ⊢
     grind
theorem s184 (a b : List UInt8) : FSpec Tryz.prog 38 [.d (.str a), .d (.str b)] [] (fun x r => x = .d (.int .i64 (cmpS a b)) ∧ r = []) := by
 refine spec_of hT (C := []) Tryz.func38 rfl Tryz.call38 rfl rfl rfl ?_
 conv => whnf
 repeat' (first | (refine CallX.exact (s211 _) rfl rfl ?_; rotate_right; conv => whnf) | (refine br_intro ?_ ?_ <;> intro hb <;> (try simp only [brs] at hb) <;> conv => whnf) | omega | (refine And.intro ?_ ?_; ((try dsimp only); first | omega | (refine szA rfl ?_; omega) | (refine szB rfl ?_; omega) | (unfold inI64; omega) | exact rfl | (simp only [List.toList_toArray, List.length_cons, List.length_nil]; omega) | (simp only [lns] at *; omega) | decide | (unfold inI64; decide)); conv => whnf) | decide | assumption)
 all_goals
  refine .ret _ ?_
  conv => whnf
  refine ⟨[], ⟨?_, rfl⟩, trivial⟩
  conv => lhs; whnf
  congr 2; unfold cmpS; grind [less_tri]
theorem s182 (l : List Int) (hl : l.length ≤ 2^40) : FSpec Tryz.prog 36 [.d (ints l)] [] (fun x r => x = .d (.int .i64 (firstE l)) ∧ r = []) := by
 refine spec_of hT (C := []) Tryz.func36 rfl Tryz.call36 rfl rfl rfl ?_
 conv => whnf
 refine LoopX.rule hT (C := []) (ι := Nat) (fun i => i ≤ l.length ∧ firstE l = firstE (l.drop i)) (fun i => mkSt [(3, .d (.int .i64 0)), (6, .d (ints l)), (7, .d (.int .i64 l.length)), (8, .d (.int .i64 i))] []) (fun i => l.length - i) 0 ⟨by omega, by simp⟩ (by (refine Entails.mk' [] rfl rfl ?_ ?_ <;> repeat' (first | exact True.intro | exact lr | exact rr | exact SV.le_int (by omega) | exact SV.le_any _ | refine And.intro ?_ ?_)); done) ?_
 rintro i ⟨p1, p2⟩
 have hd : i < l.length → l.drop i = l.getD i 0 :: l.drop (i + 1) := fun hi => by rw [List.drop_eq_getElem_cons hi, List.getD_eq_getElem?_getD, List.getElem?_eq_getElem hi]; rfl
 conv => whnf
 repeat' (first | (refine br_intro ?_ ?_ <;> intro hb <;> (try simp only [brs] at hb) <;> conv => whnf) | omega | (refine And.intro ?_ ?_; ((try dsimp only); first | omega | (refine szA rfl ?_; omega) | (refine szB rfl ?_; omega) | (unfold inI64; omega) | exact rfl | (simp only [List.toList_toArray, List.length_cons, List.length_nil]; omega) | (simp only [lns] at *; omega) | decide | (unfold inI64; decide)); conv => whnf) | decide | assumption)
 · refine .ret _ ?_
   conv => whnf
   refine ⟨[], ⟨?_, rfl⟩, trivial⟩
   conv => lhs; whnf
   congr 2; rw [p2, hd (by omega), firstE, if_neg hb, Int.toNat_natCast]
 · exact ⟨i + 1, ⟨by omega, by rw [p2, hd (by omega), firstE, if_pos hb]⟩, by omega, (by (refine Entails.mk' [] rfl rfl ?_ ?_ <;> repeat' (first | exact True.intro | exact lr | exact rr | exact SV.le_int (by omega) | exact SV.le_any _ | refine And.intro ?_ ?_)); done)⟩
 · refine .ret _ ?_
   conv => whnf
   refine ⟨[], ⟨?_, rfl⟩, trivial⟩
   conv => lhs; whnf
   congr 2; rw [p2, List.drop_eq_nil_iff.2 (by omega)]; rfl
def ixF (p : Nat → Bool) : Nat → Int
 | 0 => -1
 | n + 1 => if ixF p n = -1 then (if p n = true then n else -1) else ixF p n
theorem ixF_none {p : Nat → Bool} : ∀ {n : Nat}, (∀ j, j < n → p j = false) → ixF p n = -1 := by
 intro n
 induction n with
 | zero => intro _; rfl
 | succ n ih => intro h; rw [ixF, if_pos (ih fun j hj => h j (by omega)), h n (by omega)]; rfl
theorem ixF_hit {p : Nat → Bool} {n i : Nat} (hi : i < n) (h : ∀ j, j < i → p j = false) (h1 : p i = true) : ixF p n = i := by
 induction n with
 | zero => omega
 | succ n ih =>
   rw [ixF]
   by_cases q : i < n
   · rw [ih q, if_neg (by omega)]
   · have : i = n := by omega
     subst this
     rw [if_pos (ixF_none h), if_pos h1]
theorem ixF_bd {p : Nat → Bool} : ∀ {n : Nat}, -1 ≤ ixF p n ∧ ixF p n < n ∧ (0 ≤ ixF p n → p (ixF p n).toNat = true) := by
 intro n
 induction n with
 | zero => simp [ixF]
 | succ n ih =>
   rw [ixF]
   split
   · split
     · rename_i h; exact ⟨by omega, by omega, fun _ => by simpa using h⟩
     · exact ⟨by omega, by omega, fun h => by omega⟩
   · exact ⟨ih.1, by omega, ih.2.2⟩
theorem s154 (n : Int) : FSpec Tryz.prog 49 [.d (.int .i64 n)] [] (fun x r => x = .d (.bool (decide (0 ≤ n ∧ n ≤ 5761439))) ∧ r = []) := by
 refine spec_of hT (C := []) Tryz.func49 rfl Tryz.call49 rfl rfl rfl ?_
 conv => whnf
 repeat' (first | (refine CallX.exact (s119 _ _ _) rfl rfl ?_; rotate_right; conv => whnf) | (refine br_intro ?_ ?_ <;> intro hb <;> (try simp only [brs] at hb) <;> conv => whnf) | omega | (refine And.intro ?_ ?_; ((try dsimp only); first | omega | (refine szA rfl ?_; omega) | (refine szB rfl ?_; omega) | (unfold inI64; omega) | exact rfl | (simp only [List.toList_toArray, List.length_cons, List.length_nil]; omega) | (simp only [lns] at *; omega) | decide | (unfold inI64; decide)); conv => whnf) | decide | assumption)
 refine .ret _ ?_
 conv => whnf
 refine ⟨[], ⟨?_, rfl⟩, trivial⟩
 conv => lhs; whnf
structure Ntr where
 name : Int
 pay : Int
 step : Int
 late : Int
structure Ntc where
 key : List UInt8
 plate : List UInt8
 tm : Int
 came : Int
 cents : Int
structure Chg where
 hire : List UInt8
 vehicle : List UInt8
 pas : Int
 cents : Int
structure Lin where
 kind : Int
 key : List UInt8
 cents : Int
deriving DecidableEq
theorem s17 (l : List Int) (hl : l.length ≤ 2^40) : FSpec Tryz.prog 18 [.d (ints l)] [] (fun x r => x = .d (.int .i64 (firstE l)) ∧ r = []) := by
 refine spec_of hT (C := []) Tryz.func18 rfl Tryz.call18 rfl rfl rfl ?_
 conv => whnf
 refine LoopX.rule hT (C := []) (ι := Nat) (fun i => i ≤ l.length ∧ firstE l = firstE (l.drop i)) (fun i => mkSt [(5, .d (ints l)), (6, .d (.int .i64 l.length)), (7, .d (.int .i64 i))] []) (fun i => l.length - i) 0 ⟨by omega, by simp⟩ (by (refine Entails.mk' [] rfl rfl ?_ ?_ <;> repeat' (first | exact True.intro | exact lr | exact rr | exact SV.le_int (by omega) | exact SV.le_any _ | refine And.intro ?_ ?_)); done) ?_
 rintro i ⟨p1, p2⟩
 have hd : i < l.length → l.drop i = l.getD i 0 :: l.drop (i + 1) := fun hi => by rw [List.drop_eq_getElem_cons hi, List.getD_eq_getElem?_getD, List.getElem?_eq_getElem hi]; rfl
 conv => whnf
 repeat' (first | (refine br_intro ?_ ?_ <;> intro hb <;> (try simp only [brs] at hb) <;> conv => whnf) | omega | (refine And.intro ?_ ?_; ((try dsimp only); first | omega | (refine szA rfl ?_; omega) | (refine szB rfl ?_; omega) | (unfold inI64; omega) | exact rfl | (simp only [List.toList_toArray, List.length_cons, List.length_nil]; omega) | (simp only [lns] at *; omega) | decide | (unfold inI64; decide)); conv => whnf) | decide | assumption)
 · refine .ret _ ?_
   conv => whnf
   refine ⟨[], ⟨?_, rfl⟩, trivial⟩
   conv => lhs; whnf
   congr 2; rw [p2, hd (by omega), firstE, if_neg hb, Int.toNat_natCast]
 · exact ⟨i + 1, ⟨by omega, by rw [p2, hd (by omega), firstE, if_pos hb]⟩, by omega, (by (refine Entails.mk' [] rfl rfl ?_ ?_ <;> repeat' (first | exact True.intro | exact lr | exact rr | exact SV.le_int (by omega) | exact SV.le_any _ | refine And.intro ?_ ?_)); done)⟩
 · refine .ret _ ?_
   conv => whnf
   refine ⟨[], ⟨?_, rfl⟩, trivial⟩
   conv => lhs; whnf
   congr 2; rw [p2, List.drop_eq_nil_iff.2 (by omega)]; rfl
theorem mem_len {l : List (List UInt8)} {u : List UInt8} (h : u ∈ l) (q : l.all (fun x => decide (x.length ≤ 8)) = true) : u.length ≤ 8 := by
 have := List.all_eq_true.1 q u h
 exact of_decide_eq_true this
theorem s133 (n : Int) : FSpec Tryz.prog 75 [.d (.int .i64 n)] [] (fun x r => x = .d (.bool (decide (0 ≤ n ∧ n ≤ 5761439))) ∧ r = []) := by
 refine spec_of hT (C := []) Tryz.func75 rfl Tryz.call75 rfl rfl rfl ?_
 conv => whnf
 repeat' (first | (refine CallX.exact (s110 _ _ _) rfl rfl ?_; rotate_right; conv => whnf) | (refine br_intro ?_ ?_ <;> intro hb <;> (try simp only [brs] at hb) <;> conv => whnf) | omega | (refine And.intro ?_ ?_; ((try dsimp only); first | omega | (refine szA rfl ?_; omega) | (refine szB rfl ?_; omega) | (unfold inI64; omega) | exact rfl | (simp only [List.toList_toArray, List.length_cons, List.length_nil]; omega) | (simp only [lns] at *; omega) | decide | (unfold inI64; decide)); conv => whnf) | decide | assumption)
 refine .ret _ ?_
 conv => whnf
 refine ⟨[], ⟨?_, rfl⟩, trivial⟩
 conv => lhs; whnf
def plateL : List UInt8 := [65, 66, 67, 68, 69, 70, 71, 72, 73, 74, 75, 76, 77, 78, 79, 80, 81, 82, 83, 84, 85, 86, 87, 88, 89, 90, 48, 49, 50, 51, 52, 53, 54, 55, 56, 57]
theorem plate_iff (c : UInt8) : plateL.contains c = plCh c := by
 have := u8_all (p := fun c => plateL.contains c == plCh c) (by decide +kernel) c
 simpa using this
theorem plate_eq (s : List UInt8) : isPlateB s = (decide (2 ≤ (s.length : Int) ∧ (s.length : Int) ≤ 10) && onlyB s plateL) := by
 have : s.all plCh = onlyB s plateL := by
  unfold onlyB; congr 1; funext c; exact (plate_iff c).symm
 unfold isPlateB; rw [this]
 cases onlyB s plateL
 · simp
 · rw [Bool.eq_iff_iff]; simp; omega
def cmpL : List (List UInt8) → List (List UInt8) → Int
 | [], [] => 0
 | [], _ :: _ => -1
 | _ :: _, [] => 1
 | x :: xs, y :: ys => if cmpS x y ≠ 0 then cmpS x y else cmpL xs ys
theorem s169 (l m : List (List UInt8)) (hl : l.length ≤ 2^40) (hm : m.length ≤ 2^40) : FSpec Tryz.prog 128 [.d (strs l), .d (strs m)] [] (fun x r => x = .d (.int .i64 (cmpL l m)) ∧ r = []) := by
 refine spec_of hT (C := []) Tryz.func128 rfl Tryz.call128 rfl rfl rfl ?_
 conv => whnf
 refine LoopX.rule hT (C := []) (ι := Nat) (fun i => i ≤ l.length ∧ i ≤ m.length ∧ cmpL l m = cmpL (l.drop i) (m.drop i)) (fun i => mkSt [(0, .d (strs l)), (1, .d (strs m)), (9, .d (strs l)), (10, .d (.int .i64 l.length)), (11, .d (.int .i64 i))] []) (fun i => l.length - i) 0 ⟨by omega, by omega, by simp⟩ (by (refine Entails.mk' [] rfl rfl ?_ ?_ <;> repeat' (first | exact True.intro | exact lr | exact rr | exact SV.le_int (by omega) | exact SV.le_any _ | refine And.intro ?_ ?_)); done) ?_
 rintro i ⟨p1, p2, p3⟩
 have hd : i < l.length → l.drop i = l.getD i [] :: l.drop (i + 1) := fun hi => by rw [List.drop_eq_getElem_cons hi, List.getD_eq_getElem?_getD, List.getElem?_eq_getElem hi]; rfl
 have hd2 : i < m.length → m.drop i = m.getD i [] :: m.drop (i + 1) := fun hi => by rw [List.drop_eq_getElem_cons hi, List.getD_eq_getElem?_getD, List.getElem?_eq_getElem hi]; rfl
 have e1 : (i : Int).toNat = i := Int.toNat_natCast i
 conv => whnf
 repeat' (first | (refine CallX.exact (s184 _ _) rfl rfl ?_; rotate_right; conv => whnf) | (refine br_intro ?_ ?_ <;> intro hb <;> (try simp only [brs] at hb) <;> conv => whnf) | omega | (refine And.intro ?_ ?_; ((try dsimp only); first | omega | (refine szA rfl ?_; omega) | (refine szB rfl ?_; omega) | (unfold inI64; omega) | exact rfl | (simp only [List.toList_toArray, List.length_cons, List.length_nil]; omega) | (simp only [lns] at *; omega) | decide | (unfold inI64; decide)); conv => whnf) | decide | assumption)
 · refine .ret _ ?_
   conv => whnf
   refine ⟨[], ⟨?_, rfl⟩, trivial⟩
   conv => lhs; whnf
   congr 2
   rw [p3, hd (by omega), List.drop_eq_nil_iff.2 (by omega : m.length ≤ i)]; rfl
 · refine .ret _ ?_
   conv => whnf
   refine ⟨[], ⟨?_, rfl⟩, trivial⟩
   conv => lhs; whnf
   congr 2
   rw [p3, hd (by omega), hd2 (by omega), cmpL, if_pos (by simpa using hb)]; simp only [e1]
 · refine ⟨i + 1, ⟨by omega, by omega, ?_⟩, by omega, (by (refine Entails.mk' [] rfl rfl ?_ ?_ <;> repeat' (first | exact True.intro | exact lr | exact rr | exact SV.le_int (by omega) | exact SV.le_any _ | refine And.intro ?_ ?_)); done)⟩
   rw [p3, hd (by omega), hd2 (by omega), cmpL, if_neg (by simpa using hb)]
 · refine .ret _ ?_
   conv => whnf
   refine ⟨[], ⟨?_, rfl⟩, trivial⟩
   conv => lhs; whnf
   congr 2
   have hm : i < m.length := by omega
   rw [p3, hd2 hm, List.drop_eq_nil_iff.2 (by omega : l.length ≤ i)]; rfl
 · refine .ret _ ?_
   conv => whnf
   refine ⟨[], ⟨?_, rfl⟩, trivial⟩
   conv => lhs; whnf
   congr 2
   rw [p3, List.drop_eq_nil_iff.2 (by omega : m.length ≤ i), List.drop_eq_nil_iff.2 (by omega : l.length ≤ i)]; rfl
theorem isKey_nil : isKeyB [] = false := by decide
theorem less_nil (a : List UInt8) : Op.bytesLess a [] = false := by cases a <;> rfl
theorem Res.le_put2 {α : Type} {f : α → List DV} {d : α} {l : List α} {x y : α} {e k j1 j2 : Nat} {ds1 ds2 : List DV} (h1 : ∀ z, setAtD (f z) 0 ds1 = f x) (h2 : ∀ z, setAtD (f z) 0 ds2 = f y) :
 Res.le (.buf e k l.length fun i => bif Nat.beq i j2 then setAtD (bif Nat.beq i j1 then setAtD (rowF f d l i) 0 ds1 else rowF f d l i) 0 ds2 else bif Nat.beq i j1 then setAtD (rowF f d l i) 0 ds1 else rowF f d l i) (seqB e k f d ((l.set j1 x).set j2 y)) := by
 refine Res.le_buf (by simp) (fun k hk => ?_)
 have e1 := rows_putG (f := f) (d := d) (l := l) (x := x) (j := j1) (off := 0) (ds := ds1) (get := rowF f d l) (fun _ _ => rfl) (fun z _ => h1 z)
 have e2 := rows_putG (f := f) (d := d) (l := l.set j1 x) (x := y) (j := j2) (off := 0) (ds := ds2) (get := fun i => bif Nat.beq i j1 then setAtD (rowF f d l i) 0 ds1 else rowF f d l i) (fun k hk => e1 k (by simpa using hk)) (fun z _ => h2 z)
 exact e2 k (by simpa using hk)
theorem mem_bd {l : List Int} {u : Int} (h : u ∈ l) (q : l.all (fun x => decide (-2^40 ≤ x ∧ x ≤ 2^40)) = true) : -2^40 ≤ u ∧ u ≤ 2^40 := by
 have := List.all_eq_true.1 q u h
 exact of_decide_eq_true this
theorem SV.le_upd {α : Type} {f : α → List DV} {d : α} {l : List α} {k j off : Nat} {ds : List DV} (g : α → α) (hg : ∀ y, setAtD (f y) off ds = f (g y)) :
 SV.le (.d (.ro k l.length fun i => bif Nat.beq i j then setAtD (rowF f d l i) off ds else rowF f d l i)) (.d (seqD k f d (l.set j (g (l.getD j d))))) :=
 SV.le_putF fun y hy => by rw [hg, List.getD_eq_getElem?_getD, hy]; rfl
end Go.Proofs.YtobgeiclibhiiaaGreatDoor
namespace Go.Proofs
open Go.Shelf
end Go.Proofs
set_option maxRecDepth 20000
namespace Go.Proofs.YtobgeiclibhiiaaGreatDoor
open Go Go.Eng Go.RowKit
theorem Res.le_appF {α : Type} {f : α → List DV} {d : α} {l m : List α} {e k : Nat} : Res.le (.buf e k (l.length + m.length) (appGet l.length (rowF f d l) (rowF f d m))) (seqB e k f d (l ++ m)) := by
 refine Res.le_buf (by simp) (fun i hi => ?_)
 by_cases h : i < l.length
 · rw [appGet_lt h]; simp only [rowF]; rw [List.getD_eq_getElem?_getD, List.getD_eq_getElem?_getD, List.getElem?_append_left h]
 · rw [appGet_ge (by omega)]; simp only [rowF]; rw [List.getD_eq_getElem?_getD, List.getD_eq_getElem?_getD, List.getElem?_append_right (by omega)]
theorem pas_eq {a b : Pas} : a = b ↔ a.tm = b.tm ∧ a.gate = b.gate ∧ a.plate = b.plate ∧ a.cents = b.cents := by cases a; cases b; simp
instance : DecidableEq Pas := fun _ _ => decidable_of_iff _ pas_eq.symm
structure Slt where
 day : Int
 many : Int
structure Wnt where
 v : List UInt8
 fr : Int
 to : Int
def wn0 : Wnt := ⟨[], 0, 0⟩
structure Plc where
 v : List UInt8
 day : Int
def pl0 : Plc := ⟨[], 0⟩
structure Bsy where
 v : List UInt8
 fr : Int
 to : Int
 cents : Int
def namesB (w : List Wnt) (l : List Plc) : Prop := w.length = l.length ∧ ∀ i, i < w.length → (w.getD i wn0).v = (l.getD i pl0).v
instance (w : List Wnt) (l : List Plc) : Decidable (namesB w l) := inferInstanceAs (Decidable (_ ∧ _))
theorem SV.le_drop {α : Type} {f : α → List DV} {d : α} {l : List α} {k j m : Nat} (hm : m = (l.drop j).length) : SV.le (.d (.ro k m fun i => rowF f d l (j + i))) (.d (seqD k f d (l.drop j))) :=
 SV.le_ro hm (fun i hi => by simp only [rowF]; rw [List.getD_eq_getElem?_getD, List.getD_eq_getElem?_getD, List.getElem?_drop])
theorem Res.le_upd {α : Type} {f : α → List DV} {d : α} {l : List α} {e k j off : Nat} {ds : List DV} (g : α → α) (hg : ∀ y, setAtD (f y) off ds = f (g y)) :
 Res.le (.buf e k l.length fun i => bif Nat.beq i j then setAtD (rowF f d l i) off ds else rowF f d l i) (seqB e k f d (l.set j (g (l.getD j d)))) :=
 Res.le_putF fun y hy => by rw [hg, List.getD_eq_getElem?_getD, hy]; rfl
def allK {α : Type} (K : α → Prop) (k : Nat) (l : List α) : Prop := l.length ≤ k ∧ ∀ x ∈ l, K x
theorem allK_snoc {α : Type} {K : α → Prop} {l : List α} {k m : Nat} {x : α} (h : allK K k l) (hm : k + 1 ≤ m) (hx : K x) : allK K m (l ++ [x]) := by
 refine ⟨by rw [List.length_append]; have := h.1; simp; omega, fun p hp => ?_⟩
 rcases List.mem_append.1 hp with q | q
 · exact h.2 p q
 · simp at q; subst q; exact hx
theorem allK_le {α : Type} {K : α → Prop} {l : List α} {k m : Nat} (h : allK K k l) (hm : k ≤ m) : allK K m l := ⟨by have := h.1; omega, h.2⟩
theorem allK_upd {α : Type} {K : α → Prop} {l : List α} {k j : Nat} {d : α} {g : α → α} (h : allK K k l) (hg : ∀ y, K y → K (g y)) : allK K k (l.set j (g (l.getD j d))) := by
 refine ⟨by rw [List.length_set]; exact h.1, fun p hp => ?_⟩
 by_cases hj : j < l.length
 · rcases List.mem_or_eq_of_mem_set hp with q | q
   · exact h.2 p q
   · subst q; exact hg _ (h.2 _ (getD_mem hj))
 · rw [List.set_eq_of_length_le (by omega)] at hp; exact h.2 p hp
theorem rows_updG {α : Type} {f : α → List DV} {d : α} {l : List α} {j off : Nat} {ds : List DV} {get : Nat → List DV} (hg : ∀ i, i < l.length → get i = rowF f d l i) (g : α → α) (h : ∀ y, setAtD (f y) off ds = f (g y)) :
 ∀ i, i < (l.set j (g (l.getD j d))).length → (bif Nat.beq i j then setAtD (get i) off ds else get i) = rowF f d (l.set j (g (l.getD j d))) i := by
 rw [List.length_set]
 exact rows_putG hg (fun y hy => by rw [h, List.getD_eq_getElem?_getD, hy]; rfl)
abbrev updL {α : Type} (l : List α) (j : Nat) (d : α) (g : α → α) : List α := l.set j (g (l.getD j d))
theorem SV.le_upd2 {α : Type} {f : α → List DV} {d : α} {l : List α} {k j1 j2 o1 o2 : Nat} {ds1 ds2 : List DV} (g1 g2 : α → α) (h1 : ∀ y, setAtD (f y) o1 ds1 = f (g1 y)) (h2 : ∀ y, setAtD (f y) o2 ds2 = f (g2 y)) :
 SV.le (.d (.ro k l.length fun i => bif Nat.beq i j2 then setAtD (bif Nat.beq i j1 then setAtD (rowF f d l i) o1 ds1 else rowF f d l i) o2 ds2 else (bif Nat.beq i j1 then setAtD (rowF f d l i) o1 ds1 else rowF f d l i)))
  (.d (seqD k f d (updL (updL l j1 d g1) j2 d g2))) :=
 SV.le_ro (by simp) (fun i hi => rows_updG (rows_updG (fun _ _ => rfl) g1 h1) g2 h2 i (by simpa using hi))
structure Ned where
 st : List UInt8
 many : Int
structure Roa where
 a : List UInt8
 b : List UInt8
 car : Int
 ride : Int
structure Mov where
 a : List UInt8
 b : List UInt8
 many : Int
structure Arc where
 fr : Int
 to : Int
 car : Int
 flow : Int
def stF : Int × Bool → List DV := fun s => [.int .i64 s.1, .bool s.2]
abbrev steps (l : List (Int × Bool)) : DV := seqD 2 stF (0, false) l
theorem mov_eq {a b : Mov} : a = b ↔ a.a = b.a ∧ a.b = b.b ∧ a.many = b.many := by cases a; cases b; simp
instance : DecidableEq Mov := fun _ _ => decidable_of_iff _ mov_eq.symm
end Go.Proofs.YtobgeiclibhiiaaGreatDoor
namespace Go.Proofs
open Go.Shelf
def Tryz.laysGrowE_ren : Go.Shelf.Ren := ⟨fun | 4 => 72 | n => n, fun | 22 => 44 | 25 => 48 | 3 => 3 | 4 => 4 | 9 => 9 | 20 => 20 | 0 => 0 | n => n, fun | n => n⟩
theorem Tryz.laysGrowE : Go.Proofs.Lays8.n4 Tryz.prog Tryz.laysGrowE_ren := {
 mixed := by kernel_rfl
 f4 := ⟨Tryz.f72.name, by decide, Tryz.func72.trans (congrArg some (by kernel_rfl))⟩
 t0 := Tryz.underlying0
 a0 := Tryz.isAgg0
 z0 := Tryz.sizeOf0
 v0 := Tryz.zeroValue0
 t3 := Tryz.underlying3
 a3 := Tryz.isAgg3
 z3 := Tryz.sizeOf3
 v3 := Tryz.zeroValue3
 t4 := Tryz.underlying4
 a4 := Tryz.isAgg4
 z4 := Tryz.sizeOf4
 v4 := Tryz.zeroValue4
 t9 := Tryz.underlying9
 a9 := Tryz.isAgg9
 z9 := Tryz.sizeOf9
 v9 := Tryz.zeroValue9
 t20 := Tryz.underlying20
 a20 := Tryz.isAgg20
 z20 := Tryz.sizeOf20
 v20 := Tryz.zeroValue20
 t22 := Tryz.underlying44
 a22 := Tryz.isAgg44
 z22 := Tryz.sizeOf44
 v22 := Tryz.zeroValue44 }
end Go.Proofs
set_option maxRecDepth 20000
namespace Go.Proofs.YtobgeiclibhiiaaGreatDoor
open Go Go.Eng Go.RowKit
structure Ent where
 tm : Int
 desk : List UInt8
 no : Int
 words : List UInt8
def enF : Ent → List DV := fun x => [.int .i64 x.tm, .str x.desk, .int .i64 x.no, .str x.words]
def en0 : Ent := ⟨0, [], 0, []⟩
abbrev ents (l : List Ent) : DV := seqD 4 enF en0 l
theorem sGrowE (n : Nat) (hn : n ≤ 2^20) : FSpec Tryz.prog 72 [.d .nilsl, .d (.int .i64 n)] [] (fun y r => y = .buf 1000001 ∧ r = [(1000001, .buf 48 4 0 fun _ => [])]) := by
 refine FSpec.ofRow (by decide) Tryz.call72 (fun G β w vs _ hl hd => ?_)
 match vs, hl with
 | [u, v], _ =>
   have hu := hd 0 _ _ rfl rfl
   have hv := hd 1 _ _ rfl rfl
   cases hu with | d _ _ hu => cases hu with | nilsl =>
   cases hv with | d _ _ hv => cases hv with | int _ _ =>
   by_cases h0 : n = 0
   · subst h0
     refine (Go.Proofs.Any8.slices_Grow_room Go.Proofs.Tryz.laysGrowE none 0 0 0 w (by decide) (by decide) (by decide) (by decide)).mono ?_
     rintro e w' ⟨rfl, rfl⟩
     exact ⟨Below.refl _ _, _, rfl, .inl rfl⟩
   · obtain ⟨_, inf, hi, hsz, hby, hz⟩ := hT.get (t := 48) (i := (T 48).get rfl) rfl
     have hg1 := grownCap_ge w (0 + n) 0 48
     have hg2 := grownCap_le_maxLen w (0 + n) 0 48 (by simp only [maxLen]; omega)
     refine (Go.Proofs.Any8.slices_Grow_grow Go.Proofs.Tryz.laysGrowE inf _ hi hz (by rw [hsz]; decide) none 0 0 n [] w (Nat.le_refl _) (by omega) (by rw [hby]; show (0 + n) * 48 ≤ _; omega) (by omega) (by simp) (fun _ => rfl) (fun a h => by cases h)).mono ?_
     rintro e w' ⟨rfl, rfl⟩
     refine ⟨⟨rfl, rfl, rfl, ?_, fun b hb => ?_⟩, _, rfl, .inr ⟨_, _, _, rfl, Nat.le_refl _, Array.getElem?_push_size, hg2, ?_⟩⟩
     · show w.heap.size ≤ (w.heap.push _).size
       rw [Array.size_push]; omega
     · show (w.heap.push _)[b]? = w.heap[b]?
       rw [Array.getElem?_push]; exact if_neg (by omega)
     · rw [Array.size_append, Array.size_append, size_zeroCells, size_zeroCells]
       show 0 + (0 + n - 0) * 4 + (grownCap w (0 + n) 0 48 - (0 + n)) * 4 = grownCap w (0 + n) 0 48 * 4
       omega
def esF : List Ent → List DV := fun l => [ents l]
abbrev entss (l : List (List Ent)) : DV := seqD 1 esF [] l
def lensE (l : List (List Ent)) : Nat := (l.map List.length).sum
theorem lensE_take {l : List (List Ent)} {i : Nat} (h : i < l.length) : lensE (l.take (i + 1)) = lensE (l.take i) + (l.getD i []).length := by
 unfold lensE; rw [take_snocD (d := []) h]; simp
theorem lensE_le {l : List (List Ent)} {i : Nat} : lensE (l.take i) ≤ lensE l := by
 have h := congrArg lensE (List.take_append_drop i l)
 have h2 : lensE (l.take i ++ l.drop i) = lensE (l.take i) + lensE (l.drop i) := by unfold lensE; rw [List.map_append, List.sum_append]
 omega
theorem flat_lenE (l : List (List Ent)) : l.flatten.length = lensE l := by
 unfold lensE; rw [List.length_flatten]
theorem sConcatE (l : List (List Ent)) (hl : l.length ≤ 2^20) (hn : lensE l ≤ 2^20) :
 FSpec Tryz.prog 34 [.d (entss l)] [] (fun y r => y = .buf 6 ∧ r = [(6, seqB 48 4 enF en0 l.flatten)]) := by
 refine spec_of hT (C := []) Tryz.func34 rfl Tryz.call34 rfl rfl rfl ?_
 conv => whnf
 refine LoopX.rule hT (C := []) (ι := Nat) (fun i => i ≤ l.length) (fun i => mkSt [(0, .d (entss l)), (3, .d (.int .i64 (lensE (l.take i)))), (9, .d (entss l)), (10, .d (.int .i64 l.length)), (11, .d (.int .i64 i))] []) (fun i => l.length - i) 0 (by omega) (by (refine Entails.mk' [] rfl rfl ?_ ?_ <;> repeat' (first | exact True.intro | exact lr | exact rr | exact SV.le_int (by omega) | exact SV.le_any _ | refine And.intro ?_ ?_)); done) ?_
 rintro i p1
 have e1 : (i : Int).toNat = i := Int.toNat_natCast i
 have hls : lensE (l.take i) ≤ lensE l := lensE_le
 have hls2 : i < l.length → lensE (l.take i) + (l.getD (i : Int).toNat []).length ≤ lensE l := fun h => by rw [e1, ← lensE_take h]; exact lensE_le
 conv => whnf
 repeat' (first | (refine br_intro ?_ ?_ <;> intro hb <;> (try simp only [brs] at hb) <;> conv => whnf) | omega | (refine And.intro ?_ ?_; ((try dsimp only); first | omega | (refine szA rfl ?_; omega) | (refine szB rfl ?_; omega) | (unfold inI64; omega) | exact rfl | (simp only [List.toList_toArray, List.length_cons, List.length_nil]; omega) | (simp only [lns] at *; omega) | decide | (unfold inI64; decide)); conv => whnf) | decide | assumption)
 · refine ⟨i + 1, by omega, by omega, Entails.mk' [] rfl rfl ⟨lr, SV.le_int ?_, lr, lr, lr, trivial⟩ trivial⟩
   rw [lensE_take (by omega), e1]; omega
 have hi : i = l.length := by omega
 subst hi
 rw [List.take_length] at *
 refine CallX.of (sGrowE (lensE l) hn) [(1000001, 24)] rfl ⟨lr, lr, trivial⟩ trivial rfl rfl ?_
 rintro x rout ⟨rfl, rfl⟩
 refine ⟨rfl, ?_⟩
 conv => whnf
 repeat' (first | (refine br_intro ?_ ?_ <;> intro hb <;> (try simp only [brs] at hb) <;> conv => whnf) | omega | (refine And.intro ?_ ?_; ((try dsimp only); first | omega | (refine szA rfl ?_; omega) | (refine szB rfl ?_; omega) | (unfold inI64; omega) | exact rfl | (simp only [List.toList_toArray, List.length_cons, List.length_nil]; omega) | (simp only [lns] at *; omega) | decide | (unfold inI64; decide)); conv => whnf) | decide | assumption)
 refine LoopX.rule hT (C := []) (ι := Nat) (fun i => i ≤ l.length) (fun i => mkSt [(6, .buf 6), (25, .d (entss l)), (26, .d (.int .i64 l.length)), (27, .d (.int .i64 i))] [(6, seqB 48 4 enF en0 (l.take i).flatten)]) (fun i => l.length - i) 0 (by omega) ?_ ?_
 · exact Entails.mk' [(6, 24)] rfl rfl ⟨lr, lr, lr, lr, trivial⟩ ⟨Res.le_buf rfl (fun i hi => absurd hi (by omega)), trivial⟩
 rintro i p1
 have e1 : (i : Int).toNat = i := Int.toNat_natCast i
 have hls : lensE (l.take i) ≤ lensE l := lensE_le
 have hf := flat_lenE (l.take i)
 have hls2 : (i : Int) < l.length → (l.take i).flatten.length + (l.getD (i : Int).toNat []).length ≤ 2^20 := fun h => by rw [e1, hf, ← lensE_take (by omega)]; exact Nat.le_trans lensE_le hn
 conv => whnf
 repeat' (first | (refine br_intro ?_ ?_ <;> intro hb <;> (try simp only [brs] at hb) <;> conv => whnf) | omega | (refine And.intro ?_ ?_; ((try dsimp only); first | omega | (refine szA rfl ?_; omega) | (refine szB rfl ?_; omega) | (unfold inI64; omega) | exact rfl | (simp only [List.toList_toArray, List.length_cons, List.length_nil]; omega) | (simp only [lns] at *; omega) | decide | (unfold inI64; decide)); conv => whnf) | decide | assumption)
 · have e2 : (l.take (i + 1)).flatten = (l.take i).flatten ++ l.getD (i : Int).toNat [] := by rw [take_snocD (d := []) (by omega), e1]; simp
   refine ⟨i + 1, by omega, by omega, Entails.mk' [(6, 33)] rfl rfl ⟨lr, lr, lr, lr, trivial⟩ ⟨?_, trivial⟩⟩
   rw [e2]; exact Res.le_appF
 · have hi : i = l.length := by omega
   subst hi
   refine .ret _ ?_
   conv => whnf
   refine ⟨_, ⟨rfl, rfl⟩, ?_, trivial⟩
   rw [List.take_length]; exact rr
def e1 : Ent := ⟨1, [100], 1, [120]⟩
abbrev enB (l : List Ent) : Res := seqB 48 4 enF en0 l
def MovedK (n : Nat) (L : Nat → Int) (a : Int) (c : Int) (r : List (Nat × Res)) : Prop := ∃ b, a ≤ b ∧ b ≤ a + c ∧ r = [(1000000, strm n L b), (1000009, KX)]
structure Pnl where
 key : List UInt8
 w : Int
 h : Int
 pr : Int
structure Mrk where
 pan : List UInt8
 kind : Int
 x : Int
 y : Int
 size : Int
structure Rul where
 near : Int
 slack : Int
 join : Int
 part : Int
theorem less_trans : ∀ {a b c : List UInt8}, Op.bytesLess a b = true → Op.bytesLess b c = true → Op.bytesLess a c = true := by
 intro a
 induction a with
 | nil => intro b c h1 h2; cases b <;> cases c <;> simp_all [Op.bytesLess]
 | cons x a ih =>
   intro b c h1 h2
   cases b with
   | nil => simp [Op.bytesLess] at h1
   | cons y b =>
     cases c with
     | nil => simp [Op.bytesLess] at h2
     | cons z c =>
       simp only [Op.bytesLess] at h1 h2 ⊢
       grind [UInt8.lt_trans]
theorem less_irr : ∀ (a : List UInt8), Op.bytesLess a a = false := by
 intro a
 induction a with
 | nil => rfl
 | cons x a ih => simp [Op.bytesLess, ih]
end Go.Proofs.YtobgeiclibhiiaaGreatDoor
namespace Go.Proofs
open Go.Shelf
def Tryz.lays106_ren : Go.Shelf.Ren := ⟨fun | 106 => 31 | 213 => 70 | 265 => 112 | n => n, fun | 9 => 9 | 3 => 3 | n => n, fun | n => n⟩
theorem Tryz.lays106 : Go.Proofs.Lays.n106 Tryz.prog Tryz.lays106_ren := {
 mixed := by kernel_rfl
 f106 := Tryz.func31.trans (congrArg some (by kernel_rfl))
 f213 := Tryz.func70.trans (congrArg some (by kernel_rfl))
 f265 := Tryz.func112.trans (congrArg some (by kernel_rfl))
 t3 := Tryz.underlying3
 a3 := Tryz.isAgg3
 z3 := Tryz.sizeOf3
 v3 := Tryz.zeroValue3
 t9 := Tryz.underlying9
 a9 := Tryz.isAgg9
 z9 := Tryz.sizeOf9
 v9 := Tryz.zeroValue9 }
end Go.Proofs
set_option maxRecDepth 20000
namespace Go.Proofs.YtobgeiclibhiiaaGreatDoor
open Go Go.Eng Go.RowKit
theorem cmpB_S : ∀ (a b : List UInt8), Lib.compareBytes a b = cmpS a b := by
 intro a
 induction a with
 | nil => intro b; cases b <;> simp [Lib.compareBytes, cmpS, Op.bytesLess]
 | cons x a ih =>
   intro b
   cases b with
   | nil => simp [Lib.compareBytes, cmpS, Op.bytesLess]
   | cons y b =>
     have := ih b
     unfold cmpS at this ⊢
     simp only [Lib.compareBytes, Op.bytesLess]
     grind
theorem s190 (a b : List UInt8) : FSpec Tryz.prog 31 [.d (.str a), .d (.str b)] [] (fun x r => x = .d (.int .i64 (cmpS a b)) ∧ r = []) := by
 refine FSpec.ofBelow Tryz.call31 (fun G β w vs _ hl hd => ?_)
 match vs, hl with
 | [u, v], _ =>
   have hu := hd 0 _ _ rfl rfl
   have hv := hd 1 _ _ rfl rfl
   cases hu with | d _ _ hu => cases hu with | str _ =>
   cases hv with | d _ _ hv => cases hv with | str _ =>
   refine ⟨.int .i64 (Lib.compareBytes a b), fun G β => ?_, (Go.Proofs.Any.strings_Compare Go.Proofs.Tryz.lays106 ⟨a.toArray⟩ ⟨b.toArray⟩ w).mono ?_⟩
   · rw [← cmpB_S]; exact .d _ _ (.int _ _)
   · rintro e w' ⟨he, rfl⟩
     exact ⟨he, Below.refl _ _⟩
end Go.Proofs.YtobgeiclibhiiaaGreatDoor
namespace Go.Proofs
open Go.Shelf
end Go.Proofs
set_option maxRecDepth 20000
namespace Go.Proofs.YtobgeiclibhiiaaGreatDoor
open Go Go.Eng Go.RowKit
end Go.Proofs.YtobgeiclibhiiaaGreatDoor
set_option maxRecDepth 20000
namespace Go.Proofs.YtobgeiclibhiiaaGreatDoor
open Go Go.Eng Go.RowKit
end Go.Proofs.YtobgeiclibhiiaaGreatDoor
set_option maxRecDepth 20000
namespace Go.Proofs.YtobgeiclibhiiaaGreatDoor
open Go Go.Eng Go.RowKit
def su (F : Nat → Int) : Nat → Int
 | 0 => 0
 | n + 1 => su F n + F n
theorem su_congr {F H : Nat → Int} : ∀ {n : Nat}, (∀ k, k < n → F k = H k) → su F n = su H n
 | 0, _ => rfl
 | n + 1, h => by rw [su, su, su_congr (fun k hk => h k (by omega)), h n (by omega)]
theorem su_le {F H : Nat → Int} : ∀ {n : Nat}, (∀ k, k < n → F k ≤ H k) → su F n ≤ su H n
 | 0, _ => Int.le_refl _
 | n + 1, h => by
   have h1 := su_le (n := n) (fun k hk => h k (by omega))
   have h2 := h n (by omega)
   rw [su, su]; omega
theorem su_sub (F H : Nat → Int) : ∀ n, su (fun k => F k - H k) n = su F n - su H n
 | 0 => rfl
 | n + 1 => by rw [su, su, su, su_sub F H n]; omega
theorem su_zero {F : Nat → Int} {n : Nat} (h : ∀ k, k < n → F k = 0) : su F n = 0 := by
 have : ∀ m, su (fun _ => 0) m = 0 := fun m => by
  induction m with
  | zero => rfl
  | succ m ih => rw [su, ih]; rfl
 rw [su_congr (H := fun _ => 0) h, this]
theorem su_nn {F : Nat → Int} {n : Nat} (h : ∀ k, k < n → 0 ≤ F k) : 0 ≤ su F n := by
 have := su_le (F := fun _ => 0) (H := F) (n := n) h
 rwa [su_zero (fun _ _ => rfl)] at this
theorem su_one {a n : Nat} {x : Int} (h : a < n) : su (fun v => if a = v then x else 0) n = x := by
 induction n with
 | zero => omega
 | succ n ih =>
   rw [su]
   by_cases q : a = n
   · subst q
     rw [if_pos rfl, su_zero (fun k hk => if_neg (by omega))]; omega
   · rw [if_neg q, ih (by omega)]; omega
structure Nw where
 K : Nat
 N : Nat
 fr : Nat → Nat
 to : Nat → Nat
 c : Nat → Int
structure Nw.Ok (G : Nw) : Prop where
 fr : ∀ k, k < G.K → G.fr k < G.N
 to : ∀ k, k < G.K → G.to k < G.N
 c0 : ∀ k, k < G.K → 0 ≤ G.c k
def Nw.net (G : Nw) (f : Nat → Int) (v : Nat) : Int := su (fun k => (if G.fr k = v then f k else 0) - (if G.to k = v then f k else 0)) G.K
def Nw.cost (G : Nw) (f : Nat → Int) : Int := su (fun k => f k * G.c k) G.K
theorem Nw.net_sub (G : Nw) (f g : Nat → Int) (v : Nat) : G.net (fun k => g k - f k) v = G.net g v - G.net f v := by
 unfold Nw.net
 rw [← su_sub]
 refine su_congr fun k _ => ?_
 by_cases a : G.fr k = v <;> by_cases b : G.to k = v <;> simp [a, b] <;> omega
def Nw.Fills (G : Nw) (have_ want : Nat → Int) (g : Nat → Int) : Prop := (∀ k, k < G.K → 0 ≤ g k) ∧ ∀ v, v < G.N → - want v ≤ G.net g v ∧ G.net g v ≤ have_ v - want v
structure Nw.St (G : Nw) (have_ want f left lack : Nat → Int) : Prop where
 f0 : ∀ k, k < G.K → 0 ≤ f k
 left0 : ∀ v, v < G.N → 0 ≤ left v ∧ left v ≤ have_ v
 lack0 : ∀ v, v < G.N → 0 ≤ lack v ∧ lack v ≤ want v
 net : ∀ v, v < G.N → G.net f v = (have_ v - left v) - (want v - lack v)
structure Nw.Pot (G : Nw) (have_ f left p : Nat → Int) : Prop where
 p0 : ∀ v, v < G.N → 0 ≤ p v
 ar : ∀ k, k < G.K → p (G.to k) ≤ p (G.fr k) + G.c k
 tight : ∀ k, k < G.K → 0 < f k → p (G.fr k) + G.c k ≤ p (G.to k)
 left : ∀ v, v < G.N → 0 < left v → p v ≤ 0
theorem Nw.cost_sub (G : Nw) (f g : Nat → Int) : G.cost g - G.cost f = su (fun k => (g k - f k) * G.c k) G.K := by
 unfold Nw.cost
 rw [← su_sub]
 exact su_congr fun k _ => by rw [Int.sub_mul]
def farD : Int := 1125899906842624
def upd {α : Type} (f : Nat → α) (a : Nat) (x : α) : Nat → α := fun v => if v = a then x else f v
theorem upd_self {α : Type} {f : Nat → α} {a : Nat} {x : α} : upd f a x a = x := if_pos rfl
theorem upd_ne {α : Type} {f : Nat → α} {a v : Nat} {x : α} (h : v ≠ a) : upd f a x v = f v := if_neg h
def Nw.hd (G : Nw) (e : Nat × Bool) : Nat := if e.2 = true then G.fr e.1 else G.to e.1
def Nw.tl (G : Nw) (e : Nat × Bool) : Nat := if e.2 = true then G.to e.1 else G.fr e.1
def Nw.cc (G : Nw) (e : Nat × Bool) : Int := if e.2 = true then - G.c e.1 else G.c e.1
def Nw.Re (G : Nw) (f : Nat → Int) (e : Nat × Bool) : Prop := e.1 < G.K ∧ (e.2 = true → 0 < f e.1)
theorem Nw.hd_lt {G : Nw} (h : G.Ok) {e : Nat × Bool} (he : e.1 < G.K) : G.hd e < G.N ∧ G.tl e < G.N := by
 unfold Nw.hd Nw.tl
 have := h.fr _ he
 have := h.to _ he
 cases e.2 <;> simp <;> omega
inductive Nw.Ch (G : Nw) (b : Nat → Option (Nat × Bool)) (Q : Nat × Bool → Prop) : Nat → Nat → Nat → Prop
 | root (v : Nat) (h : b v = none) : Nw.Ch G b Q v 0 v
 | step (v n r : Nat) (e : Nat × Bool) (h : b v = some e) (hq : Q e) (hc : Nw.Ch G b Q (G.tl e) n r) : Nw.Ch G b Q v (n + 1) r
theorem Nw.Ch.uniq {G : Nw} {b : Nat → Option (Nat × Bool)} {Q Q' : Nat × Bool → Prop} {v n r : Nat} (h : G.Ch b Q v n r) : ∀ {m s : Nat}, G.Ch b Q' v m s → n = m ∧ r = s := by
 induction h with
 | root v hv =>
   intro m s h2
   cases h2 with
   | root _ _ => exact ⟨rfl, rfl⟩
   | step _ _ _ e he _ _ => rw [hv] at he; cases he
 | step v n r e he _ _ ih =>
   intro m s h2
   cases h2 with
   | root _ hv => rw [hv] at he; cases he
   | step _ n' _ e' he' _ hc' =>
     rw [he] at he'; cases he'
     obtain ⟨rfl, rfl⟩ := ih hc'
     exact ⟨rfl, rfl⟩
structure Nw.Wy (G : Nw) (f left p dist : Nat → Int) (b : Nat → Option (Nat × Bool)) : Prop where
 d1 : ∀ v, v < G.N → dist v ≤ farD ∧ (dist v < farD → p v ≤ dist v)
 src : ∀ v, v < G.N → 0 < left v → dist v = 0 ∧ b v = none
 root : ∀ v, v < G.N → b v = none → dist v < farD → 0 < left v
 st : ∀ v e, v < G.N → b v = some e → G.Re f e ∧ G.hd e = v ∧ dist (G.tl e) < farD ∧ dist (G.tl e) + G.cc e ≤ dist v ∧ dist v < farD
 rt : ∀ v, v < G.N → dist v < farD → ∃ n r, G.Ch b (fun _ => True) v n r
def Nw.Fin (G : Nw) (f dist : Nat → Int) : Prop := ∀ e, G.Re f e → dist (G.tl e) < farD → dist (G.hd e) ≤ dist (G.tl e) + G.cc e
theorem Nw.Wy.tight {G : Nw} {f left p dist : Nat → Int} {b : Nat → Option (Nat × Bool)} (hw : G.Wy f left p dist b) (hf : G.Fin f dist) {v : Nat} {e : Nat × Bool} (hv : v < G.N) (he : b v = some e) : dist v = dist (G.tl e) + G.cc e := by
 obtain ⟨s1, s2, s3, s4, s5⟩ := hw.st v e hv he
 have := hf e s1 s3
 rw [s2] at this
 omega
theorem Nw.net_upd (G : Nw) (g : Nat → Int) {k : Nat} (hk : k < G.K) (x : Int) (v : Nat) : G.net (upd g k x) v = G.net g v + (if G.fr k = v then x - g k else 0) - (if G.to k = v then x - g k else 0) := by
 have h := G.net_sub g (upd g k x) v
 have e : G.net (fun i => upd g k x i - g i) v = (if G.fr k = v then x - g k else 0) - (if G.to k = v then x - g k else 0) := by
  unfold Nw.net
  rw [su_congr (H := fun i => if k = i then ((if G.fr k = v then x - g k else 0) - (if G.to k = v then x - g k else 0)) else 0) (fun i _ => ?_), su_one hk]
  by_cases q : i = k
  · rw [if_pos q.symm, q]; simp only [upd_self]
  · rw [if_neg (show ¬ k = i from fun z => q z.symm)]; simp [upd_ne q]
 omega
theorem ite_sw {a v : Nat} {x y : Int} (h : x = y) : (if a = v then x else 0) = (if v = a then y else 0) := by
 subst h
 by_cases q : a = v
 · rw [if_pos q, if_pos q.symm]
 · rw [if_neg q, if_neg (fun z => q z.symm)]
theorem Nw.cost_upd (G : Nw) (g : Nat → Int) {k : Nat} (hk : k < G.K) (x : Int) : G.cost (upd g k x) = G.cost g + (x - g k) * G.c k := by
 have h := G.cost_sub g (upd g k x)
 have e : su (fun i => (upd g k x i - g i) * G.c i) G.K = (x - g k) * G.c k := by
  rw [su_congr (H := fun i => if k = i then (x - g k) * G.c k else 0) (fun i _ => ?_), su_one hk]
  by_cases q : i = k
  · rw [if_pos q.symm, q, upd_self]
  · rw [if_neg (show ¬ k = i from fun z => q z.symm), upd_ne q]; simp
 omega
structure Nw.Bot (G : Nw) (f dist : Nat → Int) (b : Nat → Option (Nat × Bool)) (t : Nat) (lk : Int) (a : Nat) (m : Int) : Prop where
 ch : ∀ m' n' r, m' ≤ m → G.Ch b (fun e => e.2 = true → m' ≤ f e.1) a n' r → ∃ n, G.Ch b (fun e => e.2 = true → m' ≤ f e.1) t n r
 aN : a < G.N
 dn : dist a < farD
 m1 : 1 ≤ m ∧ m ≤ lk
theorem Nw.Bot.step {G : Nw} (hG : G.Ok) {f left p dist : Nat → Int} {b : Nat → Option (Nat × Bool)} (hw : G.Wy f left p dist b) {t a : Nat} {lk m : Int} (h : G.Bot f dist b t lk a m) {e : Nat × Bool} (he : b a = some e) :
 G.Bot f dist b t lk (G.tl e) (if e.2 = true then min m (f e.1) else m) := by
 obtain ⟨s1, s2, s3, s4, s5⟩ := hw.st a e h.aN he
 have hm := h.m1
 have hq := s1.2
 refine ⟨fun m' n' r hm' hc => ?_, (Nw.hd_lt hG s1.1).2, s3, ?_⟩
 · refine h.ch m' (n' + 1) r ?_ (.step a n' r e he (fun w => ?_) hc)
   · split at hm' <;> omega
   · rw [if_pos w] at hm'; omega
 · cases w : e.2
   · simp; omega
   · have := hq w
     simp; omega
theorem Nw.Bot.done {G : Nw} {f dist : Nat → Int} {b : Nat → Option (Nat × Bool)} {t a : Nat} {lk m : Int} (h : G.Bot f dist b t lk a m) (ha : b a = none) {m' : Int} (hm : m' ≤ m) : ∃ n, G.Ch b (fun e => e.2 = true → m' ≤ f e.1) t n a :=
 h.ch m' 0 a hm (.root a ha)
structure Nw.Aug (G : Nw) (f dist : Nat → Int) (b : Nat → Option (Nat × Bool)) (t : Nat) (m : Int) (g : Nat → Int) (a n r : Nat) : Prop where
 ch : G.Ch b (fun e => e.2 = true → m ≤ f e.1) a n r
 aN : a < G.N
 dn : dist a < farD
 fl : ∀ k, k < G.K → f k ≤ g k ∨ ∃ j s, G.Ch b (fun _ => True) (G.fr k) j s ∧ n < j ∧ f k ≤ g k + m ∧ m ≤ f k
 net : ∀ v, G.net g v = G.net f v - (if v = t then m else 0) + (if v = a then m else 0)
 cost : G.cost g = G.cost f + m * (dist t - dist a)
 pos : ∀ k, k < G.K → 0 < g k → 0 < f k ∨ (dist (G.fr k) < farD ∧ dist (G.to k) = dist (G.fr k) + G.c k)
theorem Nw.Ch.weak {G : Nw} {b : Nat → Option (Nat × Bool)} {Q : Nat × Bool → Prop} {v n r : Nat} (h : G.Ch b Q v n r) : G.Ch b (fun _ => True) v n r := by
 induction h with
 | root v hv => exact .root v hv
 | step v n r e he _ _ ih => exact .step v n r e he trivial ih
theorem Nw.Aug.step {G : Nw} (hG : G.Ok) {f left p dist : Nat → Int} {b : Nat → Option (Nat × Bool)} (hw : G.Wy f left p dist b) (hf : G.Fin f dist) {t a n r : Nat} {m : Int} (hm : 0 ≤ m) {g : Nat → Int} (h : G.Aug f dist b t m g a n r) {e : Nat × Bool} (he : b a = some e) :
 ∃ n', n = n' + 1 ∧ G.Aug f dist b t m (upd g e.1 (if e.2 = true then g e.1 - m else g e.1 + m)) (G.tl e) n' r := by
 have hch := h.ch
 cases hch with
 | root _ hv => rw [hv] at he; cases he
 | step _ n' _ e' he' hq hc =>
   rw [he] at he'; cases he'
   obtain ⟨s1, s2, s3, s4, s5⟩ := hw.st a e h.aN he
   have htg := hw.tight hf h.aN he
   have hch := h.ch
   refine ⟨n', rfl, hc, (Nw.hd_lt hG s1.1).2, s3, fun k hk => ?_, fun v => ?_, ?_, fun k hk hg => ?_⟩
   · rcases h.fl k hk with w | ⟨j, s, w1, w2, w3, w4⟩
     · by_cases q : k = e.1
       · rw [q, upd_self]
         rw [q] at w
         cases z : e.2
         · left; simp; omega
         · right
           have hz : G.hd e = G.fr e.1 := by unfold Nw.hd; rw [z]; rfl
           rw [s2] at hz
           refine ⟨n' + 1, r, ?_, by omega, by simp; omega, hq z⟩
           rw [← hz]
           exact hch.weak
       · rw [upd_ne q]; exact .inl w
     · right
       refine ⟨j, s, w1, by omega, ?_, w4⟩
       by_cases q : k = e.1
       · rw [q, upd_self]
         rw [q] at w1 w3
         cases z : e.2
         · simp; omega
         · exfalso
           have hz : G.hd e = G.fr e.1 := by unfold Nw.hd; rw [z]; rfl
           rw [s2] at hz
           rw [← hz] at w1
           have := hch.weak.uniq w1
           omega
       · rw [upd_ne q]; exact w3
   · rw [G.net_upd g s1.1, h.net v]
     have hhd : G.hd e = a := s2
     unfold Nw.hd at hhd
     unfold Nw.tl
     cases z : e.2 <;> rw [z] at hhd <;> simp only [if_true, if_false, Bool.false_eq_true] at hhd ⊢
     · have c1 : (if G.to e.1 = v then g e.1 + m - g e.1 else 0) = (if v = a then m else 0) := by rw [hhd]; exact ite_sw (by omega)
       have c2 : (if G.fr e.1 = v then g e.1 + m - g e.1 else 0) = (if v = G.fr e.1 then m else 0) := ite_sw (by omega)
       rw [c1, c2]; omega
     · have c1 : (if G.fr e.1 = v then g e.1 - m - g e.1 else 0) = (if v = a then - m else 0) := by rw [hhd]; exact ite_sw (by omega)
       have c2 : (if G.to e.1 = v then g e.1 - m - g e.1 else 0) = (if v = G.to e.1 then - m else 0) := ite_sw (by omega)
       rw [c1, c2]
       by_cases q : v = a <;> by_cases w : v = G.to e.1 <;> simp only [q, w, if_true, if_false] <;> (try split) <;> omega
   · rw [G.cost_upd g s1.1, h.cost]
     have e1 : (if e.2 = true then g e.1 - m else g e.1 + m) - g e.1 = if e.2 = true then - m else m := by split <;> omega
     rw [e1, htg]
     unfold Nw.cc
     cases z : e.2
     · simp only [if_false, Bool.false_eq_true]
       rw [show dist t - dist (G.tl e) = (dist t - (dist (G.tl e) + G.c e.1)) + G.c e.1 by omega, Int.mul_add]; omega
     · simp only [if_true]
       have e2 : m * (dist t - dist (G.tl e)) = m * (dist t - (dist (G.tl e) + - G.c e.1)) - m * G.c e.1 := by rw [← Int.mul_sub]; congr 1; omega
       rw [e2, Int.neg_mul]; omega
   · by_cases q : k = e.1
     · rw [q, upd_self] at hg
       rw [q]
       cases z : e.2
       · right
         have hz : G.hd e = G.to e.1 := by unfold Nw.hd; rw [z]; rfl
         have ht : G.tl e = G.fr e.1 := by unfold Nw.tl; rw [z]; rfl
         have hcc : G.cc e = G.c e.1 := by unfold Nw.cc; rw [z]; rfl
         rw [← hz, ← ht, s2]
         rw [hcc] at htg
         exact ⟨s3, htg⟩
       · exact .inl (s1.2 z)
     · rw [upd_ne q] at hg
       exact h.pos k hk hg
structure Nw.Op (G : Nw) (R : Nat × Bool → Prop) (p : Nat → Int) : Prop where
 lt : ∀ e, R e → e.1 < G.K
 le : ∀ e, R e → p (G.hd e) ≤ p (G.tl e) + G.cc e
structure Nw.Pw (G : Nw) (R : Nat × Bool → Prop) (p : Nat → Int) (P : Int) (dist : Nat → Int) (b : Nat → Option (Nat × Bool)) : Prop where
 low : ∀ v, v < G.N → p v - P ≤ dist v ∧ dist v ≤ 0
 root : ∀ v, v < G.N → b v = none → dist v = 0
 st : ∀ v e, v < G.N → b v = some e → R e ∧ G.hd e = v ∧ dist (G.tl e) + G.cc e ≤ dist v
 rt : ∀ v, v < G.N → ∃ n r, G.Ch b (fun _ => True) v n r
structure Nw.Prc (G : Nw) (have_ f gone y : Nat → Int) : Prop where
 ar : ∀ k, k < G.K → y (G.to k) ≤ y (G.fr k) + G.c k
 tight : ∀ k, k < G.K → 0 < f k → y (G.to k) = y (G.fr k) + G.c k
 lo : ∀ v, v < G.N → 0 < have_ v → gone v < have_ v → y v ≤ 0
 hi : ∀ v, v < G.N → 0 < have_ v → 0 < gone v → 0 ≤ y v
structure Nw.Bip (G : Nw) (B : Nat → Bool) : Prop where
 fr : ∀ k, k < G.K → G.fr k < G.N ∧ B (G.fr k) = true
 to : ∀ k, k < G.K → G.to k < G.N ∧ B (G.to k) = false
structure Nw.Fl (G : Nw) (B : Nat → Bool) (h w g : Nat → Int) : Prop where
 g0 : ∀ k, k < G.K → 0 ≤ g k
 src : ∀ v, v < G.N → B v = true → G.net g v ≤ h v
 dst : ∀ v, v < G.N → B v = false → G.net g v = - w v
theorem Nw.Bip.net_src {G : Nw} {B : Nat → Bool} (hb : G.Bip B) {g : Nat → Int} (h0 : ∀ k, k < G.K → 0 ≤ g k) {v : Nat} (hv : B v = true) : 0 ≤ G.net g v := by
 refine su_nn fun k hk => ?_
 have := (hb.to k hk).2
 have h1 : ¬ G.to k = v := fun q => by rw [q, hv] at this; cases this
 have := h0 k hk
 rw [if_neg h1]
 split <;> omega
theorem Nw.Bip.net_dst {G : Nw} {B : Nat → Bool} (hb : G.Bip B) {g : Nat → Int} (h0 : ∀ k, k < G.K → 0 ≤ g k) {v : Nat} (hv : B v = false) : G.net g v ≤ 0 := by
 have h : G.net g v ≤ su (fun _ => 0) G.K := su_le fun k hk => by
  have := (hb.fr k hk).2
  have h1 : ¬ G.fr k = v := fun q => by rw [q, hv] at this; cases this
  have := h0 k hk
  simp only [if_neg h1]
  split <;> omega
 rwa [su_zero (fun _ _ => rfl)] at h
theorem Nw.Bip.fl {G : Nw} {B : Nat → Bool} (hb : G.Bip B) {h w : Nat → Int} (hh : ∀ v, v < G.N → B v = false → h v = 0) (hw : ∀ v, v < G.N → B v = true → w v = 0) (g : Nat → Int) : G.Fills h w g ↔ G.Fl B h w g := by
 constructor
 · rintro ⟨h0, h1⟩
   refine ⟨h0, fun v hv q => ?_, fun v hv q => ?_⟩
   · have := h1 v hv; have := hw v hv q; omega
   · have := h1 v hv; have := hh v hv q; omega
 · intro hg
   refine ⟨hg.g0, fun v hv => ?_⟩
   cases q : B v
   · have := hg.dst v hv q; have := hh v hv q; omega
   · have := hg.src v hv q; have := hw v hv q; have := hb.net_src hg.g0 q; omega
def Nw.sh (G : Nw) (a : Nat) : Nw := ⟨G.K - a, G.N, fun k => G.fr (a + k), fun k => G.to (a + k), fun k => G.c (a + k)⟩
theorem Nw.Bip.sh {G : Nw} {B : Nat → Bool} (h : G.Bip B) (a : Nat) : (G.sh a).Bip B :=
 ⟨fun k hk => h.fr (a + k) (by have hk : k < G.K - a := hk; omega), fun k hk => h.to (a + k) (by have hk : k < G.K - a := hk; omega)⟩
def vtl (x : Nat → Int) : Nat → Int := fun k => x (k + 1)
theorem su_cons (F : Nat → Int) : ∀ n, su F (n + 1) = F 0 + su (fun k => F (k + 1)) n
 | 0 => by simp [su]
 | n + 1 => by rw [su, su_cons F n, su]; omega
theorem Nw.net_cons {G : Nw} {a : Nat} (ha : a < G.K) (x : Nat → Int) (v : Nat) : (G.sh a).net x v = (if G.fr a = v then x 0 else 0) - (if G.to a = v then x 0 else 0) + (G.sh (a + 1)).net (vtl x) v := by
 unfold Nw.net
 have e : (G.sh a).K = (G.sh (a + 1)).K + 1 := by show G.K - a = G.K - (a + 1) + 1; omega
 rw [e, su_cons]
 congr 1
 refine su_congr fun k _ => ?_
 show (if G.fr (a + (k + 1)) = v then x (k + 1) else 0) - (if G.to (a + (k + 1)) = v then x (k + 1) else 0) = (if G.fr (a + 1 + k) = v then x (k + 1) else 0) - (if G.to (a + 1 + k) = v then x (k + 1) else 0)
 rw [show a + (k + 1) = a + 1 + k by omega]
def les (h : Nat → Int) (v : Nat) (u : Int) : Nat → Int := upd h v (h v - u)
theorem les_at (h : Nat → Int) (v i : Nat) (u : Int) : les h v u i = h i - (if v = i then u else 0) := by
 unfold les upd
 by_cases q : i = v
 · rw [if_pos q, if_pos q.symm, q]
 · rw [if_neg q, if_neg (fun z => q z.symm)]; omega
theorem Nw.fl_cons {G : Nw} {B : Nat → Bool} (hb : G.Bip B) {a : Nat} (ha : a < G.K) {h w x : Nat → Int} : (G.sh a).Fl B h w x ↔ 0 ≤ x 0 ∧ (G.sh (a + 1)).Fl B (les h (G.fr a) (x 0)) (les w (G.to a) (x 0)) (vtl x) := by
 have hf := hb.fr a ha
 have ht := hb.to a ha
 constructor
 · intro hx
   refine ⟨hx.g0 0 (by show 0 < G.K - a; omega), fun k hk => hx.g0 (k + 1) (by have hk : k < G.K - (a + 1) := hk; show k + 1 < G.K - a; omega), fun v hv q => ?_, fun v hv q => ?_⟩
   · have h1 := hx.src v hv q
     rw [Nw.net_cons ha] at h1
     have : ¬ G.to a = v := fun z => by rw [z, q] at ht; cases ht.2
     rw [if_neg this] at h1
     rw [les_at]; omega
   · have h1 := hx.dst v hv q
     rw [Nw.net_cons ha] at h1
     have : ¬ G.fr a = v := fun z => by rw [z, q] at hf; cases hf.2
     rw [if_neg this] at h1
     rw [les_at]; omega
 · rintro ⟨h0, hx⟩
   refine ⟨fun k hk => ?_, fun v hv q => ?_, fun v hv q => ?_⟩
   · cases k with
     | zero => exact h0
     | succ k => exact hx.g0 k (by have hk : k + 1 < G.K - a := hk; show k < G.K - (a + 1); omega)
   · have h1 := hx.src v hv q
     rw [les_at] at h1
     rw [Nw.net_cons ha]
     have : ¬ G.to a = v := fun z => by rw [z, q] at ht; cases ht.2
     rw [if_neg this]; omega
   · have h1 := hx.dst v hv q
     rw [les_at] at h1
     rw [Nw.net_cons ha]
     have : ¬ G.fr a = v := fun z => by rw [z, q] at hf; cases hf.2
     rw [if_neg this]; omega
theorem Nw.Fl.first {G : Nw} {B : Nat → Bool} (hb : G.Bip B) {a : Nat} (ha : a < G.K) {h w x : Nat → Int} (hx : (G.sh a).Fl B h w x) : 0 ≤ x 0 ∧ x 0 ≤ h (G.fr a) ∧ x 0 ≤ w (G.to a) := by
 obtain ⟨h0, hx2⟩ := (Nw.fl_cons hb ha).1 hx
 have hf := hb.fr a ha
 have ht := hb.to a ha
 have h1 := hx2.src _ hf.1 hf.2
 have h2 := hx2.dst _ ht.1 ht.2
 have h3 := (hb.sh (a + 1)).net_src hx2.g0 hf.2
 have h4 := (hb.sh (a + 1)).net_dst hx2.g0 ht.2
 rw [les_at, if_pos rfl] at h1 h2
 omega
def Bef (n : Nat) (x y : Nat → Int) : Prop := ∃ k, k < n ∧ (∀ j, j < k → x j = y j) ∧ 1 ≤ x k ∧ (y k = 0 ∨ x k < y k)
structure Nw.Best (G : Nw) (B : Nat → Bool) (h w : Nat → Int) (c : Int) (x : Nat → Int) : Prop where
 fl : G.Fl B h w x
 cost : G.cost x = c
 le : ∀ y, G.Fl B h w y → c ≤ G.cost y
 bef : ∀ y, G.Fl B h w y → G.cost y = c → (∀ k, k < G.K → y k = x k) ∨ Bef G.K x y
def cmpF {α : Type} (c : α → α → Int) : List α → List α → Int
 | [], [] => 0
 | [], _ :: _ => -1
 | _ :: _, [] => 1
 | a :: l, b :: m => if c a b = 0 then cmpF c l m else c a b
structure COrd {α : Type} (c : α → α → Int) : Prop where
 eq : ∀ a b, c a b = 0 ↔ a = b
 sw : ∀ a b, c a b < 0 ↔ 0 < c b a
 tr : ∀ a b d, c a b < 0 → c b d < 0 → c a d < 0
theorem COrd.list {α : Type} {c : α → α → Int} (h : COrd c) : COrd (cmpF c) := by
 refine ⟨?_, ?_, ?_⟩
 · intro a
   induction a with
   | nil => intro b; cases b <;> simp [cmpF]
   | cons x a ih =>
     intro b
     cases b with
     | nil => simp [cmpF]
     | cons y b =>
       rw [cmpF]
       by_cases q : c x y = 0
       · rw [if_pos q, ih]
         have := (h.eq x y).1 q
         subst this
         simp
       · rw [if_neg q]
         have : ¬ x = y := fun z => q ((h.eq x y).2 z)
         simp [q, this]
 · intro a
   induction a with
   | nil => intro b; cases b <;> simp [cmpF]
   | cons x a ih =>
     intro b
     cases b with
     | nil => simp [cmpF]
     | cons y b =>
       rw [cmpF, cmpF]
       by_cases q : c x y = 0
       · have := (h.eq x y).1 q
         subst this
         rw [if_pos q, if_pos q]; exact ih b
       · have : ¬ c y x = 0 := fun z => q ((h.eq x y).2 ((h.eq y x).1 z).symm)
         rw [if_neg q, if_neg this]; exact h.sw x y
 · intro a
   induction a with
   | nil =>
     intro b d
     cases b with
     | nil => simp [cmpF]
     | cons y b => cases d <;> simp [cmpF]
   | cons x a ih =>
     intro b d
     cases b with
     | nil => simp [cmpF]
     | cons y b =>
       cases d with
       | nil =>
         intro _ h2
         simp [cmpF] at h2
       | cons z d =>
         rw [cmpF, cmpF, cmpF]
         by_cases q : c x y = 0
         · have := (h.eq x y).1 q
           subst this
           rw [if_pos q]
           by_cases w : c x z = 0
           · rw [if_pos w, if_pos w]; exact ih b d
           · rw [if_neg w, if_neg w]; exact fun _ h2 => h2
         · rw [if_neg q]
           by_cases w : c y z = 0
           · have := (h.eq y z).1 w
             subst this
             rw [if_pos w, if_neg q]; exact fun h1 _ => h1
           · rw [if_neg w]
             intro h1 h2
             have h3 := h.tr x y z h1 h2
             rw [if_neg (by omega)]; exact h3
structure Pla (μ : Type) where
 l : List μ
 cost : Int
def lessP {μ : Type} (c : μ → μ → Int) (p q : Pla μ) : Bool := if p.cost ≠ q.cost then decide (p.cost < q.cost) else decide (cmpF c p.l q.l < 0)
abbrev PMap (μ : Type) := List UInt8 → Option (Pla μ)
def MinOf {μ : Type} (c : μ → μ → Int) (M : PMap μ) (S : List UInt8 → Pla μ → Prop) : Prop :=
 ∀ σ, match M σ with
  | none => ∀ p, ¬ S σ p
  | some q => S σ q ∧ ∀ p, S σ p → lessP c p q = false
theorem MinOf.congr {μ : Type} {c : μ → μ → Int} {M : PMap μ} {S S' : List UInt8 → Pla μ → Prop} (h : MinOf c M S) (hs : ∀ σ p, S σ p ↔ S' σ p) : MinOf c M S' := by
 intro σ
 have := h σ
 cases q : M σ with
 | none => rw [q] at this; exact fun p hp => this p ((hs σ p).2 hp)
 | some r => rw [q] at this; exact ⟨(hs σ r).1 this.1, fun p hp => this.2 p ((hs σ p).2 hp)⟩
structure Stn (μ : Type) where
 way : Nat → Option Int
 mv : Nat → Int → μ
 many : Int
def stL (st : List UInt8) (k : Nat) (n : Int) : List UInt8 := st.set k (UInt8.ofNat ((st.getD k 0).toNat - n.toNat))
inductive Cd {μ : Type} (s : Stn μ) : Nat → Nat → List UInt8 → Int → List UInt8 → List μ → Int → Prop
 | fin (k : Nat) (st : List UInt8) (left : Int) : Cd s 0 k st left st [] 0
 | skip (d k : Nat) (st : List UInt8) (left : Int) (st' : List UInt8) (suf : List μ) (dc : Int) (h : Cd s d (k + 1) st left st' suf dc) : Cd s (d + 1) k st left st' suf dc
 | some (d k : Nat) (st : List UInt8) (left : Int) (st' : List UInt8) (suf : List μ) (dc n car : Int) (hw : s.way k = some car) (h1 : 1 ≤ n) (h2 : n ≤ left) (h3 : n ≤ (st.getD k 0).toNat) (h : Cd s d (k + 1) (stL st k n) (left - n) st' suf dc) : Cd s (d + 1) k st left st' (s.mv k n :: suf) (n * car + dc)
structure Lay {μ : Type} (G : Nw) (B : Nat → Bool) (S J : Nat) (ns nw : Nat → Nat) (stn : Nat → Stn μ) (m : Nat → Int → μ) (pos : Nat → Nat → Nat) : Prop where
 pend : pos S 0 = G.K
 pnext : ∀ i, i < S → pos (i + 1) 0 = pos i J
 pnone : ∀ i k, i < S → k < J → (stn i).way k = none → pos i (k + 1) = pos i k
 psome : ∀ i k car, i < S → k < J → (stn i).way k = some car → pos i (k + 1) = pos i k + 1 ∧ pos i k < G.K ∧ G.fr (pos i k) = ns i ∧ G.to (pos i k) = nw k ∧ G.c (pos i k) = car ∧ ∀ n, m (pos i k) n = (stn i).mv k n
 ns1 : ∀ i, i < S → ns i < G.N ∧ B (ns i) = true
 ns2 : ∀ i j, i < S → j < S → ns i = ns j → i = j
 nw1 : ∀ k, k < J → nw k < G.N ∧ B (nw k) = false
 nw2 : ∀ k j, k < J → j < J → nw k = nw j → k = j
 all : ∀ v, v < G.N → B v = false → ∃ k, k < J ∧ v = nw k
structure Rel {μ : Type} (G : Nw) (B : Nat → Bool) (S J : Nat) (ns nw : Nat → Nat) (stn : Nat → Stn μ) (i : Nat) (st : List UInt8) (left : Int) (h w : Nat → Int) : Prop where
 l0 : 0 ≤ left
 hi : i < S → h (ns i) = left
 later : ∀ j, i < j → j < S → h (ns j) = (stn j).many
 other : ∀ v, v < G.N → B v = true → (∀ j, i ≤ j → j < S → v ≠ ns j) → 0 ≤ h v
 want : ∀ k, k < J → w (nw k) = (st.getD k 0).toNat
theorem SV.le_agg {l m : List SV} (h : argsLe0 l m) : SV.le (.agg l) (.agg m) := by
 obtain ⟨h1, h2⟩ := argsLe0_get h
 intro G β v hv
 cases hv with | agg _ vs hl hd =>
 refine .agg _ _ (hl.trans h1) (fun i y v hy hv => ?_)
 have hi : i < l.length := by rw [h1]; exact (List.getElem?_eq_some_iff.1 hy).1
 exact h2 i _ y (List.getElem?_eq_getElem hi) hy G β v (hd i _ v (List.getElem?_eq_getElem hi) hv)
def cellsLe : List SV → List SV → Prop
 | [], [] => True
 | x :: l, y :: m => SV.le x y ∧ cellsLe l m
 | _, _ => False
theorem cellsLe_get : ∀ {l m : List SV}, cellsLe l m → l.length = m.length ∧ ∀ (i : Nat) x y, l[i]? = some x → m[i]? = some y → SV.le x y := by
 intro l
 induction l with
 | nil =>
   intro m h
   cases m with
   | nil => exact ⟨rfl, by simp⟩
   | cons y m => exact h.elim
 | cons x l ih =>
   intro m h
   cases m with
   | nil => exact h.elim
   | cons y m =>
     obtain ⟨h1, h2⟩ := h
     obtain ⟨i1, i2⟩ := ih h2
     refine ⟨by simp [i1], fun i a b ha hb => ?_⟩
     cases i with
     | zero => simp at ha hb; subst ha; subst hb; exact h1
     | succ i => exact i2 i a b (by simpa using ha) (by simpa using hb)
theorem Res.le_cellsL {e : TypeId} {l m : List SV} (h : cellsLe l m) : Res.le (.cells e l) (.cells e m) :=
 Res.le_cells (cellsLe_get h).1 (cellsLe_get h).2
theorem ixF_pos {p : Nat → Bool} {n k : Nat} (hk : k < n) (h : p k = true) : 0 ≤ ixF p n := by
 have hb := ixF_bd (p := p) (n := n)
 rcases Int.lt_or_le (ixF p n) 0 with q | q
 · exfalso
   have hn : ∀ m, ixF p m < 0 → ∀ j, j < m → p j = false := by
    intro m
    induction m with
    | zero => intro _ j hj; omega
    | succ m ih =>
      intro hm j hj
      rw [ixF] at hm
      split at hm
      · rename_i hz
        by_cases hjm : j = m
        · subst hjm
          split at hm
          · omega
          · rename_i hf; simpa using hf
        · exact ih (by omega) j (by omega)
      · rename_i hz; have := (ixF_bd (p := p) (n := m)).1; omega
   rw [hn n q k hk] at h
   cases h
 · exact q
theorem cmpS_sw (a b : List UInt8) : cmpS a b = - cmpS b a := by
 unfold cmpS
 by_cases e : a = b
 · subst e; simp [less_irr]
 · cases q : Op.bytesLess a b
   · have := less_tri _ _ q e
     simp [this]
   · have : Op.bytesLess b a = false := by
      cases w : Op.bytesLess b a
      · rfl
      · have := less_trans q w
        rw [less_irr] at this; cases this
     simp [this]
structure Ar3 where
 fr : Nat
 to : Nat
 car : Int
theorem cmpI_sw (a b : Int) : cmpI a b = - cmpI b a := by unfold cmpI; grind
theorem cmpS_lt {a b : List UInt8} : cmpS a b < 0 ↔ Op.bytesLess a b = true := by
 unfold cmpS
 constructor
 · intro h; by_cases q : Op.bytesLess a b = true
   · exact q
   · rw [if_neg q] at h; split at h <;> omega
 · intro h; rw [if_pos h]; omega
theorem cmpS_zero {a b : List UInt8} : cmpS a b = 0 ↔ a = b := by
 constructor
 · intro h
   by_cases e : a = b
   · exact e
   · exfalso
     cases q : Op.bytesLess a b
     · have h2 := less_tri _ _ q e
       unfold cmpS at h
       rw [q, h2] at h
       simp at h
     · have := cmpS_lt.2 q
       omega
 · rintro rfl; unfold cmpS; simp [less_irr]
theorem cmpS_trans {a b c : List UInt8} (h1 : cmpS a b < 0) (h2 : cmpS b c < 0) : cmpS a c < 0 := by
 rw [cmpS_lt] at *; exact less_trans h1 h2
theorem cmpI_lt {a b : Int} : cmpI a b < 0 ↔ a < b := by unfold cmpI; split <;> (try split) <;> omega
theorem cmpI_zero {a b : Int} : cmpI a b = 0 ↔ a = b := by unfold cmpI; split <;> (try split) <;> omega
def oUEnA37_1 : List (Nat × List Nat) := [(0, []), (1, []), (2, [0, 1]), (3, [0, 1]), (5, [0, 1, 2, 3]), (6, [0, 1, 2, 3]), (7, [0, 1, 2, 3, 5, 6]), (8, [0, 1, 2, 3, 5, 6]), (10, [0, 1, 2, 3, 5, 6, 7, 8]), (11, [0, 1, 2, 3, 5, 6, 7, 8]), (12, [0, 1, 2, 3, 5, 6, 7, 8, 10, 11]), (13, [0, 1, 2, 3, 5, 6, 7, 8, 10, 11]), (4, [5, 6, 7, 8, 10, 11, 12, 13]), (9, [10, 11, 12, 13]), (14, []), (15, []), (16, []), (17, [])]
def prB (s : List UInt8) : Bool := s.all fun b => decide (32 ≤ b.toNat) && decide (b.toNat ≤ 126)
theorem prB_iff {s : List UInt8} : prB s = true ↔ ∀ j, j < s.length → 32 ≤ (s.getD j 0).toNat ∧ (s.getD j 0).toNat ≤ 126 := by
 unfold prB
 rw [List.all_eq_true]
 constructor
 · intro h j hj
   have := h _ (getD_mem (x := 0) hj)
   simpa using this
 · intro h x hx
   obtain ⟨i, hi, rfl⟩ := mem_getD (d := 0) hx
   simpa using h i hi
theorem prB_bad {s : List UInt8} {i : Nat} (hi : i < s.length) (h : ¬ (32 ≤ (s.getD i 0).toNat ∧ (s.getD i 0).toNat ≤ 126)) : prB s = false := by
 cases q : prB s with
 | false => rfl
 | true => exact absurd (prB_iff.1 q i hi) h
theorem lz149 (s : List UInt8) (hl : s.length ≤ 2^40) : FSpec Tryz.prog 52 [.d (.str s)] [] (fun x r => x = .d (.bool (prB s)) ∧ r = []) := by
 refine spec_of hT (C := []) Tryz.func52 rfl Tryz.call52 rfl rfl rfl ?_
 conv => whnf
 refine LoopX.rule hT (C := []) (ι := Nat) (fun i => i ≤ s.length ∧ ∀ j, j < i → 32 ≤ (s.getD j 0).toNat ∧ (s.getD j 0).toNat ≤ 126) (fun i => mkSt [(0, .d (.str s)), (5, .d (.int .i64 s.length)), (6, .d (.int .i64 i))] []) (fun i => s.length - i) 0 ⟨by omega, by omega⟩ (by (refine Entails.mk' [] rfl rfl ?_ ?_ <;> repeat' (first | exact True.intro | exact lr | exact rr | exact SV.le_int (by omega) | exact SV.le_any _ | refine And.intro ?_ ?_)); done) ?_
 rintro i ⟨p1, p2⟩
 have e1 : (i : Int).toNat = i := Int.toNat_natCast i
 conv => whnf
 repeat' (first | (refine br_intro ?_ ?_ <;> intro hb <;> (try simp only [brs] at hb) <;> conv => whnf) | omega | (refine And.intro ?_ ?_; ((try dsimp only); first | omega | (refine szA rfl ?_; omega) | (refine szB rfl ?_; omega) | (unfold inI64; omega) | exact rfl | (simp only [List.toList_toArray, List.length_cons, List.length_nil]; omega) | (simp only [lns] at *; omega) | decide | (unfold inI64; decide)); conv => whnf) | decide | assumption)
 · refine .ret _ ?_
   conv => whnf
   refine ⟨[], ⟨?_, rfl⟩, trivial⟩
   conv => lhs; whnf
   rw [prB_bad (i := i) (by omega) (by omega)]
 · refine .ret _ ?_
   conv => whnf
   refine ⟨[], ⟨?_, rfl⟩, trivial⟩
   conv => lhs; whnf
   rw [prB_bad (i := i) (by omega) (by omega)]
 · exact ⟨i + 1, ⟨by omega, all_step p2 (by omega)⟩, by omega, (by (refine Entails.mk' [] rfl rfl ?_ ?_ <;> repeat' (first | exact True.intro | exact lr | exact rr | exact SV.le_int (by omega) | exact SV.le_any _ | refine And.intro ?_ ?_)); done)⟩
 · refine .ret _ ?_
   conv => whnf
   refine ⟨[], ⟨?_, rfl⟩, trivial⟩
   conv => lhs; whnf
   have : i = s.length := by omega
   subst this
   rw [prB_iff.2 p2]
def entCmp (a b : Ent) : Int := firstE [cmpI a.tm b.tm, cmpS a.desk b.desk, cmpI a.no b.no]
theorem lz150 (a b : Ent) : FSpec Tryz.prog 37 [.agg ((enF a).map .d), .agg ((enF b).map .d)] [] (fun x r => x = .d (.int .i64 (entCmp a b)) ∧ r = []) := by
 refine spec_of hT (C := []) Tryz.func37 rfl Tryz.call37 rfl rfl rfl ?_
 conv => whnf
 repeat' (first | (refine CallX.exact (s184 _ _) rfl rfl ?_; rotate_right; conv => whnf) | (refine CallX.exact (s183 _ _) rfl rfl ?_; rotate_right; conv => whnf) | (refine CallX.pure (s182 [_, _, _] (by simp)) ⟨SV.le_lit (by rfl) (by rfl), trivial⟩ rfl ?_; conv => whnf) | (refine br_intro ?_ ?_ <;> intro hb <;> (try simp only [brs] at hb) <;> conv => whnf) | (refine RegX.rule (id := 1) hT rfl [] oUEnA37_1 (by decide +kernel) ?_; conv => whnf) | omega | (refine And.intro ?_ ?_; ((try dsimp only); first | omega | (refine szA rfl ?_; omega) | (refine szB rfl ?_; omega) | (unfold inI64; omega) | exact rfl | (simp only [List.toList_toArray, List.length_cons, List.length_nil]; omega) | (simp only [lns] at *; omega) | decide | (unfold inI64; decide)); conv => whnf) | decide | assumption)
 refine .ret _ ?_
 conv => whnf
 refine ⟨[], ⟨?_, rfl⟩, trivial⟩
 conv => lhs; whnf
 rfl
theorem lz147 (n : Int) : FSpec Tryz.prog 30 [.d (.int .i64 n)] [] (fun x r => x = .d (.int .i64 (cmpI n 0)) ∧ r = []) := by
 refine spec_of hT (C := []) Tryz.func30 rfl Tryz.call30 rfl rfl rfl ?_
 conv => whnf
 repeat' (first | (refine br_intro ?_ ?_ <;> intro hb <;> (try simp only [brs] at hb) <;> conv => whnf) | omega | (refine And.intro ?_ ?_; ((try dsimp only); first | omega | (refine szA rfl ?_; omega) | (refine szB rfl ?_; omega) | (unfold inI64; omega) | exact rfl | (simp only [List.toList_toArray, List.length_cons, List.length_nil]; omega) | (simp only [lns] at *; omega) | decide | (unfold inI64; decide)); conv => whnf) | decide | assumption)
 all_goals
  refine .ret _ ?_
  conv => whnf
  refine ⟨[], ⟨?_, rfl⟩, trivial⟩
  conv => lhs; whnf
  congr 2
  unfold cmpI
  grind
def entR (a : Ent) : Prop := (-2^40 ≤ a.tm ∧ a.tm ≤ 2^40) ∧ (-2^40 ≤ a.no ∧ a.no ≤ 2^40)
theorem cmpI_sub (a b : Int) : cmpI (a - b) 0 = cmpI a b := by unfold cmpI; grind
theorem lz63 (a b : Ent) (ha : entR a) (hb0 : entR b) : FSpec Tryz.prog 9 [.agg ((enF a).map .d), .agg ((enF b).map .d)] [] (fun x r => x = .d (.int .i64 (entCmp a b)) ∧ r = []) := by
 obtain ⟨⟨a1, a2⟩, a3, a4⟩ := ha
 obtain ⟨⟨b1, b2⟩, b3, b4⟩ := hb0
 refine spec_of hT (C := []) Tryz.func9 rfl Tryz.call9 rfl rfl rfl ?_
 conv => whnf
 repeat' (first | (refine CallX.exact (lz147 _) rfl rfl ?_; rotate_right; conv => whnf) | (refine CallX.exact (s190 _ _) rfl rfl ?_; rotate_right; conv => whnf) | (refine br_intro ?_ ?_ <;> intro hb <;> (try simp only [brs] at hb) <;> conv => whnf) | omega | (refine And.intro ?_ ?_; ((try dsimp only); first | omega | (refine szA rfl ?_; omega) | (refine szB rfl ?_; omega) | (unfold inI64; omega) | exact rfl | (simp only [List.toList_toArray, List.length_cons, List.length_nil]; omega) | (simp only [lns] at *; omega) | decide | (unfold inI64; decide)); conv => whnf) | decide | assumption)
 · refine .ret _ ?_
   conv => whnf
   refine ⟨[], ⟨?_, rfl⟩, trivial⟩
   conv => lhs; whnf
   congr 2
   have h0 : ¬ cmpI a.tm b.tm = 0 := fun q => hb (cmpI_zero.1 q)
   rw [cmpI_sub]
   unfold entCmp
   simp only [firstE]
   rw [if_neg h0]
 · rename_i hb1
   refine .ret _ ?_
   conv => whnf
   refine ⟨[], ⟨?_, rfl⟩, trivial⟩
   conv => lhs; whnf
   congr 2
   have h0 : cmpI a.tm b.tm = 0 := cmpI_zero.2 (by omega)
   have h1 : ¬ cmpS a.desk b.desk = 0 := fun q => hb (cmpS_zero.1 q)
   unfold entCmp
   simp only [firstE]
   rw [if_pos h0, if_neg h1]
 · rename_i hb1
   refine .ret _ ?_
   conv => whnf
   refine ⟨[], ⟨?_, rfl⟩, trivial⟩
   conv => lhs; whnf
   congr 2
   have h0 : cmpI a.tm b.tm = 0 := cmpI_zero.2 (by omega)
   have h1 : cmpS a.desk b.desk = 0 := cmpS_zero.2 (by simpa using hb)
   rw [cmpI_sub]
   unfold entCmp
   simp only [firstE]
   rw [if_pos h0, if_pos h1]
   split <;> simp_all
def oUEnB68_4 : List (Nat × List Nat) := [(0, []), (1, [0]), (2, []), (3, []), (4, []), (5, [4]), (6, [4, 5]), (7, [4]), (8, [4]), (9, [4, 5, 6, 7, 8]), (10, [4, 5, 6, 7, 8, 9]), (11, [4, 5, 6, 7, 8, 9]), (12, [4, 5, 6, 7, 8]), (13, [4, 5, 6, 7, 8]), (14, []), (15, []), (16, [])]
def oUEnB68_6 : List (Nat × List Nat) := [(0, []), (1, [0]), (2, [0, 1]), (3, [0, 1, 2]), (4, [0, 1, 2]), (5, [0, 1, 2, 3, 4]), (6, [0, 1, 2, 3, 4, 5]), (7, [0, 1, 2, 3, 4, 5]), (8, [0, 1, 2, 3, 4]), (9, [0, 1, 2, 3, 4]), (10, [0, 1, 2, 3, 4, 5, 6, 7, 8, 9]), (11, [0, 1, 2, 3, 4, 5, 6, 7, 8, 9, 10]), (12, [0, 1, 2, 3, 4, 5, 6, 7, 8, 9]), (13, [0, 1, 2, 3, 4, 5, 6, 7, 8, 9]), (14, [2, 3, 4]), (15, [2, 3, 4]), (16, []), (17, [])]
def sameE (l c : List Ent) : Prop := c.length = l.length ∧ ∀ x ∈ c, x ∈ l
theorem sameE_set {l c : List Ent} {j : Nat} {x : Ent} (h : sameE l c) (hx : x ∈ l) : sameE l (c.set j x) :=
 ⟨by rw [List.length_set]; exact h.1, fun y hy => by rcases List.mem_or_eq_of_mem_set hy with q | q; exact h.2 y q; subst q; exact hx⟩
theorem en208 (g : FuncId) (cmp : Ent → Ent → Int) (l : List Ent) (hl : l.length ≤ 2^40)
 (hcmp : ∀ p q, p ∈ l → q ∈ l → FSpec Tryz.prog g [.agg ((enF p).map .d), .agg ((enF q).map .d)] [] (fun y r => y = .d (.int .i64 (cmp p q)) ∧ r = [])) :
 FSpec Tryz.prog 68 [.buf 1000001, .d (.int .i64 0), .d (.int .i64 l.length), .fn g []] [(1000001, seqB 48 4 enF en0 l)]
  (fun y r => y = .tup [] ∧ ∃ c, sameE l c ∧ r = [(1000001, seqB 48 4 enF en0 c)]) := by
 refine spec_of hT (C := []) Tryz.func68 rfl Tryz.call68 rfl rfl rfl ?_
 conv => whnf
 repeat' (first | (refine br_intro ?_ ?_ <;> intro hb <;> (try simp only [brs] at hb) <;> conv => whnf) | (refine RegX.rule (id := 4) hT rfl [] oUEnB68_4 (by decide +kernel) ?_; conv => whnf) | (refine RegX.rule (id := 6) hT rfl [] oUEnB68_6 (by decide +kernel) ?_; conv => whnf) | omega | (refine And.intro ?_ ?_; ((try dsimp only); first | omega | (refine szA rfl ?_; omega) | (refine szB rfl ?_; omega) | (unfold inI64; omega) | exact rfl | (simp only [List.toList_toArray, List.length_cons, List.length_nil]; omega) | (simp only [lns] at *; omega) | decide | (unfold inI64; decide)); conv => whnf) | decide | assumption)
 refine LoopX.rule hT (C := []) (ι := Nat × List Ent) (fun (i, c) => 1 ≤ i ∧ (i ≤ l.length ∨ i = 1) ∧ sameE l c)
  (fun (i, c) => mkSt [(0, .buf 1000001), (1, .d (.int .i64 0)), (2, .d (.int .i64 l.length)), (3, .fn g []), (8, .d (.int .i64 i))] [(1000001, seqB 48 4 enF en0 c)])
  (fun (i, _) => l.length - i) (1, l) ⟨by simp, by simp, rfl, fun x h => h⟩ (by (refine Entails.mk' [(1000001, 1000001)] rfl rfl ?_ ?_ <;> repeat' (first | exact True.intro | exact lr | exact rr | exact SV.le_int (by omega) | exact SV.le_any _ | refine And.intro ?_ ?_)); done) ?_
 rintro ⟨i, c⟩ ⟨p1, p2, p3⟩
 have hc0 := p3.1
 conv => whnf
 repeat' (first | (refine br_intro ?_ ?_ <;> intro hb <;> (try simp only [brs] at hb) <;> conv => whnf) | (refine RegX.rule (id := 4) hT rfl [] oUEnB68_4 (by decide +kernel) ?_; conv => whnf) | (refine RegX.rule (id := 6) hT rfl [] oUEnB68_6 (by decide +kernel) ?_; conv => whnf) | omega | (refine And.intro ?_ ?_; ((try dsimp only); first | omega | (refine szA rfl ?_; omega) | (refine szB rfl ?_; omega) | (unfold inI64; omega) | exact rfl | (simp only [List.toList_toArray, List.length_cons, List.length_nil]; omega) | (simp only [lns] at *; omega) | decide | (unfold inI64; decide)); conv => whnf) | decide | assumption)
 · refine LoopX.rule hT (C := []) (ι := Nat × List Ent) (fun (j, c) => j ≤ i ∧ sameE l c)
    (fun (j, c) => mkSt [(0, .buf 1000001), (1, .d (.int .i64 0)), (2, .d (.int .i64 l.length)), (3, .fn g []), (8, .d (.int .i64 i)), (9, .d (.int .i64 j))] [(1000001, seqB 48 4 enF en0 c)])
    (fun (j, _) => j) (i, c) ⟨Nat.le_refl _, p3⟩ (by (refine Entails.mk' [(1000001, 1000001)] rfl rfl ?_ ?_ <;> repeat' (first | exact True.intro | exact lr | exact rr | exact SV.le_int (by omega) | exact SV.le_any _ | refine And.intro ?_ ?_)); done) ?_
   rintro ⟨j, b⟩ ⟨q1, q3⟩
   have hb0 := q3.1
   conv => whnf
   repeat' (first | (refine br_intro ?_ ?_ <;> intro hb <;> (try simp only [brs] at hb) <;> conv => whnf) | (refine RegX.rule (id := 4) hT rfl [] oUEnB68_4 (by decide +kernel) ?_; conv => whnf) | (refine RegX.rule (id := 6) hT rfl [] oUEnB68_6 (by decide +kernel) ?_; conv => whnf) | omega | (refine And.intro ?_ ?_; ((try dsimp only); first | omega | (refine szA rfl ?_; omega) | (refine szB rfl ?_; omega) | (unfold inI64; omega) | exact rfl | (simp only [List.toList_toArray, List.length_cons, List.length_nil]; omega) | (simp only [lns] at *; omega) | decide | (unfold inI64; decide)); conv => whnf) | decide | assumption)
   · refine CallX.of (hcmp (b.getD (j : Int).toNat en0) (b.getD ((j : Int) - 1).toNat en0) (q3.2 _ (getD_mem (by omega))) (q3.2 _ (getD_mem (by omega)))) [] rfl ⟨lr, lr, trivial⟩ trivial rfl rfl ?_
     rintro x rout ⟨rfl, rfl⟩
     refine ⟨rfl, ?_⟩
     conv => whnf
     repeat' (first | (refine br_intro ?_ ?_ <;> intro hb <;> (try simp only [brs] at hb) <;> conv => whnf) | (refine RegX.rule (id := 4) hT rfl [] oUEnB68_4 (by decide +kernel) ?_; conv => whnf) | (refine RegX.rule (id := 6) hT rfl [] oUEnB68_6 (by decide +kernel) ?_; conv => whnf) | omega | (refine And.intro ?_ ?_; ((try dsimp only); first | omega | (refine szA rfl ?_; omega) | (refine szB rfl ?_; omega) | (unfold inI64; omega) | exact rfl | (simp only [List.toList_toArray, List.length_cons, List.length_nil]; omega) | (simp only [lns] at *; omega) | decide | (unfold inI64; decide)); conv => whnf) | decide | assumption)
     · refine ⟨(j - 1, _), ⟨by omega, sameE_set (sameE_set q3 (q3.2 _ (getD_mem (i := ((j : Int) - 1).toNat) (x := en0) (by omega)))) (q3.2 _ (getD_mem (i := (j : Int).toNat) (x := en0) (by omega)))⟩, by show j - 1 < j; omega, Entails.mk' [(1000001, 1000001)] rfl rfl ⟨lr, lr, lr, lr, lr, SV.le_int (by omega), trivial⟩ ⟨Res.le_put2 (fun _ => rfl) (fun _ => rfl), trivial⟩⟩
     · exact ⟨(i + 1, b), ⟨by omega, by omega, q3⟩, by show l.length - (i + 1) < l.length - i; omega, (by (refine Entails.mk' [(1000001, 1000001)] rfl rfl ?_ ?_ <;> repeat' (first | exact True.intro | exact lr | exact rr | exact SV.le_int (by omega) | exact SV.le_any _ | refine And.intro ?_ ?_)); done)⟩
   · exact ⟨(i + 1, b), ⟨by omega, by omega, q3⟩, by show l.length - (i + 1) < l.length - i; omega, (by (refine Entails.mk' [(1000001, 1000001)] rfl rfl ?_ ?_ <;> repeat' (first | exact True.intro | exact lr | exact rr | exact SV.le_int (by omega) | exact SV.le_any _ | refine And.intro ?_ ?_)); done)⟩
 · refine .ret _ ?_
   conv => whnf
   exact ⟨_, ⟨rfl, c, p3, rfl⟩, rr, trivial⟩
theorem en175 (g : FuncId) (cmp : Ent → Ent → Int) (l : List Ent) (hl : l.length < 20)
 (hcmp : ∀ p q, p ∈ l → q ∈ l → FSpec Tryz.prog g [.agg ((enF p).map .d), .agg ((enF q).map .d)] [] (fun y r => y = .d (.int .i64 (cmp p q)) ∧ r = [])) :
 FSpec Tryz.prog 29 [.buf 1000001, .d (.int .i64 l.length), .fn g []] [(1000001, seqB 48 4 enF en0 l)]
  (fun y r => y = .tup [] ∧ ∃ c, sameE l c ∧ r = [(1000001, seqB 48 4 enF en0 c)]) := by
 refine spec_of hT (C := []) Tryz.func29 rfl Tryz.call29 rfl rfl rfl ?_
 conv => whnf
 refine LoopX.rule hT (C := []) (ι := Unit) (fun _ => True) (fun _ => mkSt [(0, .buf 1000001), (1, .d (.int .i64 l.length)), (2, .fn g []), (6, .d (.int .i64 20)), (7, .d (.int .i64 0)), (8, .d (.int .i64 20))] [(1000001, seqB 48 4 enF en0 l)]) (fun _ => 0) () trivial (by (refine Entails.mk' [(1000001, 1000001)] rfl rfl ?_ ?_ <;> repeat' (first | exact True.intro | exact lr | exact rr | exact SV.le_int (by omega) | exact SV.le_any _ | refine And.intro ?_ ?_)); done) ?_
 rintro ⟨⟩ -
 conv => whnf
 repeat' (first | (refine br_intro ?_ ?_ <;> intro hb <;> (try simp only [brs] at hb) <;> conv => whnf) | omega | (refine And.intro ?_ ?_; ((try dsimp only); first | omega | (refine szA rfl ?_; omega) | (refine szB rfl ?_; omega) | (unfold inI64; omega) | exact rfl | (simp only [List.toList_toArray, List.length_cons, List.length_nil]; omega) | (simp only [lns] at *; omega) | decide | (unfold inI64; decide)); conv => whnf) | decide | assumption)
 refine CallX.of (en208 g cmp l (by omega) hcmp) [(1000001, 1000001)] rfl ⟨lr, lr, lr, lr, trivial⟩ ⟨rr, trivial⟩ rfl rfl ?_
 rintro x rout ⟨rfl, c, hc, rfl⟩
 refine ⟨rfl, ?_⟩
 conv => whnf
 refine LoopX.rule hT (C := []) (ι := Unit) (fun _ => True) (fun _ => mkSt [(0, .buf 1000001), (1, .d (.int .i64 l.length)), (2, .fn g []), (6, .d (.int .i64 20))] [(1000001, seqB 48 4 enF en0 c)]) (fun _ => 0) () trivial (by (refine Entails.mk' [(1000001, 1000001)] rfl rfl ?_ ?_ <;> repeat' (first | exact True.intro | exact lr | exact rr | exact SV.le_int (by omega) | exact SV.le_any _ | refine And.intro ?_ ?_)); done) ?_
 rintro ⟨⟩ -
 conv => whnf
 repeat' (first | (refine br_intro ?_ ?_ <;> intro hb <;> (try simp only [brs] at hb) <;> conv => whnf) | omega | (refine And.intro ?_ ?_; ((try dsimp only); first | omega | (refine szA rfl ?_; omega) | (refine szB rfl ?_; omega) | (unfold inI64; omega) | exact rfl | (simp only [List.toList_toArray, List.length_cons, List.length_nil]; omega) | (simp only [lns] at *; omega) | decide | (unfold inI64; decide)); conv => whnf) | decide | assumption)
 refine .ret _ ?_
 conv => whnf
 exact ⟨_, ⟨rfl, c, hc, rfl⟩, rr, trivial⟩
theorem en126 (g : FuncId) (cmp : Ent → Ent → Int) (l : List Ent) (hl : l.length < 20)
 (hcmp : ∀ p q, p ∈ l → q ∈ l → FSpec Tryz.prog g [.agg ((enF p).map .d), .agg ((enF q).map .d)] [] (fun y r => y = .d (.int .i64 (cmp p q)) ∧ r = [])) :
 FSpec Tryz.prog 8 [.buf 1000001, .fn g []] [(1000001, seqB 48 4 enF en0 l)]
  (fun y r => y = .tup [] ∧ ∃ c, sameE l c ∧ r = [(1000001, seqB 48 4 enF en0 c)]) := by
 refine spec_of hT (C := []) Tryz.func8 rfl Tryz.call8 rfl rfl rfl ?_
 conv => whnf
 repeat' (first | (refine br_intro ?_ ?_ <;> intro hb <;> (try simp only [brs] at hb) <;> conv => whnf) | omega | (refine And.intro ?_ ?_; ((try dsimp only); first | omega | (refine szA rfl ?_; omega) | (refine szB rfl ?_; omega) | (unfold inI64; omega) | exact rfl | (simp only [List.toList_toArray, List.length_cons, List.length_nil]; omega) | (simp only [lns] at *; omega) | decide | (unfold inI64; decide)); conv => whnf) | decide | assumption)
 refine CallX.of (en175 g cmp l hl hcmp) [(1000001, 1000001)] rfl ⟨lr, lr, lr, trivial⟩ ⟨rr, trivial⟩ rfl rfl ?_
 rintro x rout ⟨rfl, c, hc, rfl⟩
 refine ⟨rfl, ?_⟩
 conv => whnf
 refine .ret _ ?_
 conv => whnf
 exact ⟨_, ⟨rfl, c, hc, rfl⟩, rr, trivial⟩
def oUEnC20_6 : List (Nat × List Nat) := [(0, []), (1, [0]), (2, []), (3, []), (4, [0, 1, 2, 3]), (5, [0, 1, 2, 3, 4]), (6, [0, 1, 2, 3]), (7, [0, 1, 2, 3]), (8, [])]
def oUEnC14_9 : List (Nat × List Nat) := [(0, []), (1, []), (2, []), (3, []), (4, [3]), (5, [3]), (6, []), (7, []), (8, [3, 4, 5, 6, 7]), (9, []), (10, []), (11, [])]
theorem lxF_pos {p : Nat → Bool} {n k : Nat} (hk : k < n) (h : p k = true) : 0 ≤ ixF p n := by
 have hb := ixF_bd (p := p) (n := n)
 rcases Int.lt_or_le (ixF p n) 0 with q | q
 · exfalso
   have hn : ∀ m, ixF p m < 0 → ∀ j, j < m → p j = false := by
    intro m
    induction m with
    | zero => intro _ j hj; omega
    | succ m ih =>
      intro hm j hj
      rw [ixF] at hm
      split at hm
      · rename_i hz
        by_cases hjm : j = m
        · subst hjm
          split at hm
          · omega
          · rename_i hf; simpa using hf
        · exact ih (by omega) j (by omega)
      · rename_i hz; have := (ixF_bd (p := p) (n := m)).1; omega
   rw [hn n q k hk] at h
   cases h
 · exact q
theorem ent_eq {a b : Ent} : a = b ↔ ((a.tm = b.tm ∧ a.desk = b.desk) ∧ a.no = b.no) ∧ a.words = b.words := by cases a; cases b; simp [and_assoc]
instance : DecidableEq Ent := fun _ _ => decidable_of_iff _ ent_eq.symm
theorem lz17 (l m : List Ent) (hl : l.length ≤ 2^40) : FSpec Tryz.prog 20 [.d (ents l), .d (ents m)] [] (fun x r => x = .d (.bool (decide (l = m))) ∧ r = []) := by
 refine spec_of hT (C := []) Tryz.func20 rfl Tryz.call20 rfl rfl rfl ?_
 conv => whnf
 repeat' (first | (refine br_intro ?_ ?_ <;> intro hb <;> (try simp only [brs] at hb) <;> conv => whnf) | (refine RegX.rule (id := 6) hT rfl [] oUEnC20_6 (by decide +kernel) ?_; conv => whnf) | omega | (refine And.intro ?_ ?_; ((try dsimp only); first | omega | (refine szA rfl ?_; omega) | (refine szB rfl ?_; omega) | (unfold inI64; omega) | exact rfl | (simp only [List.toList_toArray, List.length_cons, List.length_nil]; omega) | (simp only [lns] at *; omega) | decide | (unfold inI64; decide)); conv => whnf) | decide | assumption)
 · refine .ret _ ?_
   conv => whnf
   refine ⟨[], ⟨?_, rfl⟩, trivial⟩
   conv => lhs; whnf
   have : ¬ l = m := fun q => by subst q; simp at hb
   simp [this]
 have hlen : l.length = m.length := by
  omega
 refine LoopX.rule hT (C := []) (ι := Nat) (fun i => i ≤ l.length ∧ ∀ j, j < i → l.getD j en0 = m.getD j en0) (fun i => mkSt [(0, .d (ents l)), (1, .d (ents m)), (12, .d (.int .i64 l.length)), (13, .d (.int .i64 i))] []) (fun i => l.length - i) 0 ⟨by simp, fun j hj => absurd hj (Nat.not_lt_zero j)⟩ (by (refine Entails.mk' [] rfl rfl ?_ ?_ <;> repeat' (first | exact True.intro | exact lr | exact rr | exact SV.le_int (by omega) | exact SV.le_any _ | refine And.intro ?_ ?_)); done) ?_
 rintro i ⟨p1, p2⟩
 have e1 : (i : Int).toNat = i := Int.toNat_natCast i
 conv => whnf
 repeat' (first | (refine br_intro ?_ ?_ <;> intro hb <;> (try simp only [brs] at hb) <;> conv => whnf) | (refine RegX.rule (id := 6) hT rfl [] oUEnC20_6 (by decide +kernel) ?_; conv => whnf) | omega | (refine And.intro ?_ ?_; ((try dsimp only); first | omega | (refine szA rfl ?_; omega) | (refine szB rfl ?_; omega) | (unfold inI64; omega) | exact rfl | (simp only [List.toList_toArray, List.length_cons, List.length_nil]; omega) | (simp only [lns] at *; omega) | decide | (unfold inI64; decide)); conv => whnf) | decide | assumption)
 · refine .ret _ ?_
   conv => whnf
   refine ⟨[], ⟨?_, rfl⟩, trivial⟩
   conv => lhs; whnf
   have : ¬ l = m := fun q => by subst q; simp at hb
   simp [this]
 · exact ⟨i + 1, ⟨by omega, all_step p2 (by rw [ent_eq]; simpa [and_assoc] using hb)⟩, by omega, (by (refine Entails.mk' [] rfl rfl ?_ ?_ <;> repeat' (first | exact True.intro | exact lr | exact rr | exact SV.le_int (by omega) | exact SV.le_any _ | refine And.intro ?_ ?_)); done)⟩
 · refine .ret _ ?_
   conv => whnf
   refine ⟨[], ⟨?_, rfl⟩, trivial⟩
   conv => lhs; whnf
   have : i = l.length := by omega
   subst this
   simp [eq_of_getD en0 hlen p2]
def enHas (l : List Ent) : List DV → Bool
 | [.str a, .int .i64 b] => l.any fun y => y.desk == a && decide (y.no = b)
 | _ => false
def dupE (l : List Ent) (x : Ent) : Bool := enHas l [.str x.desk, .int .i64 x.no]
abbrev enR (l : List Ent) : Res := .map true false [.str, .int .i64] [.bool false] (enHas l) (fun k => [.bool (enHas l k)])
def eqE (y x : Ent) : Bool := y.desk == x.desk && decide (y.no = x.no)
def ecell (x : Ent) : Res := .cells 48 ((enF x).map .d)
theorem lz71 (y x : Ent) : FSpec Tryz.prog 42 [.agg ((enF y).map .d), .ptr 1000001 0] [(1000001, ecell x)] (fun v r => v = .d (.bool (eqE y x)) ∧ r = [(1000001, ecell x)]) := by
 refine spec_of hT (C := []) Tryz.func42 rfl Tryz.call42 rfl rfl rfl ?_
 conv => whnf
 repeat' (first | (refine br_intro ?_ ?_ <;> intro hb <;> (try simp only [brs] at hb) <;> conv => whnf) | omega | (refine And.intro ?_ ?_; ((try dsimp only); first | omega | (refine szA rfl ?_; omega) | (refine szB rfl ?_; omega) | (unfold inI64; omega) | exact rfl | (simp only [List.toList_toArray, List.length_cons, List.length_nil]; omega) | (simp only [lns] at *; omega) | decide | (unfold inI64; decide)); conv => whnf) | decide | assumption)
 all_goals
  refine .ret _ ?_
  conv => whnf
  refine ⟨[(1000001, ecell x)], ⟨?_, rfl⟩, rr, trivial⟩
  conv => lhs; whnf
  congr 2
  unfold eqE
  first
   | (rw [hb]; simp; done)
   | (have : (y.desk == x.desk) = false := by simpa using hb
      rw [this]; rfl)
   | simp_all
theorem lz152 (l : List Ent) (hl : l.length ≤ 2^40) (x : Ent) : FSpec Tryz.prog 78 [.d (ents l), .fn 42 [.ptr 1000001 0]] [(1000001, ecell x)] (fun v r => v = .d (.int .i64 (ixF (fun i => eqE (l.getD i en0) x) l.length)) ∧ r = [(1000001, ecell x)]) := by
 refine spec_of hT (C := []) Tryz.func78 rfl Tryz.call78 rfl rfl rfl ?_
 conv => whnf
 refine LoopX.rule hT (C := []) (ι := Nat) (fun i => i ≤ l.length ∧ ∀ j, j < i → eqE (l.getD j en0) x = false) (fun i => mkSt [(0, .d (ents l)), (1, .fn 42 [.ptr 1000001 0]), (7, .d (.int .i64 l.length)), (8, .d (.int .i64 i))] [(1000001, ecell x)]) (fun i => l.length - i) 0 ⟨by omega, by omega⟩ (by (refine Entails.mk' [(1000001, 1000001)] rfl rfl ?_ ?_ <;> repeat' (first | exact True.intro | exact lr | exact rr | exact SV.le_int (by omega) | exact SV.le_any _ | refine And.intro ?_ ?_)); done) ?_
 rintro i ⟨p1, p2⟩
 have e1 : (i : Int).toNat = i := Int.toNat_natCast i
 conv => whnf
 repeat' (first | (refine CallX.of (lz71 (l.getD (i : Int).toNat en0) x) [(1000001, 1000001)] rfl ⟨lr, lr, trivial⟩ ⟨rr, trivial⟩ rfl rfl ?_; rintro v rout ⟨rfl, rfl⟩; refine ⟨rfl, ?_⟩; conv => whnf) | (refine br_intro ?_ ?_ <;> intro hb <;> (try simp only [brs] at hb) <;> conv => whnf) | omega | (refine And.intro ?_ ?_; ((try dsimp only); first | omega | (refine szA rfl ?_; omega) | (refine szB rfl ?_; omega) | (unfold inI64; omega) | exact rfl | (simp only [List.toList_toArray, List.length_cons, List.length_nil]; omega) | (simp only [lns] at *; omega) | decide | (unfold inI64; decide)); conv => whnf) | decide | assumption)
 · refine .ret _ ?_
   conv => whnf
   refine ⟨[(1000001, ecell x)], ⟨?_, rfl⟩, rr, trivial⟩
   conv => lhs; whnf
   congr 2
   exact (ixF_hit (by omega) p2 (by simpa using hb)).symm
 · exact ⟨i + 1, ⟨by omega, all_step p2 (by simpa using hb)⟩, by omega, (by (refine Entails.mk' [(1000001, 1000001)] rfl rfl ?_ ?_ <;> repeat' (first | exact True.intro | exact lr | exact rr | exact SV.le_int (by omega) | exact SV.le_any _ | refine And.intro ?_ ?_)); done)⟩
 · refine .ret _ ?_
   conv => whnf
   refine ⟨[(1000001, ecell x)], ⟨?_, rfl⟩, rr, trivial⟩
   conv => lhs; whnf
   congr 2
   have : i = l.length := by omega
   subst this
   exact (ixF_none p2).symm
theorem dup_ix (l : List Ent) (x : Ent) : decide (0 ≤ ixF (fun i => eqE (l.getD i en0) x) l.length) = dupE l x := by
 rw [Bool.eq_iff_iff, decide_eq_true_eq]
 show _ ↔ (l.any fun y => y.desk == x.desk && decide (y.no = x.no)) = true
 rw [List.any_eq_true]
 constructor
 · intro h
   have := ixF_bd (p := fun i => eqE (l.getD i en0) x) (n := l.length)
   exact ⟨_, getD_mem (x := en0) (by omega), this.2.2 h⟩
 · rintro ⟨y, hy, he⟩
   obtain ⟨j, hj, rfl⟩ := mem_getD (d := en0) hy
   exact lxF_pos hj he
theorem lz70 (l : List Ent) (hl : l.length ≤ 2^40) (x : Ent) : FSpec Tryz.prog 41 [.d (ents l), .fn 42 [.ptr 1000001 0]] [(1000001, ecell x)] (fun v r => v = .d (.bool (dupE l x)) ∧ r = [(1000001, ecell x)]) := by
 refine spec_of hT (C := []) Tryz.func41 rfl Tryz.call41 rfl rfl rfl ?_
 conv => whnf
 repeat' (first | (refine CallX.of (lz152 l hl x) [(1000001, 1000001)] rfl ⟨lr, lr, trivial⟩ ⟨rr, trivial⟩ rfl rfl ?_; rintro v rout ⟨rfl, rfl⟩; refine ⟨rfl, ?_⟩; conv => whnf) | (refine br_intro ?_ ?_ <;> intro hb <;> (try simp only [brs] at hb) <;> conv => whnf) | omega | (refine And.intro ?_ ?_; ((try dsimp only); first | omega | (refine szA rfl ?_; omega) | (refine szB rfl ?_; omega) | (unfold inI64; omega) | exact rfl | (simp only [List.toList_toArray, List.length_cons, List.length_nil]; omega) | (simp only [lns] at *; omega) | decide | (unfold inI64; decide)); conv => whnf) | decide | assumption)
 refine .ret _ ?_
 conv => whnf
 refine ⟨[(1000001, ecell x)], ⟨?_, rfl⟩, rr, trivial⟩
 conv => lhs; whnf
 rw [← dup_ix]
def frmE (x : Ent) : Int := if ¬ (0 ≤ x.tm ∧ x.tm ≤ 5761439) then 1 else if isKeyB x.desk = false then 5 else if ¬ (1 ≤ x.no ∧ x.no ≤ 1000000) then 1 else if ¬ (1 ≤ x.words.length ∧ x.words.length ≤ 200) then 3 else if prB x.words = false then 3 else 0
def entE (l : List Ent) (i : Nat) : Int := if frmE (l.getD i en0) ≠ 0 then frmE (l.getD i en0) else if 0 < i ∧ 0 ≤ entCmp (l.getD (i - 1) en0) (l.getD i en0) then 7 else if dupE (l.take i) (l.getD i en0) = true then 6 else 0
def entsE (l : List Ent) : Int := if 1000 < l.length then 2 else firstAt (entE l) l.length
def entK (x : Ent) : Prop := (x.desk.length ≤ 2^40 ∧ x.words.length ≤ 2^40) ∧ entR x
def entOk (l : List Ent) : Prop := l.length ≤ 2^40 ∧ ∀ x ∈ l, entK x
theorem lz69 (x : Ent) (hk : entK x) : FSpec Tryz.prog 40 [.agg ((enF x).map .d)] [] (fun v r => v = .d (.int .i64 (frmE x)) ∧ r = []) := by
 have hw := hk.1.2
 refine spec_of hT (C := []) Tryz.func40 rfl Tryz.call40 rfl rfl rfl ?_
 conv => whnf
 repeat' (first | (refine CallX.exact (s133 _) rfl rfl ?_; rotate_right; conv => whnf) | (refine CallX.exact (s21 _ hk.1.1) rfl rfl ?_; rotate_right; conv => whnf) | (refine CallX.exact (s109 _ _ _) rfl rfl ?_; rotate_right; conv => whnf) | (refine br_intro ?_ ?_ <;> intro hb <;> (try simp only [brs] at hb) <;> conv => whnf) | omega | (refine And.intro ?_ ?_; ((try dsimp only); first | omega | (refine szA rfl ?_; omega) | (refine szB rfl ?_; omega) | (unfold inI64; omega) | exact rfl | (simp only [List.toList_toArray, List.length_cons, List.length_nil]; omega) | (simp only [lns] at *; omega) | decide | (unfold inI64; decide)); conv => whnf) | decide | assumption)
 iterate 4
  · refine .ret _ ?_
    conv => whnf
    refine ⟨[], ⟨?_, rfl⟩, trivial⟩
    conv => lhs; whnf
    congr 2
    unfold frmE
    grind
 have hf : frmE x = if prB x.words = false then 3 else 0 := by unfold frmE; grind
 rw [hf]
 refine LoopX.rule hT (C := []) (ι := Nat) (fun i => i ≤ x.words.length ∧ ∀ j, j < i → 32 ≤ (x.words.getD j 0).toNat ∧ (x.words.getD j 0).toNat ≤ 126) (fun i => mkSt [(1, .ptr 1 0), (27, .d (.int .i64 x.words.length)), (28, .d (.int .i64 i))] [(1, ecell x)]) (fun i => x.words.length - i) 0 ⟨by omega, by omega⟩ (by (refine Entails.mk' [(1, 1)] rfl rfl ?_ ?_ <;> repeat' (first | exact True.intro | exact lr | exact rr | exact SV.le_int (by omega) | exact SV.le_any _ | refine And.intro ?_ ?_)); done) ?_
 rintro i ⟨p1, p2⟩
 have e1 : (i : Int).toNat = i := Int.toNat_natCast i
 have hby : (x.words.getD (i : Int).toNat 0).toNat < 256 := UInt8.toNat_lt _
 have hby2 : (x.words.getD i 0).toNat < 256 := UInt8.toNat_lt _
 conv => whnf
 repeat' (first | (refine CallX.exact (s109 _ _ _) rfl rfl ?_; rotate_right; conv => whnf) | (refine br_intro ?_ ?_ <;> intro hb <;> (try simp only [brs] at hb) <;> conv => whnf) | omega | (refine And.intro ?_ ?_; ((try dsimp only); first | omega | (refine szA rfl ?_; omega) | (refine szB rfl ?_; omega) | (unfold inI64; omega) | exact rfl | (simp only [List.toList_toArray, List.length_cons, List.length_nil]; omega) | (simp only [lns] at *; omega) | decide | (unfold inI64; decide)); conv => whnf) | decide | assumption)
 · refine .ret _ ?_
   conv => whnf
   refine ⟨[], ⟨?_, rfl⟩, trivial⟩
   conv => lhs; whnf
   congr 2
   rw [prB_bad (i := i) (by omega) (by omega)]; rfl
 · exact ⟨i + 1, ⟨by omega, all_step p2 (by omega)⟩, by omega, (by (refine Entails.mk' [(1, 1)] rfl rfl ?_ ?_ <;> repeat' (first | exact True.intro | exact lr | exact rr | exact SV.le_int (by omega) | exact SV.le_any _ | refine And.intro ?_ ?_)); done)⟩
 · refine .ret _ ?_
   conv => whnf
   refine ⟨[], ⟨?_, rfl⟩, trivial⟩
   conv => lhs; whnf
   congr 2
   have : i = x.words.length := by omega
   subst this
   rw [prB_iff.2 p2]; rfl
theorem le_takeE {l : List Ent} {i : Nat} (h : i ≤ l.length) : SV.le (.d (.ro 4 i fun j => rowF enF en0 l (0 + j))) (.d (ents (l.take i))) :=
 SV.le_ro (by rw [List.length_take]; omega) (fun j hj => by
  simp only [Nat.zero_add, rowF]
  rw [List.getD_eq_getElem?_getD, List.getD_eq_getElem?_getD, List.getElem?_take_of_lt hj])
theorem entE_hit {l : List Ent} {i : Nat} {e : Int} (h0 : ¬ 1000 < l.length) (h : i < l.length) (p : ∀ j, j < i → entE l j = 0) (h1 : e ≠ 0) (h2 : entE l i = e) : entsE l = e := by
 unfold entsE; rw [if_neg h0]
 exact firstAt_eq h p h1 h2
theorem lz12 (l : List Ent) (hk : entOk l) : FSpec Tryz.prog 14 [.d (ents l)] [] (fun x r => x = .d (.int .i64 (entsE l)) ∧ r = []) := by
 refine spec_of hT (C := []) Tryz.func14 rfl Tryz.call14 rfl rfl rfl ?_
 conv => whnf
 refine br_intro (fun h0 => ?_) (fun h0 => ?_)
 · simp at h0
   conv => whnf
   refine .ret _ ?_
   conv => whnf
   refine ⟨[], ⟨?_, rfl⟩, trivial⟩
   conv => lhs; whnf
   unfold entsE; rw [if_pos (by omega)]
 simp at h0
 conv => whnf
 refine LoopX.rule hT (C := []) (ι := Nat) (fun i => i ≤ l.length ∧ ∀ j, j < i → entE l j = 0) (fun i => mkSt [(0, .d (ents l)), (9, .d (ents l)), (10, .d (.int .i64 l.length)), (11, .d (.int .i64 i))] []) (fun i => l.length - i) 0 ⟨by omega, by omega⟩ (by (refine Entails.mk' [] rfl rfl ?_ ?_ <;> repeat' (first | exact True.intro | exact lr | exact rr | exact SV.le_int (by omega) | exact SV.le_any _ | refine And.intro ?_ ?_)); done) ?_
 rintro i ⟨p1, p2⟩
 have e1 : (i : Int).toNat = i := Int.toNat_natCast i
 have hx : ∀ i, i < l.length → entK (l.getD i en0) := fun i hi => hk.2 _ (getD_mem hi)
 have hK : entK (l.getD (i : Int).toNat en0) := by
  rw [e1]
  rcases Nat.lt_or_ge i l.length with q | q
  · exact hx i q
  · rw [List.getD_eq_getElem?_getD, List.getElem?_eq_none q]; simp [entK, entR, en0]
 have hK2 : entK (l.getD ((i : Int) - 1).toNat en0) := by
  rcases Nat.lt_or_ge ((i : Int) - 1).toNat l.length with q | q
  · exact hx _ q
  · rw [List.getD_eq_getElem?_getD, List.getElem?_eq_none q]; simp [entK, entR, en0]
 have hD := lz70 (l.take (i : Int).toNat) (by rw [List.length_take]; have := hk.1; omega) (l.getD (i : Int).toNat en0)
 conv => whnf
 repeat' (first | (refine CallX.exact (lz69 _ hK) rfl rfl ?_; rotate_right; conv => whnf) | (refine CallX.exact (lz63 (l.getD ((i : Int) - 1).toNat en0) (l.getD (i : Int).toNat en0) hK2.2 hK.2) rfl rfl ?_; rotate_right; conv => whnf) | (refine CallX.of hD [(1000001, 4)] rfl ⟨le_takeE (by omega), lr, trivial⟩ ⟨rr, trivial⟩ rfl rfl ?_; rintro v rout ⟨rfl, rfl⟩; refine ⟨rfl, ?_⟩; conv => whnf) | (refine br_intro ?_ ?_ <;> intro hb <;> (try simp only [brs] at hb) <;> conv => whnf) | (refine RegX.rule (id := 9) hT rfl [] oUEnC14_9 (by decide +kernel) ?_; conv => whnf) | omega | (refine And.intro ?_ ?_; ((try dsimp only); first | omega | (refine szA rfl ?_; omega) | (refine szB rfl ?_; omega) | (unfold inI64; omega) | exact rfl | (simp only [List.toList_toArray, List.length_cons, List.length_nil]; omega) | (simp only [lns] at *; omega) | decide | (unfold inI64; decide)); conv => whnf) | decide | assumption)
 all_goals clear hD hK hK2 hx
 all_goals first
  | (refine ⟨i + 1, ⟨by omega, first_step p2 (by clear p2 hk; simp only [e1, toNat_pred] at *; unfold entE; grind)⟩, by omega, (by (refine Entails.mk' [] rfl rfl ?_ ?_ <;> repeat' (first | exact True.intro | exact lr | exact rr | exact SV.le_int (by omega) | exact SV.le_any _ | refine And.intro ?_ ?_)); done)⟩)
  | (refine .ret _ ?_
     conv => whnf
     refine ⟨[], ⟨?_, rfl⟩, trivial⟩
     conv => lhs; whnf
     congr 2
     first
      | exact (entE_hit (by omega) (by omega) p2 hb (by clear p2 hk; simp only [e1, toNat_pred] at *; unfold entE; grind)).symm
      | exact (entE_hit (by omega) (by omega) p2 (by decide) (by clear p2 hk; simp only [e1, toNat_pred] at *; unfold entE; grind)).symm
      | (have : i = l.length := by omega
         subst this
         unfold entsE; rw [if_neg (by omega), firstAt_zero p2]))
def oUEnD17_16 : List (Nat × List Nat) := [(0, []), (1, []), (2, []), (3, []), (4, [3]), (5, [3]), (6, []), (7, []), (8, [3, 4, 5, 6, 7]), (9, []), (10, []), (11, []), (12, [])]
theorem wk_si {key : List DV} (h : wk [.str, .int .i64] key = true) : ∃ a b, key = [.str a, .int .i64 b] := by
 match key, h with
 | [.str a, .int k d], h =>
   have : IntKind.i64 = k := kEq_eq (by simpa [wk, wk1] using h)
   subst this
   exact ⟨a, d, rfl⟩
 | .str _ :: .int _ _ :: _ :: _, h => simp [wk] at h
theorem enR_up {l : List Ent} {i : Nat} {x : Ent} (hi : i < l.length) (hx : x = l.getD i en0) :
 Res.le (.map true false [.str, .int .i64] [.bool false] (fun q => keyEq q [.str x.desk, .int .i64 x.no] || enHas (l.take i) q) (fun q => bif keyEq q [.str x.desk, .int .i64 x.no] then [.bool true] else [.bool (enHas (l.take i) q)])) (enR (l.take (i + 1))) := Res.le_map fun K hK => by
 obtain ⟨a, b, rfl⟩ := wk_si hK
 have e : l.take (i + 1) = l.take i ++ [x] := by
  rw [hx, List.take_add_one]; simp [List.getD_eq_getElem?_getD, hi]
 have h1 : enHas (l.take (i + 1)) [.str a, .int .i64 b] = (enHas (l.take i) [.str a, .int .i64 b] || (x.desk == a && decide (x.no = b))) := by
  show (l.take (i + 1)).any _ = _
  rw [e, List.any_append]
  simp [enHas]
 have h2 : keyEq [.str a, .int .i64 b] [.str x.desk, .int .i64 x.no] = (x.desk == a && decide (x.no = b)) := by
  rw [Bool.eq_iff_iff]; simp [keyEq, keyEq1]; grind
 rw [h1, h2]
 cases hq : (x.desk == a && decide (x.no = b)) <;> simp
theorem lz64 (l : List Ent) (hk : entOk l) : FSpec Tryz.prog 17 [.d (ents l)] [] (fun x r => x = .d (.int .i64 (entsE l)) ∧ r = []) := by
 refine spec_of hT (C := []) Tryz.func17 rfl Tryz.call17 rfl rfl rfl ?_
 conv => whnf
 refine br_intro (fun h0 => ?_) (fun h0 => ?_)
 · simp at h0
   conv => whnf
   refine .ret _ ?_
   conv => whnf
   refine ⟨[], ⟨?_, rfl⟩, trivial⟩
   conv => lhs; whnf
   unfold entsE; rw [if_pos (by omega)]
 simp at h0
 conv => whnf
 refine LoopX.rule hT (C := []) (ι := Nat) (fun i => i ≤ l.length ∧ ∀ j, j < i → entE l j = 0) (fun i => mkSt [(0, .d (ents l)), (3, .mp 3), (11, .d (ents l)), (12, .d (.int .i64 l.length)), (13, .d (.int .i64 i))] [(3, enR (l.take i))]) (fun i => l.length - i) 0 ⟨by omega, by omega⟩ ?_ ?_
 · refine Entails.mk' [(3, 10)] rfl rfl ⟨lr, lr, lr, lr, lr, trivial⟩ ⟨Res.le_map (fun key hk => ?_), trivial⟩
   obtain ⟨a, b, rfl⟩ := wk_si hk
   exact ⟨rfl, rfl⟩
 rintro i ⟨p1, p2⟩
 have e1 : (i : Int).toNat = i := Int.toNat_natCast i
 have hx : ∀ i, i < l.length → entK (l.getD i en0) := fun i hi => hk.2 _ (getD_mem hi)
 have hK : entK (l.getD (i : Int).toNat en0) := by
  rw [e1]
  rcases Nat.lt_or_ge i l.length with q | q
  · exact hx i q
  · rw [List.getD_eq_getElem?_getD, List.getElem?_eq_none q]; simp [entK, entR, en0]
 conv => whnf
 repeat' (first | (refine CallX.exact (s154 _) rfl rfl ?_; rotate_right; conv => whnf) | (refine CallX.exact (s108 _ hK.1.1) rfl rfl ?_; rotate_right; conv => whnf) | (refine CallX.exact (s119 _ _ _) rfl rfl ?_; rotate_right; conv => whnf) | (refine CallX.exact (lz149 _ hK.1.2) rfl rfl ?_; rotate_right; conv => whnf) | (refine CallX.exact (lz150 (l.getD ((i : Int) - 1).toNat en0) (l.getD (i : Int).toNat en0)) rfl rfl ?_; rotate_right; conv => whnf) | (refine And.intro (rfl : zrow _ = some [DV.bool false]) ?_; conv => whnf) | (simp only [Nat.beq_refl, cond_true]; conv => whnf) | (refine br_intro ?_ ?_ <;> intro hb <;> (try simp only [brs] at hb) <;> conv => whnf) | (refine RegX.rule (id := 16) hT rfl [] oUEnD17_16 (by decide +kernel) ?_; conv => whnf) | omega | (refine And.intro ?_ ?_; ((try dsimp only); first | omega | (refine szA rfl ?_; omega) | (refine szB rfl ?_; omega) | (unfold inI64; omega) | exact rfl | (simp only [List.toList_toArray, List.length_cons, List.length_nil]; omega) | (simp only [lns] at *; omega) | decide | (unfold inI64; decide)); conv => whnf) | decide | assumption)
 all_goals have hwl : (l.getD i en0).words = [] ↔ (l.getD i en0).words.length = 0 := List.length_eq_zero_iff.symm
 all_goals clear hK hx
 all_goals first
  | (refine ⟨i + 1, ⟨by omega, first_step p2 (by clear p2 hk; simp only [e1, toNat_pred] at *; unfold entE frmE dupE; grind)⟩, by omega, Entails.mk' [(3, 3)] rfl rfl ⟨lr, lr, lr, lr, lr, trivial⟩ ⟨enR_up (x := l.getD (i : Int).toNat en0) (by omega) (by rw [e1]), trivial⟩⟩)
  | (refine .ret _ ?_
     conv => whnf
     refine ⟨[], ⟨?_, rfl⟩, trivial⟩
     conv => lhs; whnf
     congr 2
     first
      | exact (entE_hit (by omega) (by omega) p2 (by decide) (by clear p2 hk; simp only [e1, toNat_pred] at *; unfold entE frmE dupE; grind)).symm
      | (have : i = l.length := by omega
         subst this
         unfold entsE; rw [if_neg (by omega), firstAt_zero p2]))
def oUEmA68_4 : List (Nat × List Nat) := [(0, []), (1, [0]), (2, []), (3, []), (4, []), (5, [4]), (6, [4, 5]), (7, [4]), (8, [4]), (9, [4, 5, 6, 7, 8]), (10, [4, 5, 6, 7, 8, 9]), (11, [4, 5, 6, 7, 8, 9]), (12, [4, 5, 6, 7, 8]), (13, [4, 5, 6, 7, 8]), (14, []), (15, []), (16, [])]
def oUEmA68_6 : List (Nat × List Nat) := [(0, []), (1, [0]), (2, [0, 1]), (3, [0, 1, 2]), (4, [0, 1, 2]), (5, [0, 1, 2, 3, 4]), (6, [0, 1, 2, 3, 4, 5]), (7, [0, 1, 2, 3, 4, 5]), (8, [0, 1, 2, 3, 4]), (9, [0, 1, 2, 3, 4]), (10, [0, 1, 2, 3, 4, 5, 6, 7, 8, 9]), (11, [0, 1, 2, 3, 4, 5, 6, 7, 8, 9, 10]), (12, [0, 1, 2, 3, 4, 5, 6, 7, 8, 9]), (13, [0, 1, 2, 3, 4, 5, 6, 7, 8, 9]), (14, [2, 3, 4]), (15, [2, 3, 4]), (16, []), (17, [])]
def oUEmA39_6 : List (Nat × List Nat) := [(0, []), (1, [0]), (2, []), (3, []), (4, [0, 1, 2, 3]), (5, [0, 1, 2, 3, 4]), (6, [0, 1, 2, 3, 4]), (7, [0, 1, 2, 3]), (8, [0, 1, 2, 3]), (9, [])]
def oUEmA39_11 : List (Nat × List Nat) := [(0, []), (1, [0]), (2, []), (3, []), (4, [0, 1, 2, 3]), (5, [0, 1, 2, 3, 4]), (6, [0, 1, 2, 3, 4]), (7, [0, 1, 2, 3]), (8, [0, 1, 2, 3]), (9, [])]
theorem ent_eq2 {a b : Ent} : a = b ↔ a.tm = b.tm ∧ a.desk = b.desk ∧ a.no = b.no ∧ a.words = b.words := by cases a; cases b; simp
theorem swap_midE {A B : List Ent} {x y : Ent} {D b : List Ent} {j : Nat} (hb : (y :: A).reverse ++ [x] ++ B ++ D = b) (hj : j = A.length + 1) :
 b.getD j en0 = x ∧ b.getD (j - 1) en0 = y ∧ (b.set j y).set (j - 1) x = A.reverse ++ [x] ++ (y :: B) ++ D := by
 subst hj
 refine ⟨?_, ?_, ?_⟩
 · rw [← hb, show (y :: A).reverse ++ [x] ++ B ++ D = (y :: A).reverse ++ x :: (B ++ D) by simp]
   exact getD_mid _ _ _ _ (by simp)
 · rw [← hb, show (y :: A).reverse ++ [x] ++ B ++ D = A.reverse ++ y :: ([x] ++ B ++ D) by simp]
   exact getD_mid _ _ _ _ (by simp)
 · rw [← hb]
   have := swap_lemma A.reverse (B ++ D) x y
   simp only [List.length_reverse] at this
   simp only [List.reverse_cons, List.append_assoc, List.singleton_append, List.cons_append, List.nil_append, Nat.add_sub_cancel] at this ⊢
   exact this
theorem en208f (g : FuncId) (cmp : Ent → Ent → Int) (l : List Ent) (hl : l.length ≤ 2^40)
 (hcmp : ∀ p q, p ∈ l → q ∈ l → FSpec Tryz.prog g [.agg ((enF p).map .d), .agg ((enF q).map .d)] [] (fun y r => y = .d (.int .i64 (cmp p q)) ∧ r = [])) :
 FSpec Tryz.prog 68 [.buf 1000001, .d (.int .i64 0), .d (.int .i64 l.length), .fn g []] [(1000001, seqB 48 4 enF en0 l)]
  (fun y r => y = .tup [] ∧ r = [(1000001, seqB 48 4 enF en0 (isort cmp l))]) := by
 refine spec_of hT (C := []) Tryz.func68 rfl Tryz.call68 rfl rfl rfl ?_
 conv => whnf
 repeat' (first | (refine br_intro ?_ ?_ <;> intro hb <;> (try simp only [brs] at hb) <;> conv => whnf) | (refine RegX.rule (id := 4) hT rfl [] oUEmA68_4 (by decide +kernel) ?_; conv => whnf) | (refine RegX.rule (id := 6) hT rfl [] oUEmA68_6 (by decide +kernel) ?_; conv => whnf) | omega | (refine And.intro ?_ ?_; ((try dsimp only); first | omega | (refine szA rfl ?_; omega) | (refine szB rfl ?_; omega) | (unfold inI64; omega) | exact rfl | (simp only [List.toList_toArray, List.length_cons, List.length_nil]; omega) | (simp only [lns] at *; omega) | decide | (unfold inI64; decide)); conv => whnf) | decide | assumption)
 refine LoopX.rule hT (C := []) (ι := Nat × List Ent) (fun (i, c) => 1 ≤ i ∧ (i ≤ l.length ∨ i = 1) ∧ c = (isortR cmp (l.take i)).reverse ++ l.drop i)
  (fun (i, c) => mkSt [(0, .buf 1000001), (1, .d (.int .i64 0)), (2, .d (.int .i64 l.length)), (3, .fn g []), (8, .d (.int .i64 i))] [(1000001, seqB 48 4 enF en0 c)])
  (fun (i, _) => l.length - i) (1, l) ⟨by simp, by simp, by cases l with | nil => rfl | cons x l => simp [isortR, insR]⟩ (by (refine Entails.mk' [(1000001, 1000001)] rfl rfl ?_ ?_ <;> repeat' (first | exact True.intro | exact lr | exact rr | exact SV.le_int (by omega) | exact SV.le_any _ | refine And.intro ?_ ?_)); done) ?_
 rintro ⟨i, c⟩ ⟨p1, p2, p3⟩
 conv => whnf
 repeat' (first | (refine br_intro ?_ ?_ <;> intro hb <;> (try simp only [brs] at hb) <;> conv => whnf) | (refine RegX.rule (id := 4) hT rfl [] oUEmA68_4 (by decide +kernel) ?_; conv => whnf) | (refine RegX.rule (id := 6) hT rfl [] oUEmA68_6 (by decide +kernel) ?_; conv => whnf) | omega | (refine And.intro ?_ ?_; ((try dsimp only); first | omega | (refine szA rfl ?_; omega) | (refine szB rfl ?_; omega) | (unfold inI64; omega) | exact rfl | (simp only [List.toList_toArray, List.length_cons, List.length_nil]; omega) | (simp only [lns] at *; omega) | decide | (unfold inI64; decide)); conv => whnf) | decide | assumption)
 · have hi : i < l.length := by omega
   have hx : l[i] ∈ l := List.getElem_mem hi
   have hmem : ∀ y ∈ isortR cmp (l.take i), y ∈ l := fun y hy => List.mem_of_mem_take ((isortR_mem cmp _).1 hy)
   have hlr : (isortR cmp (l.take i)).length = i := by rw [isortR_length, List.length_take]; omega
   have hc : c = (isortR cmp (l.take i)).reverse ++ [l[i]] ++ [] ++ l.drop (i + 1) := by rw [p3, List.drop_eq_getElem_cons hi]; simp
   refine LoopX.rule hT (C := []) (ι := List Ent × List Ent × List Ent) (fun (A, B, b) => insR cmp l[i] (isortR cmp (l.take i)) = B.reverse ++ insR cmp l[i] A ∧ A.length + B.length = i ∧ (∀ y ∈ A, y ∈ l) ∧ A.reverse ++ [l[i]] ++ B ++ l.drop (i + 1) = b)
    (fun (A, B, b) => mkSt [(0, .buf 1000001), (1, .d (.int .i64 0)), (2, .d (.int .i64 l.length)), (3, .fn g []), (8, .d (.int .i64 i)), (9, .d (.int .i64 A.length))] [(1000001, seqB 48 4 enF en0 b)])
    (fun (A, _, _) => A.length) (isortR cmp (l.take i), [], c) ⟨by simp, by simpa using hlr, hmem, hc.symm⟩ ?_ ?_
   · exact Entails.mk' [(1000001, 1000001)] rfl rfl ⟨lr, lr, lr, lr, lr, SV.le_int (by omega), trivial⟩ ⟨rr, trivial⟩
   rintro ⟨A, B, b⟩ ⟨q1, q2, q3, hbd⟩
   have hlen : b.length = l.length := by rw [← hbd]; simp; omega
   have hfin : A = [] ∨ (∃ y A', A = y :: A' ∧ 0 ≤ cmp l[i] y) → isortR cmp (l.take (i + 1)) = B.reverse ++ l[i] :: A ∧ b = (isortR cmp (l.take (i + 1))).reverse ++ l.drop (i + 1) := fun h => by
    have e : isortR cmp (l.take (i + 1)) = B.reverse ++ l[i] :: A := by
     rw [take_snoc hi, isortR_snoc, q1]
     rcases h with rfl | ⟨y, A', rfl, h⟩
     · rfl
     · rw [insR, if_neg (by omega)]
    exact ⟨e, by rw [e, ← hbd]; simp⟩
   conv => whnf
   repeat' (first | (refine br_intro ?_ ?_ <;> intro hb <;> (try simp only [brs] at hb) <;> conv => whnf) | (refine RegX.rule (id := 4) hT rfl [] oUEmA68_4 (by decide +kernel) ?_; conv => whnf) | (refine RegX.rule (id := 6) hT rfl [] oUEmA68_6 (by decide +kernel) ?_; conv => whnf) | omega | (refine And.intro ?_ ?_; ((try dsimp only); first | omega | (refine szA rfl ?_; omega) | (refine szB rfl ?_; omega) | (unfold inI64; omega) | exact rfl | (simp only [List.toList_toArray, List.length_cons, List.length_nil]; omega) | (simp only [lns] at *; omega) | decide | (unfold inI64; decide)); conv => whnf) | decide | assumption)
   · cases A with
     | nil => simp at hb
     | cons y A =>
     obtain ⟨g1, g2, g3⟩ := swap_midE (j := (((y :: A).length : Int)).toNat) hbd (by simp)
     have ej : ((((y :: A).length : Int)) - 1).toNat = (((y :: A).length : Int)).toNat - 1 := by omega
     refine CallX.of (hcmp l[i] y hx (q3 y (by simp))) [] rfl ⟨by rw [← g1]; exact lr, by rw [← g2, ← ej]; exact lr, trivial⟩ trivial rfl rfl ?_
     rintro x rout ⟨rfl, rfl⟩
     refine ⟨rfl, ?_⟩
     conv => whnf
     repeat' (first | (refine br_intro ?_ ?_ <;> intro hb <;> (try simp only [brs] at hb) <;> conv => whnf) | (refine RegX.rule (id := 4) hT rfl [] oUEmA68_4 (by decide +kernel) ?_; conv => whnf) | (refine RegX.rule (id := 6) hT rfl [] oUEmA68_6 (by decide +kernel) ?_; conv => whnf) | omega | (refine And.intro ?_ ?_; ((try dsimp only); first | omega | (refine szA rfl ?_; omega) | (refine szB rfl ?_; omega) | (unfold inI64; omega) | exact rfl | (simp only [List.toList_toArray, List.length_cons, List.length_nil]; omega) | (simp only [lns] at *; omega) | decide | (unfold inI64; decide)); conv => whnf) | decide | assumption)
     · refine ⟨(A, y :: B, _), ⟨by rw [q1]; simp [insR, hb], by simp only [List.length_cons] at q2 ⊢; omega, fun z hz => q3 z (by simp [hz]), ?_⟩, by show A.length < (y :: A).length; simp, Entails.mk' [(1000001, 1000001)] rfl rfl ⟨lr, lr, lr, lr, lr, SV.le_int (by simp only [List.length_cons]; omega), trivial⟩ ⟨Res.le_put2 (x := b.getD ((((y :: A).length : Int)) - 1).toNat en0) (y := b.getD (((y :: A).length : Int)).toNat en0) (fun _ => rfl) (fun _ => rfl), trivial⟩⟩
       rw [← g3, ej, g1, g2]
     · obtain ⟨_, h2⟩ := hfin (.inr ⟨y, A, rfl, hb⟩)
       exact ⟨(i + 1, b), ⟨by omega, by omega, h2⟩, by show l.length - (i + 1) < l.length - i; omega, (by (refine Entails.mk' [(1000001, 1000001)] rfl rfl ?_ ?_ <;> repeat' (first | exact True.intro | exact lr | exact rr | exact SV.le_int (by omega) | exact SV.le_any _ | refine And.intro ?_ ?_)); done)⟩
   · have hA : A = [] := List.length_eq_zero_iff.1 (by omega)
     obtain ⟨_, h2⟩ := hfin (.inl hA)
     exact ⟨(i + 1, b), ⟨by omega, by omega, h2⟩, by show l.length - (i + 1) < l.length - i; omega, (by (refine Entails.mk' [(1000001, 1000001)] rfl rfl ?_ ?_ <;> repeat' (first | exact True.intro | exact lr | exact rr | exact SV.le_int (by omega) | exact SV.le_any _ | refine And.intro ?_ ?_)); done)⟩
 · refine .ret _ ?_
   conv => whnf
   have e1 : c = isort cmp l := by
    rw [p3, List.take_of_length_le (by omega), List.drop_eq_nil_iff.2 (by omega), List.append_nil]; rfl
   subst e1
   exact ⟨_, ⟨rfl, rfl⟩, rr, trivial⟩
theorem en175f (g : FuncId) (cmp : Ent → Ent → Int) (l : List Ent) (hl : l.length < 20)
 (hcmp : ∀ p q, p ∈ l → q ∈ l → FSpec Tryz.prog g [.agg ((enF p).map .d), .agg ((enF q).map .d)] [] (fun y r => y = .d (.int .i64 (cmp p q)) ∧ r = [])) :
 FSpec Tryz.prog 29 [.buf 1000001, .d (.int .i64 l.length), .fn g []] [(1000001, seqB 48 4 enF en0 l)]
  (fun y r => y = .tup [] ∧ r = [(1000001, seqB 48 4 enF en0 (isort cmp l))]) := by
 refine spec_of hT (C := []) Tryz.func29 rfl Tryz.call29 rfl rfl rfl ?_
 conv => whnf
 refine LoopX.rule hT (C := []) (ι := Unit) (fun _ => True) (fun _ => mkSt [(0, .buf 1000001), (1, .d (.int .i64 l.length)), (2, .fn g []), (6, .d (.int .i64 20)), (7, .d (.int .i64 0)), (8, .d (.int .i64 20))] [(1000001, seqB 48 4 enF en0 l)]) (fun _ => 0) () trivial (by (refine Entails.mk' [(1000001, 1000001)] rfl rfl ?_ ?_ <;> repeat' (first | exact True.intro | exact lr | exact rr | exact SV.le_int (by omega) | exact SV.le_any _ | refine And.intro ?_ ?_)); done) ?_
 rintro ⟨⟩ -
 conv => whnf
 repeat' (first | (refine br_intro ?_ ?_ <;> intro hb <;> (try simp only [brs] at hb) <;> conv => whnf) | omega | (refine And.intro ?_ ?_; ((try dsimp only); first | omega | (refine szA rfl ?_; omega) | (refine szB rfl ?_; omega) | (unfold inI64; omega) | exact rfl | (simp only [List.toList_toArray, List.length_cons, List.length_nil]; omega) | (simp only [lns] at *; omega) | decide | (unfold inI64; decide)); conv => whnf) | decide | assumption)
 refine CallX.of (en208f g cmp l (by omega) hcmp) [(1000001, 1000001)] rfl ⟨lr, lr, lr, lr, trivial⟩ ⟨rr, trivial⟩ rfl rfl ?_
 rintro x rout ⟨rfl, rfl⟩
 refine ⟨rfl, ?_⟩
 conv => whnf
 refine LoopX.rule hT (C := []) (ι := Unit) (fun _ => True) (fun _ => mkSt [(0, .buf 1000001), (1, .d (.int .i64 l.length)), (2, .fn g []), (6, .d (.int .i64 20))] [(1000001, seqB 48 4 enF en0 (isort cmp l))]) (fun _ => 0) () trivial (by (refine Entails.mk' [(1000001, 1000001)] rfl rfl ?_ ?_ <;> repeat' (first | exact True.intro | exact lr | exact rr | exact SV.le_int (by omega) | exact SV.le_any _ | refine And.intro ?_ ?_)); done) ?_
 rintro ⟨⟩ -
 conv => whnf
 repeat' (first | (refine br_intro ?_ ?_ <;> intro hb <;> (try simp only [brs] at hb) <;> conv => whnf) | omega | (refine And.intro ?_ ?_; ((try dsimp only); first | omega | (refine szA rfl ?_; omega) | (refine szB rfl ?_; omega) | (unfold inI64; omega) | exact rfl | (simp only [List.toList_toArray, List.length_cons, List.length_nil]; omega) | (simp only [lns] at *; omega) | decide | (unfold inI64; decide)); conv => whnf) | decide | assumption)
 refine .ret _ ?_
 conv => whnf
 exact ⟨_, ⟨rfl, rfl⟩, rr, trivial⟩
theorem en126f (g : FuncId) (cmp : Ent → Ent → Int) (l : List Ent) (hl : l.length < 20)
 (hcmp : ∀ p q, p ∈ l → q ∈ l → FSpec Tryz.prog g [.agg ((enF p).map .d), .agg ((enF q).map .d)] [] (fun y r => y = .d (.int .i64 (cmp p q)) ∧ r = [])) :
 FSpec Tryz.prog 8 [.buf 1000001, .fn g []] [(1000001, seqB 48 4 enF en0 l)]
  (fun y r => y = .tup [] ∧ r = [(1000001, seqB 48 4 enF en0 (isort cmp l))]) := by
 refine spec_of hT (C := []) Tryz.func8 rfl Tryz.call8 rfl rfl rfl ?_
 conv => whnf
 repeat' (first | (refine br_intro ?_ ?_ <;> intro hb <;> (try simp only [brs] at hb) <;> conv => whnf) | omega | (refine And.intro ?_ ?_; ((try dsimp only); first | omega | (refine szA rfl ?_; omega) | (refine szB rfl ?_; omega) | (unfold inI64; omega) | exact rfl | (simp only [List.toList_toArray, List.length_cons, List.length_nil]; omega) | (simp only [lns] at *; omega) | decide | (unfold inI64; decide)); conv => whnf) | decide | assumption)
 refine CallX.of (en175f g cmp l hl hcmp) [(1000001, 1000001)] rfl ⟨lr, lr, lr, trivial⟩ ⟨rr, trivial⟩ rfl rfl ?_
 rintro x rout ⟨rfl, rfl⟩
 refine ⟨rfl, ?_⟩
 conv => whnf
 refine .ret _ ?_
 conv => whnf
 exact ⟨_, ⟨rfl, rfl⟩, rr, trivial⟩
def cptE (l : List Ent) : Nat → List Ent
 | 0 => []
 | i + 1 => cptE l i ++ if 0 < i ∧ l.getD i en0 = l.getD (i - 1) en0 then [] else [l.getD i en0]
theorem cptE_len (l : List Ent) : ∀ i, (cptE l i).length ≤ i := by
 intro i
 induction i with
 | zero => simp [cptE]
 | succ i ih => rw [cptE, List.length_append]; split <;> simp <;> omega
theorem en151 (l : List Ent) (hl : l.length ≤ 2^20) :
 FSpec Tryz.prog 39 [.buf 1000001] [(1000001, seqB 48 4 enF en0 l)]
  (fun y r => ∃ d, (d = 1000001 ∨ d = 59) ∧ y = .buf d ∧ r = [(d, seqB 48 4 enF en0 (cptE l l.length))]) := by
 refine spec_of hT (C := []) Tryz.func39 rfl Tryz.call39 rfl rfl rfl ?_
 conv => whnf
 repeat' (first | (refine br_intro ?_ ?_ <;> intro hb <;> (try simp only [brs] at hb) <;> conv => whnf) | (refine RegX.rule (id := 6) hT rfl [] oUEmA39_6 (by decide +kernel) ?_; conv => whnf) | (refine RegX.rule (id := 11) hT rfl [] oUEmA39_11 (by decide +kernel) ?_; conv => whnf) | omega | (refine And.intro ?_ ?_; ((try dsimp only); first | omega | (refine szA rfl ?_; omega) | (refine szB rfl ?_; omega) | (unfold inI64; omega) | exact rfl | (simp only [List.toList_toArray, List.length_cons, List.length_nil]; omega) | (simp only [lns] at *; omega) | decide | (unfold inI64; decide)); conv => whnf) | decide | assumption)
 · have e : cptE l l.length = l := by
    match l, hb with
    | [], _ => rfl
    | [x], _ => rfl
    | _ :: _ :: _, h => simp at h; omega
   refine .ret _ ?_
   conv => whnf
   rw [e]
   exact ⟨_, ⟨1000001, .inl rfl, rfl, rfl⟩, rr, trivial⟩
 refine LoopX.rule hT (C := []) (ι := Nat) (fun k => 1 ≤ k ∧ k ≤ l.length ∧ cptE l k = l.take k) (fun k => mkSt [(0, .buf 1000001), (3, .d (.int .i64 k))] [(1000001, seqB 48 4 enF en0 l)]) (fun k => l.length - k) 1 ⟨by omega, by omega, ?_⟩ (by (refine Entails.mk' [(1000001, 1000001)] rfl rfl ?_ ?_ <;> repeat' (first | exact True.intro | exact lr | exact rr | exact SV.le_int (by omega) | exact SV.le_any _ | refine And.intro ?_ ?_)); done) ?_
 · cases l with
   | nil => simp at hb
   | cons x l => rfl
 rintro k ⟨p1, p2, p3⟩
 have e1 : (k : Int).toNat = k := Int.toNat_natCast k
 conv => whnf
 repeat' (first | (refine SliceX.first (lo := none) rfl ?_; conv => whnf) | (refine SliceX.look (lo := some _) rfl ?_; conv => whnf) | (refine br_intro ?_ ?_ <;> intro hb <;> (try simp only [brs] at hb) <;> conv => whnf) | (refine RegX.rule (id := 6) hT rfl [] oUEmA39_6 (by decide +kernel) ?_; conv => whnf) | (refine RegX.rule (id := 11) hT rfl [] oUEmA39_11 (by decide +kernel) ?_; conv => whnf) | omega | (refine And.intro ?_ ?_; ((try dsimp only); first | omega | (refine szA rfl ?_; omega) | (refine szB rfl ?_; omega) | (unfold inI64; omega) | exact rfl | (simp only [List.toList_toArray, List.length_cons, List.length_nil]; omega) | (simp only [lns] at *; omega) | decide | (unfold inI64; decide)); conv => whnf) | decide | assumption)
 · have hsub : SV.le (SV.sub 1000001 4 (k : Int).toNat (((l.length : Nat) : Int) - (k : Int)).toNat) (SV.sub 1000001 4 k (l.length - k)) := by
    rw [show (k : Int).toNat = k by omega, show (((l.length : Nat) : Int) - (k : Int)).toNat = l.length - k by omega]; exact lr
   have hdup : l.getD k en0 = l.getD (k - 1) en0 := by
    rw [toNat_pred] at hb
    exact ent_eq2.2 ⟨hb.1, hb.2.1, hb.2.2.1, hb.2.2.2.1⟩
   refine LoopX.rule hT (C := []) (ι := Nat × Nat × List Ent) (fun (q, m, c) => k ≤ q ∧ q < k + m ∧ 1 ≤ m ∧ k + m ≤ l.length ∧ c.length = l.length ∧ c.take q = cptE l (k + m) ∧ ∀ j, k + m ≤ j + 1 → c.getD j en0 = l.getD j en0)
    (fun (q, m, c) => mkSt [(0, .buf 1000001), (3, .d (.int .i64 q)), (4, .sub 1000001 4 k (l.length - k)), (5, .d (.int .i64 m))] [(1000001, seqB 48 4 enF en0 c)])
    (fun (_, m, _) => l.length - m) (k, 1, l) ⟨by omega, by omega, by omega, by omega, rfl, ?_, fun _ _ => rfl⟩ (by (refine Entails.mk' [(1000001, 1000001)] rfl rfl ?_ ?_ <;> repeat' (first | exact True.intro | exact lr | exact rr | (exact hsub) | exact SV.le_int (by omega) | exact SV.le_any _ | refine And.intro ?_ ?_)); done) ?_
   · rw [cptE, if_pos ⟨by omega, hdup⟩, List.append_nil, p3]
   rintro ⟨q, m, c⟩ ⟨r1, r2, r3, r4, hc0, r5, r6⟩
   conv => whnf
   repeat' (first | (refine SliceX.first (lo := none) rfl ?_; conv => whnf) | (refine SliceX.look (lo := some _) rfl ?_; conv => whnf) | (refine br_intro ?_ ?_ <;> intro hb <;> (try simp only [brs] at hb) <;> conv => whnf) | (refine RegX.rule (id := 6) hT rfl [] oUEmA39_6 (by decide +kernel) ?_; conv => whnf) | (refine RegX.rule (id := 11) hT rfl [] oUEmA39_11 (by decide +kernel) ?_; conv => whnf) | omega | (refine And.intro ?_ ?_; ((try dsimp only); first | omega | (refine szA rfl ?_; omega) | (refine szB rfl ?_; omega) | (unfold inI64; omega) | exact rfl | (simp only [List.toList_toArray, List.length_cons, List.length_nil]; omega) | (simp only [lns] at *; omega) | decide | (unfold inI64; decide)); conv => whnf) | decide | assumption)
   · have g1 := r6 (k + m) (by omega)
     have g2 := r6 (k + m - 1) (by omega)
     rw [show k + ((m : Int) - 1).toNat = k + m - 1 by omega, g1, g2] at hb
     have hne : ¬ l.getD (k + m) en0 = l.getD (k + m - 1) en0 := by
      intro h
      rw [h] at hb
      simp at hb
     have eq' : (q : Int).toNat = q := Int.toNat_natCast q
     have em : k + (m : Int).toNat = k + m := by rw [Int.toNat_natCast]
     refine ⟨(q + 1, m + 1, c.set (q : Int).toNat (c.getD (k + (m : Int).toNat) en0)), ⟨by omega, by omega, by omega, by omega, by rw [List.length_set]; exact hc0, ?_, fun j hj => ?_⟩, by show l.length - (m + 1) < l.length - m; omega, Entails.mk' [(1000001, 1000001)] rfl rfl ⟨lr, SV.le_int (by omega), lr, SV.le_int (by omega), trivial⟩ ⟨Res.le_putF (fun _ _ => rfl), trivial⟩⟩
     · rw [eq', em, g1, ← Nat.add_assoc, cptE, if_neg (fun h => hne h.2), ← r5, take_snocD (d := en0) (by rw [List.length_set]; omega)]
       rw [List.take_set_of_le (Nat.le_refl _), List.getD_eq_getElem?_getD, List.getElem?_set_self (by omega)]; rfl
     · rw [eq', List.getD_eq_getElem?_getD, List.getElem?_set_ne (by omega), ← List.getD_eq_getElem?_getD]
       exact r6 j (by omega)
   · have g1 := r6 (k + m) (by omega)
     have g2 := r6 (k + m - 1) (by omega)
     rw [show k + ((m : Int) - 1).toNat = k + m - 1 by omega, g1, g2] at hb
     have hdup2 : l.getD (k + m) en0 = l.getD (k + m - 1) en0 := ent_eq2.2 ⟨hb.1, hb.2.1, hb.2.2.1, hb.2.2.2.1⟩
     refine ⟨(q, m + 1, c), ⟨by omega, by omega, by omega, by omega, hc0, ?_, fun j hj => r6 j (by omega)⟩, by show l.length - (m + 1) < l.length - m; omega, (by (refine Entails.mk' [(1000001, 1000001)] rfl rfl ?_ ?_ <;> repeat' (first | exact True.intro | exact lr | exact rr | exact SV.le_int (by omega) | exact SV.le_any _ | refine And.intro ?_ ?_)); done)⟩
     rw [← Nat.add_assoc, cptE, if_pos ⟨by omega, hdup2⟩, List.append_nil]; exact r5
   · have hkm : k + m = l.length := by omega
     refine .ret _ ?_
     conv => whnf
     refine ⟨_, ⟨59, .inr rfl, rfl, rfl⟩, Res.le_buf (by rw [← hkm, ← r5, List.length_take]; omega) (fun i hi => ?_), trivial⟩
     have hi : i < q := by
      have : i < (q : Int).toNat := hi
      omega
     have h1 : Nat.ble (q : Int).toNat i = false := by
      rw [← Bool.not_eq_true, Nat.ble_eq]; omega
     show (bif Nat.ble (q : Int).toNat i && _ then _ else rowF enF en0 c i) = _
     rw [h1, ← hkm, ← r5]
     simp only [Bool.false_and, cond_false, rowF]
     rw [List.getD_eq_getElem?_getD, List.getD_eq_getElem?_getD, List.getElem?_take_of_lt hi]
 · have hne : ¬ l.getD k en0 = l.getD (k - 1) en0 := by
    rw [toNat_pred] at hb
    intro h
    rw [h] at hb
    simp at hb
   refine ⟨k + 1, ⟨by omega, by omega, ?_⟩, by omega, (by (refine Entails.mk' [(1000001, 1000001)] rfl rfl ?_ ?_ <;> repeat' (first | exact True.intro | exact lr | exact rr | exact SV.le_int (by omega) | exact SV.le_any _ | refine And.intro ?_ ?_)); done)⟩
   rw [cptE, if_neg (fun h => hne h.2), p3, take_snocD (d := en0) (by omega)]
 · have hk : k = l.length := by omega
   have e : cptE l l.length = l := by rw [← hk, p3, hk, List.take_length]
   refine .ret _ ?_
   conv => whnf
   rw [e]
   exact ⟨_, ⟨1000001, .inl rfl, rfl, rfl⟩, rr, trivial⟩
end Go.Proofs.YtobgeiclibhiiaaGreatDoor
