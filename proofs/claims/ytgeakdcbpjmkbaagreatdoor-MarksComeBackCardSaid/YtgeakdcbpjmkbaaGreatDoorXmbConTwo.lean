/- MarksComeBack is proved: for every input the law returns true, and its argument reads afterwards as it read before. Conditions: those of the given row alone. -/
import Derived.Test.YtgeakdcbpjmkbaaGreatDoorXmbConOne
import Derived.Test.YtgeakdcbpjmkbaaGreatDoorXmbEngTwo
import Derived.Lib.ItoaNum
import Derived.Lib.AtoiAll
import Derived.Lib.Strings
import Derived.Shelf.Strings.Search3
import Derived.Shelf.Spec.SlicesGrow
set_option linter.unusedVariables false
set_option linter.unusedSimpArgs false
set_option maxRecDepth 20000
namespace Go.Proofs.YtgeakdcbpjmkbaaGreatDoor
open Go Go.Eng
def oXMpB239_4 : List (Nat × List Nat) := [(0, []), (1, [0]), (2, []), (3, []), (4, []), (5, [4]), (6, [4, 5]), (7, [4]), (8, [4]), (9, [4, 5, 6, 7, 8]), (10, [4, 5, 6, 7, 8, 9]), (11, [4, 5, 6, 7, 8, 9]), (12, [4, 5, 6, 7, 8]), (13, [4, 5, 6, 7, 8]), (14, []), (15, []), (16, [])]
def oXMpB239_6 : List (Nat × List Nat) := [(0, []), (1, [0]), (2, [0, 1]), (3, [0, 1, 2]), (4, [0, 1, 2]), (5, [0, 1, 2, 3, 4]), (6, [0, 1, 2, 3, 4, 5]), (7, [0, 1, 2, 3, 4, 5]), (8, [0, 1, 2, 3, 4]), (9, [0, 1, 2, 3, 4]), (10, [0, 1, 2, 3, 4, 5, 6, 7, 8, 9]), (11, [0, 1, 2, 3, 4, 5, 6, 7, 8, 9, 10]), (12, [0, 1, 2, 3, 4, 5, 6, 7, 8, 9]), (13, [0, 1, 2, 3, 4, 5, 6, 7, 8, 9]), (14, [2, 3, 4]), (15, [2, 3, 4]), (16, []), (17, [])]
def oXMpB192_17 : List (Nat × List Nat) := [(0, []), (1, []), (2, []), (3, []), (4, [3]), (5, [3, 4]), (6, [3, 4]), (7, [3]), (8, [3]), (9, [3, 4, 5, 6, 7, 8]), (10, [3, 4, 5, 6, 7, 8, 9]), (11, [3, 4, 5, 6, 7, 8]), (12, [3, 4, 5, 6, 7, 8]), (13, []), (14, []), (15, []), (16, [])]
def oXMpB134_6 : List (Nat × List Nat) := [(0, []), (1, [0]), (2, []), (3, []), (4, [0, 1, 2, 3]), (5, [0, 1, 2, 3, 4]), (6, [0, 1, 2, 3, 4]), (7, [0, 1, 2, 3]), (8, [0, 1, 2, 3]), (9, [])]
def oXMpB134_11 : List (Nat × List Nat) := [(0, []), (1, [0]), (2, []), (3, []), (4, [0, 1, 2, 3]), (5, [0, 1, 2, 3, 4]), (6, [0, 1, 2, 3, 4]), (7, [0, 1, 2, 3]), (8, [0, 1, 2, 3]), (9, [])]
theorem s212 (g : FuncId) (cmp : Mrk → Mrk → Int) (l : List Mrk) (hl : l.length ≤ 2^40)
 (hcmp : ∀ p q, p ∈ l → q ∈ l → FSpec Tryz.prog g [.agg ((mkF p).map .d), .agg ((mkF q).map .d)] [] (fun y r => y = .d (.int .i64 (cmp p q)) ∧ r = [])) :
 FSpec Tryz.prog 239 [.buf 1000001, .d (.int .i64 0), .d (.int .i64 l.length), .fn g []] [(1000001, seqB 88 5 mkF mk0 l)]
  (fun y r => y = .tup [] ∧ ∃ c, sameL l c ∧ r = [(1000001, seqB 88 5 mkF mk0 c)]) := by
 refine spec_of hT (C := []) Tryz.func239 rfl Tryz.call239 rfl rfl rfl ?_
 conv => whnf
 repeat' (first | (refine br_intro ?_ ?_ <;> intro hb <;> (try simp only [brs] at hb) <;> conv => whnf) | (refine RegX.rule (id := 4) hT rfl [] oXMpB239_4 (by decide +kernel) ?_; conv => whnf) | (refine RegX.rule (id := 6) hT rfl [] oXMpB239_6 (by decide +kernel) ?_; conv => whnf) | omega | (refine And.intro ?_ ?_; ((try dsimp only); first | omega | (refine szA rfl ?_; omega) | (refine szB rfl ?_; omega) | (unfold inI64; omega) | exact rfl | (simp only [List.toList_toArray, List.length_cons, List.length_nil]; omega) | (simp only [lns] at *; omega) | decide | (unfold inI64; decide)); conv => whnf) | decide | assumption)
 refine LoopX.rule hT (C := []) (ι := Nat × List Mrk) (fun (i, c) => 1 ≤ i ∧ (i ≤ l.length ∨ i = 1) ∧ sameL l c)
  (fun (i, c) => mkSt [(0, .buf 1000001), (1, .d (.int .i64 0)), (2, .d (.int .i64 l.length)), (3, .fn g []), (8, .d (.int .i64 i))] [(1000001, seqB 88 5 mkF mk0 c)])
  (fun (i, _) => l.length - i) (1, l) ⟨by simp, by simp, rfl, fun x h => h⟩ (by (refine Entails.mk' [(1000001, 1000001)] rfl rfl ?_ ?_ <;> repeat' (first | exact True.intro | exact lr | exact rr | exact SV.le_int (by omega) | exact SV.le_any _ | refine And.intro ?_ ?_)); done) ?_
 rintro ⟨i, c⟩ ⟨p1, p2, p3⟩
 have hc0 := p3.1
 conv => whnf
 repeat' (first | (refine br_intro ?_ ?_ <;> intro hb <;> (try simp only [brs] at hb) <;> conv => whnf) | (refine RegX.rule (id := 4) hT rfl [] oXMpB239_4 (by decide +kernel) ?_; conv => whnf) | (refine RegX.rule (id := 6) hT rfl [] oXMpB239_6 (by decide +kernel) ?_; conv => whnf) | omega | (refine And.intro ?_ ?_; ((try dsimp only); first | omega | (refine szA rfl ?_; omega) | (refine szB rfl ?_; omega) | (unfold inI64; omega) | exact rfl | (simp only [List.toList_toArray, List.length_cons, List.length_nil]; omega) | (simp only [lns] at *; omega) | decide | (unfold inI64; decide)); conv => whnf) | decide | assumption)
 · refine LoopX.rule hT (C := []) (ι := Nat × List Mrk) (fun (j, c) => j ≤ i ∧ sameL l c)
    (fun (j, c) => mkSt [(0, .buf 1000001), (1, .d (.int .i64 0)), (2, .d (.int .i64 l.length)), (3, .fn g []), (8, .d (.int .i64 i)), (9, .d (.int .i64 j))] [(1000001, seqB 88 5 mkF mk0 c)])
    (fun (j, _) => j) (i, c) ⟨Nat.le_refl _, p3⟩ (by (refine Entails.mk' [(1000001, 1000001)] rfl rfl ?_ ?_ <;> repeat' (first | exact True.intro | exact lr | exact rr | exact SV.le_int (by omega) | exact SV.le_any _ | refine And.intro ?_ ?_)); done) ?_
   rintro ⟨j, b⟩ ⟨q1, q3⟩
   have hb0 := q3.1
   conv => whnf
   repeat' (first | (refine br_intro ?_ ?_ <;> intro hb <;> (try simp only [brs] at hb) <;> conv => whnf) | (refine RegX.rule (id := 4) hT rfl [] oXMpB239_4 (by decide +kernel) ?_; conv => whnf) | (refine RegX.rule (id := 6) hT rfl [] oXMpB239_6 (by decide +kernel) ?_; conv => whnf) | omega | (refine And.intro ?_ ?_; ((try dsimp only); first | omega | (refine szA rfl ?_; omega) | (refine szB rfl ?_; omega) | (unfold inI64; omega) | exact rfl | (simp only [List.toList_toArray, List.length_cons, List.length_nil]; omega) | (simp only [lns] at *; omega) | decide | (unfold inI64; decide)); conv => whnf) | decide | assumption)
   · refine CallX.of (hcmp (b.getD (j : Int).toNat mk0) (b.getD ((j : Int) - 1).toNat mk0) (q3.2 _ (getD_mem (by omega))) (q3.2 _ (getD_mem (by omega)))) [] rfl ⟨lr, lr, trivial⟩ trivial rfl rfl ?_
     rintro x rout ⟨rfl, rfl⟩
     refine ⟨rfl, ?_⟩
     conv => whnf
     repeat' (first | (refine br_intro ?_ ?_ <;> intro hb <;> (try simp only [brs] at hb) <;> conv => whnf) | (refine RegX.rule (id := 4) hT rfl [] oXMpB239_4 (by decide +kernel) ?_; conv => whnf) | (refine RegX.rule (id := 6) hT rfl [] oXMpB239_6 (by decide +kernel) ?_; conv => whnf) | omega | (refine And.intro ?_ ?_; ((try dsimp only); first | omega | (refine szA rfl ?_; omega) | (refine szB rfl ?_; omega) | (unfold inI64; omega) | exact rfl | (simp only [List.toList_toArray, List.length_cons, List.length_nil]; omega) | (simp only [lns] at *; omega) | decide | (unfold inI64; decide)); conv => whnf) | decide | assumption)
     · refine ⟨(j - 1, _), ⟨by omega, sameL_set (sameL_set q3 (q3.2 _ (getD_mem (i := ((j : Int) - 1).toNat) (x := mk0) (by omega)))) (q3.2 _ (getD_mem (i := (j : Int).toNat) (x := mk0) (by omega)))⟩, by show j - 1 < j; omega, Entails.mk' [(1000001, 1000001)] rfl rfl ⟨lr, lr, lr, lr, lr, SV.le_int (by omega), trivial⟩ ⟨Res.le_put2 (fun _ => rfl) (fun _ => rfl), trivial⟩⟩
     · exact ⟨(i + 1, b), ⟨by omega, by omega, q3⟩, by show l.length - (i + 1) < l.length - i; omega, (by (refine Entails.mk' [(1000001, 1000001)] rfl rfl ?_ ?_ <;> repeat' (first | exact True.intro | exact lr | exact rr | exact SV.le_int (by omega) | exact SV.le_any _ | refine And.intro ?_ ?_)); done)⟩
   · exact ⟨(i + 1, b), ⟨by omega, by omega, q3⟩, by show l.length - (i + 1) < l.length - i; omega, (by (refine Entails.mk' [(1000001, 1000001)] rfl rfl ?_ ?_ <;> repeat' (first | exact True.intro | exact lr | exact rr | exact SV.le_int (by omega) | exact SV.le_any _ | refine And.intro ?_ ?_)); done)⟩
 · refine .ret _ ?_
   conv => whnf
   exact ⟨_, ⟨rfl, c, p3, rfl⟩, rr, trivial⟩
theorem s188 (g : FuncId) (cmp : Mrk → Mrk → Int) (l : List Mrk) (hl : l.length ≤ 12) (lim : Int)
 (hcmp : ∀ p q, p ∈ l → q ∈ l → FSpec Tryz.prog g [.agg ((mkF p).map .d), .agg ((mkF q).map .d)] [] (fun y r => y = .d (.int .i64 (cmp p q)) ∧ r = [])) :
 FSpec Tryz.prog 192 [.buf 1000001, .d (.int .i64 0), .d (.int .i64 l.length), .d (.int .i64 lim), .fn g []] [(1000001, seqB 88 5 mkF mk0 l)]
  (fun y r => y = .tup [] ∧ ∃ c, sameL l c ∧ r = [(1000001, seqB 88 5 mkF mk0 c)]) := by
 refine spec_of hT (C := []) Tryz.func192 rfl Tryz.call192 rfl rfl rfl ?_
 conv => whnf
 refine LoopX.unroll hT (C := []) (fun _ _ h => h) (fun _ h => h) ?_
 conv => whnf
 repeat' (first | (refine br_intro ?_ ?_ <;> intro hb <;> (try simp only [brs] at hb) <;> conv => whnf) | (refine RegX.rule (id := 17) hT rfl [] oXMpB192_17 (by decide +kernel) ?_; conv => whnf) | omega | (refine And.intro ?_ ?_; ((try dsimp only); first | omega | (refine szA rfl ?_; omega) | (refine szB rfl ?_; omega) | (unfold inI64; omega) | exact rfl | (simp only [List.toList_toArray, List.length_cons, List.length_nil]; omega) | (simp only [lns] at *; omega) | decide | (unfold inI64; decide)); conv => whnf) | decide | assumption)
 refine CallX.of (s212 g cmp l (by omega) hcmp) [(1000001, 1000001)] rfl ⟨lr, lr, lr, lr, trivial⟩ ⟨rr, trivial⟩ rfl rfl ?_
 rintro x rout ⟨rfl, c, hc, rfl⟩
 refine ⟨rfl, ?_⟩
 conv => whnf
 refine .ret _ ?_
 conv => whnf
 exact ⟨_, ⟨rfl, c, hc, rfl⟩, rr, trivial⟩
theorem s156 (g : FuncId) (cmp : Mrk → Mrk → Int) (l : List Mrk) (hl : l.length ≤ 12)
 (hcmp : ∀ p q, p ∈ l → q ∈ l → FSpec Tryz.prog g [.agg ((mkF p).map .d), .agg ((mkF q).map .d)] [] (fun y r => y = .d (.int .i64 (cmp p q)) ∧ r = [])) :
 FSpec Tryz.prog 132 [.buf 1000001, .fn g []] [(1000001, seqB 88 5 mkF mk0 l)]
  (fun y r => y = .tup [] ∧ ∃ c, sameL l c ∧ r = [(1000001, seqB 88 5 mkF mk0 c)]) := by
 refine spec_of hT (C := []) Tryz.func132 rfl Tryz.call132 rfl rfl rfl ?_
 conv => whnf
 repeat' (first | (refine br_intro ?_ ?_ <;> intro hb <;> (try simp only [brs] at hb) <;> conv => whnf) | omega | (refine And.intro ?_ ?_; ((try dsimp only); first | omega | (refine szA rfl ?_; omega) | (refine szB rfl ?_; omega) | (unfold inI64; omega) | exact rfl | (simp only [List.toList_toArray, List.length_cons, List.length_nil]; omega) | (simp only [lns] at *; omega) | decide | (unfold inI64; decide)); conv => whnf) | decide | assumption)
 refine CallX.of (sBitsLen l.length hl) [] rfl ⟨lr, trivial⟩ trivial rfl rfl ?_
 rintro x rout ⟨⟨lim, rfl⟩, rfl⟩
 refine ⟨rfl, ?_⟩
 conv => whnf
 repeat' (first | (refine br_intro ?_ ?_ <;> intro hb <;> (try simp only [brs] at hb) <;> conv => whnf) | omega | (refine And.intro ?_ ?_; ((try dsimp only); first | omega | (refine szA rfl ?_; omega) | (refine szB rfl ?_; omega) | (unfold inI64; omega) | exact rfl | (simp only [List.toList_toArray, List.length_cons, List.length_nil]; omega) | (simp only [lns] at *; omega) | decide | (unfold inI64; decide)); conv => whnf) | decide | assumption)
 refine CallX.of (s188 g cmp l hl lim hcmp) [(1000001, 1000001)] rfl ⟨lr, lr, lr, lr, lr, trivial⟩ ⟨rr, trivial⟩ rfl rfl ?_
 rintro x rout ⟨rfl, c, hc, rfl⟩
 refine ⟨rfl, ?_⟩
 conv => whnf
 refine .ret _ ?_
 conv => whnf
 exact ⟨_, ⟨rfl, c, hc, rfl⟩, rr, trivial⟩
theorem s158 (l : List Mrk) (hl : l.length ≤ 2^20) :
 FSpec Tryz.prog 134 [.buf 1000001] [(1000001, seqB 88 5 mkF mk0 l)]
  (fun y r => ∃ c, subL l c ∧ ∃ d, (d = 1000001 ∨ d = 59) ∧ y = .buf d ∧ r = [(d, seqB 88 5 mkF mk0 c)]) := by
 refine spec_of hT (C := []) Tryz.func134 rfl Tryz.call134 rfl rfl rfl ?_
 conv => whnf
 repeat' (first | (refine br_intro ?_ ?_ <;> intro hb <;> (try simp only [brs] at hb) <;> conv => whnf) | (refine RegX.rule (id := 6) hT rfl [] oXMpB134_6 (by decide +kernel) ?_; conv => whnf) | (refine RegX.rule (id := 11) hT rfl [] oXMpB134_11 (by decide +kernel) ?_; conv => whnf) | omega | (refine And.intro ?_ ?_; ((try dsimp only); first | omega | (refine szA rfl ?_; omega) | (refine szB rfl ?_; omega) | (unfold inI64; omega) | exact rfl | (simp only [List.toList_toArray, List.length_cons, List.length_nil]; omega) | (simp only [lns] at *; omega) | decide | (unfold inI64; decide)); conv => whnf) | decide | assumption)
 · refine .ret _ ?_
   conv => whnf
   exact ⟨_, ⟨l, ⟨Nat.le_refl _, fun x h => h⟩, 1000001, .inl rfl, rfl, rfl⟩, rr, trivial⟩
 refine LoopX.rule hT (C := []) (ι := Nat) (fun k => 1 ≤ k ∧ k ≤ l.length) (fun k => mkSt [(0, .buf 1000001), (3, .d (.int .i64 k))] [(1000001, seqB 88 5 mkF mk0 l)]) (fun k => l.length - k) 1 ⟨by omega, by omega⟩ (by (refine Entails.mk' [(1000001, 1000001)] rfl rfl ?_ ?_ <;> repeat' (first | exact True.intro | exact lr | exact rr | exact SV.le_int (by omega) | exact SV.le_any _ | refine And.intro ?_ ?_)); done) ?_
 rintro k ⟨p1, p2⟩
 conv => whnf
 repeat' (first | (refine SliceX.first (lo := none) rfl ?_; conv => whnf) | (refine SliceX.look (lo := some _) rfl ?_; conv => whnf) | (refine br_intro ?_ ?_ <;> intro hb <;> (try simp only [brs] at hb) <;> conv => whnf) | (refine RegX.rule (id := 6) hT rfl [] oXMpB134_6 (by decide +kernel) ?_; conv => whnf) | (refine RegX.rule (id := 11) hT rfl [] oXMpB134_11 (by decide +kernel) ?_; conv => whnf) | omega | (refine And.intro ?_ ?_; ((try dsimp only); first | omega | (refine szA rfl ?_; omega) | (refine szB rfl ?_; omega) | (unfold inI64; omega) | exact rfl | (simp only [List.toList_toArray, List.length_cons, List.length_nil]; omega) | (simp only [lns] at *; omega) | decide | (unfold inI64; decide)); conv => whnf) | decide | assumption)
 · have hsub : SV.le (SV.sub 1000001 5 (k : Int).toNat (((l.length : Nat) : Int) - (k : Int)).toNat) (SV.sub 1000001 5 k (l.length - k)) := by
    rw [show (k : Int).toNat = k by omega, show (((l.length : Nat) : Int) - (k : Int)).toNat = l.length - k by omega]; exact lr
   refine LoopX.rule hT (C := []) (ι := Nat × Nat × List Mrk) (fun (q, m, c) => k ≤ q ∧ q < k + m ∧ 1 ≤ m ∧ k + m ≤ l.length ∧ sameL l c)
    (fun (q, m, c) => mkSt [(0, .buf 1000001), (3, .d (.int .i64 q)), (4, .sub 1000001 5 k (l.length - k)), (5, .d (.int .i64 m))] [(1000001, seqB 88 5 mkF mk0 c)])
    (fun (_, m, _) => l.length - m) (k, 1, l) ⟨by omega, by omega, by omega, by omega, rfl, fun x h => h⟩ (by (refine Entails.mk' [(1000001, 1000001)] rfl rfl ?_ ?_ <;> repeat' (first | exact True.intro | exact lr | exact rr | (exact hsub) | exact SV.le_int (by omega) | exact SV.le_any _ | refine And.intro ?_ ?_)); done) ?_
   rintro ⟨q, m, c⟩ ⟨r1, r2, r3, r4, r5⟩
   have hc0 := r5.1
   conv => whnf
   repeat' (first | (refine SliceX.first (lo := none) rfl ?_; conv => whnf) | (refine SliceX.look (lo := some _) rfl ?_; conv => whnf) | (refine br_intro ?_ ?_ <;> intro hb <;> (try simp only [brs] at hb) <;> conv => whnf) | (refine RegX.rule (id := 6) hT rfl [] oXMpB134_6 (by decide +kernel) ?_; conv => whnf) | (refine RegX.rule (id := 11) hT rfl [] oXMpB134_11 (by decide +kernel) ?_; conv => whnf) | omega | (refine And.intro ?_ ?_; ((try dsimp only); first | omega | (refine szA rfl ?_; omega) | (refine szB rfl ?_; omega) | (unfold inI64; omega) | exact rfl | (simp only [List.toList_toArray, List.length_cons, List.length_nil]; omega) | (simp only [lns] at *; omega) | decide | (unfold inI64; decide)); conv => whnf) | decide | assumption)
   · have em : k + (m : Int).toNat < l.length := by omega
     refine ⟨(q + 1, m + 1, c.set (q : Int).toNat (c.getD (k + (m : Int).toNat) mk0)), ⟨by omega, by omega, by omega, by omega, sameL_set r5 (r5.2 _ (getD_mem (by omega)))⟩, by show l.length - (m + 1) < l.length - m; omega, Entails.mk' [(1000001, 1000001)] rfl rfl ⟨lr, SV.le_int (by omega), lr, SV.le_int (by omega), trivial⟩ ⟨Res.le_putF (fun _ _ => rfl), trivial⟩⟩
   · exact ⟨(q, m + 1, c), ⟨by omega, by omega, by omega, by omega, r5⟩, by show l.length - (m + 1) < l.length - m; omega, (by (refine Entails.mk' [(1000001, 1000001)] rfl rfl ?_ ?_ <;> repeat' (first | exact True.intro | exact lr | exact rr | exact SV.le_int (by omega) | exact SV.le_any _ | refine And.intro ?_ ?_)); done)⟩
   · refine .ret _ ?_
     conv => whnf
     refine ⟨_, ⟨c.take q, ⟨by rw [List.length_take]; omega, fun x hx => r5.2 x (List.mem_of_mem_take hx)⟩, 59, .inr rfl, rfl, rfl⟩, Res.le_buf (by rw [List.length_take]; omega) (fun i hi => ?_), trivial⟩
     have hi : i < q := by
      have : i < (q : Int).toNat := hi
      omega
     have h1 : Nat.ble (q : Int).toNat i = false := by
      rw [← Bool.not_eq_true, Nat.ble_eq]; omega
     show (bif Nat.ble (q : Int).toNat i && _ then _ else rowF mkF mk0 c i) = _
     rw [h1]
     simp only [Bool.false_and, cond_false, rowF]
     rw [List.getD_eq_getElem?_getD, List.getD_eq_getElem?_getD, List.getElem?_take_of_lt hi]
 · exact ⟨k + 1, ⟨by omega, by omega⟩, by omega, (by (refine Entails.mk' [(1000001, 1000001)] rfl rfl ?_ ?_ <;> repeat' (first | exact True.intro | exact lr | exact rr | exact SV.le_int (by omega) | exact SV.le_any _ | refine And.intro ?_ ?_)); done)⟩
 · refine .ret _ ?_
   conv => whnf
   exact ⟨_, ⟨l, ⟨Nat.le_refl _, fun x h => h⟩, 1000001, .inl rfl, rfl, rfl⟩, rr, trivial⟩
def mkB (c : Int) (m : Mrk) : Prop := m.pan.length ≤ 8 ∧ (-c ≤ m.x ∧ m.x ≤ c) ∧ (-c ≤ m.y ∧ m.y ≤ c) ∧ (-c ≤ m.size ∧ m.size ≤ c)
abbrev mkG (m : Mrk) : Prop := mkB 1099511627776 m
theorem pk {l : List Int} {x : Int} (h : x ∈ l) (hl : (l.all fun y => decide (-1099511627776 ≤ y) && decide (y ≤ 1099511627776)) = true) : -1099511627776 ≤ x ∧ x ≤ 1099511627776 := by
 have := List.all_eq_true.1 hl x h
 simpa using this
theorem s96 (n : Nat) (L : Nat → Int) (hL : Rok n L) (a : Int) (h0 : 0 ≤ a) (ha : a ≤ 2^38) (m : Int) (hm1 : 0 ≤ m) (hm2 : m ≤ 12) :
 FSpec Tryz.prog 44 [.ptr 1000000 0, .d (.int .i64 m)] [(1000000, strm n L a)] (fun y r => (∃ l, allK mkG m.toNat l ∧ y = .d (mrks l)) ∧ Moved n L a 90 r) := by
 refine spec_of hT (C := []) Tryz.func44 rfl Tryz.call44 rfl rfl rfl ?_
 conv => whnf
 refine LoopX.rule hT (C := []) (ι := Int × List Mrk × Nat) (fun (b, l, k) => (a ≤ b ∧ b ≤ a + 6 * k ∧ (k : Int) ≤ m) ∧ allK mkG k l)
  (fun (b, l, k) => mkSt [(0, .ptr 1000000 0), (5, .buf 5), (7, .d (.int .i64 m)), (8, .d (.int .i64 k))] [(1000000, strm n L b), (5, seqB 88 5 mkF mk0 l)])
  (fun (_, _, k) => 12 - k) (a, [], 0) ⟨⟨by simp, by simp, by simpa using hm1⟩, ⟨by simp, by simp⟩⟩ ?_ ?_
 · exact (Entails.nil 5 5 88 5 (rowF mkF mk0 []) rfl rfl (by decide)).trans (by (refine Entails.mk' [(1000000, 1000000), (5, 5)] rfl rfl ?_ ?_ <;> repeat' (first | exact True.intro | exact lr | exact rr | exact SV.le_int (by omega) | exact SV.le_any _ | refine And.intro ?_ ?_)); done)
 rintro ⟨b, l, k⟩ ⟨⟨p1, p2, p3⟩, q1⟩
 have hl1 := q1.1
 conv => whnf
 repeat' (first | (refine CallX.of (s15 n L hL _ ?_ ?_ [[100, 111, 111, 114], [100, 111, 111, 114], [100, 111, 111, 114], [104, 111, 111, 100]] ?_ ?_) [(1000000, 1000000)] rfl ⟨lr, SV.le_lit rfl rfl, trivial⟩ ⟨rr, trivial⟩ rfl rfl ?_; rotate_right; rintro x rout ⟨⟨u1, hu1, rfl⟩, ⟨c, c1, c2, rfl⟩⟩; refine ⟨rfl, ?_⟩; conv => whnf) | (refine CallX.of (s33 n L hL _ ?_ ?_ [1, 1, 1, 2, 3] ?_ ?_) [(1000000, 1000000)] rfl ⟨lr, SV.le_lit rfl rfl, trivial⟩ ⟨rr, trivial⟩ rfl rfl ?_; rotate_right; rintro x rout ⟨⟨u2, hu2, rfl⟩, ⟨c, c1, c2, rfl⟩⟩; refine ⟨rfl, ?_⟩; conv => whnf) | (refine CallX.of (s33 n L hL _ ?_ ?_ [0, 10, 20, 30, 40, 40, 100, 140] ?_ ?_) [(1000000, 1000000)] rfl ⟨lr, SV.le_lit rfl rfl, trivial⟩ ⟨rr, trivial⟩ rfl rfl ?_; rotate_right; rintro x rout ⟨⟨u3, hu3, rfl⟩, ⟨c, c1, c2, rfl⟩⟩; refine ⟨rfl, ?_⟩; conv => whnf) | (refine CallX.of (s33 n L hL _ ?_ ?_ [0, 0, 10, 20] ?_ ?_) [(1000000, 1000000)] rfl ⟨lr, SV.le_lit rfl rfl, trivial⟩ ⟨rr, trivial⟩ rfl rfl ?_; rotate_right; rintro x rout ⟨⟨u4, hu4, rfl⟩, ⟨c, c1, c2, rfl⟩⟩; refine ⟨rfl, ?_⟩; conv => whnf) | (refine CallX.of (s33 n L hL _ ?_ ?_ [1, 5, 8, 10, 12, 50] ?_ ?_) [(1000000, 1000000)] rfl ⟨lr, SV.le_lit rfl rfl, trivial⟩ ⟨rr, trivial⟩ rfl rfl ?_; rotate_right; rintro x rout ⟨⟨u5, hu5, rfl⟩, ⟨c, c1, c2, rfl⟩⟩; refine ⟨rfl, ?_⟩; conv => whnf) | (refine br_intro ?_ ?_ <;> intro hb <;> (try simp only [brs] at hb) <;> conv => whnf) | omega | (refine And.intro ?_ ?_; ((try dsimp only); first | omega | (refine szA rfl ?_; omega) | (refine szB rfl ?_; omega) | (unfold inI64; omega) | exact rfl | (simp only [List.toList_toArray, List.length_cons, List.length_nil]; omega) | (simp only [lns] at *; omega) | decide | (unfold inI64; decide)); conv => whnf) | decide | assumption)
 · refine ⟨(_, _, k + 1), ?_, ?_, Entails.mk' [(1000000, 1000000), (5, 28)] rfl rfl ⟨lr, lr, lr, lr, trivial⟩ ⟨rr, Res.le_snocF (x := ⟨_, _, _, _, _⟩) rfl, trivial⟩⟩
   · exact ⟨⟨by omega, by omega, by omega⟩, allK_snoc q1 (Nat.le_refl _) ⟨mem_len hu1 rfl, pk hu3 rfl, pk hu4 rfl, pk hu5 rfl⟩⟩
   · show 12 - (k + 1) < 12 - k; omega
 refine CallX.of (s156 133 mrkCmp l (by omega) (fun p q _ _ => s157 p q)) [(1000001, 5)] rfl ⟨lr, lr, trivial⟩ ⟨rr, trivial⟩ rfl rfl ?_
 rintro x rout ⟨rfl, c, hc, rfl⟩
 refine ⟨rfl, ?_⟩
 conv => whnf
 repeat' (first | (refine br_intro ?_ ?_ <;> intro hb <;> (try simp only [brs] at hb) <;> conv => whnf) | omega | (refine And.intro ?_ ?_; ((try dsimp only); first | omega | (refine szA rfl ?_; omega) | (refine szB rfl ?_; omega) | (unfold inI64; omega) | exact rfl | (simp only [List.toList_toArray, List.length_cons, List.length_nil]; omega) | (simp only [lns] at *; omega) | decide | (unfold inI64; decide)); conv => whnf) | decide | assumption)
 refine CallX.of (s158 c (by have := hc.1; omega)) [(1000001, 5), (59, 100)] rfl ⟨lr, trivial⟩ ⟨rr, trivial⟩ rfl rfl ?_
 rintro x rout ⟨e, he, d, hd, rfl, rfl⟩
 have hsh : allK mkG m.toNat e := ⟨by have := hc.1; have := he.1; omega, fun p hp => q1.2 p (hc.2 p (he.2 p hp))⟩
 have hl2 := hsh.1
 rcases hd with rfl | rfl
 · refine ⟨rfl, ?_⟩
   conv => whnf
   repeat' (first | (refine CallX.of (s84 n L hL _ ?_ ?_ _ ?_) [(1000000, 1000000)] rfl ⟨lr, lr, trivial⟩ ⟨rr, trivial⟩ rfl rfl ?_; rotate_right; rintro x rout ⟨⟨f, rfl⟩, ⟨c, c1, c2, rfl⟩⟩; refine ⟨rfl, ?_⟩; conv => whnf) | (refine CallX.of (s86 n L hL _ ?_ ?_ _ ?_) [(1000000, 1000000)] rfl ⟨lr, lr, trivial⟩ ⟨rr, trivial⟩ rfl rfl ?_; rotate_right; rintro x rout ⟨⟨j, hj1, hj2, hj3, rfl⟩, ⟨c, c1, c2, rfl⟩⟩; refine ⟨rfl, ?_⟩; conv => whnf) | (refine CallX.of (s15 n L hL _ ?_ ?_ [[], [110, 111, 110, 101], [65]] ?_ ?_) [(1000000, 1000000)] rfl ⟨lr, SV.le_lit rfl rfl, trivial⟩ ⟨rr, trivial⟩ rfl rfl ?_; rotate_right; rintro x rout ⟨⟨u4, hu4, rfl⟩, ⟨c, c1, c2, rfl⟩⟩; have hw4 := mem_len hu4 rfl; refine ⟨rfl, ?_⟩; conv => whnf) | (refine CallX.of (s104 n L hL _ ?_ ?_ 1 4 ?_ ?_ ?_) [(1000000, 1000000)] rfl ⟨lr, lr, lr, trivial⟩ ⟨rr, trivial⟩ rfl rfl ?_; rotate_right; rintro x rout ⟨⟨u5, hk1, hk2, rfl⟩, ⟨c, c1, c2, rfl⟩⟩; refine ⟨rfl, ?_⟩; conv => whnf) | (refine CallX.of (s104 n L hL _ ?_ ?_ 0 5000 ?_ ?_ ?_) [(1000000, 1000000)] rfl ⟨lr, lr, lr, trivial⟩ ⟨rr, trivial⟩ rfl rfl ?_; rotate_right; rintro x rout ⟨⟨u6, hk3, hk4, rfl⟩, ⟨c, c1, c2, rfl⟩⟩; refine ⟨rfl, ?_⟩; conv => whnf) | (refine CallX.of (s33 n L hL _ ?_ ?_ [0, 799, 800, 900] ?_ ?_) [(1000000, 1000000)] rfl ⟨lr, SV.le_lit rfl rfl, trivial⟩ ⟨rr, trivial⟩ rfl rfl ?_; rotate_right; rintro x rout ⟨⟨u7, hu7, rfl⟩, ⟨c, c1, c2, rfl⟩⟩; refine ⟨rfl, ?_⟩; conv => whnf) | (refine CallX.of (s104 n L hL _ ?_ ?_ 1 2000 ?_ ?_ ?_) [(1000000, 1000000)] rfl ⟨lr, lr, lr, trivial⟩ ⟨rr, trivial⟩ rfl rfl ?_; rotate_right; rintro x rout ⟨⟨u8, hk5, hk6, rfl⟩, ⟨c, c1, c2, rfl⟩⟩; refine ⟨rfl, ?_⟩; conv => whnf) | (refine br_intro ?_ ?_ <;> intro hb <;> (try simp only [brs] at hb) <;> conv => whnf) | omega | (refine And.intro ?_ ?_; ((try dsimp only); first | omega | (refine szA rfl ?_; omega) | (refine szB rfl ?_; omega) | (unfold inI64; omega) | exact rfl | (simp only [List.toList_toArray, List.length_cons, List.length_nil]; omega) | (simp only [lns] at *; omega) | decide | (unfold inI64; decide)); conv => whnf) | decide | assumption)
   · first
      | refine .freeze _ 5 88 5 _ _ rfl (.weak _ ?_)
      | refine .freeze _ 100 88 5 _ _ rfl (.weak _ ?_)
     (conv => whnf)
     refine ⟨_, [(1000000, strm n L _)], SV.le_upd (fun p : Mrk => (⟨u4, p.kind, p.x, p.y, p.size⟩ : Mrk)) (fun _ => rfl), ⟨⟨_, ?_, rfl⟩, _, by omega, by omega, rfl⟩, rr, trivial⟩
     exact allK_upd (g := fun p : Mrk => (⟨u4, p.kind, p.x, p.y, p.size⟩ : Mrk)) hsh (fun y hy => ⟨hw4, hy.2⟩)
   · first
      | refine .freeze _ 5 88 5 _ _ rfl (.weak _ ?_)
      | refine .freeze _ 100 88 5 _ _ rfl (.weak _ ?_)
     (conv => whnf)
     refine ⟨_, [(1000000, strm n L _)], SV.le_upd (fun p : Mrk => (⟨p.pan, u5, p.x, p.y, p.size⟩ : Mrk)) (fun _ => rfl), ⟨⟨_, ?_, rfl⟩, _, by omega, by omega, rfl⟩, rr, trivial⟩
     exact allK_upd (g := fun p : Mrk => (⟨p.pan, u5, p.x, p.y, p.size⟩ : Mrk)) hsh (fun y hy => hy)
   · first
      | refine .freeze _ 5 88 5 _ _ rfl (.weak _ ?_)
      | refine .freeze _ 100 88 5 _ _ rfl (.weak _ ?_)
     (conv => whnf)
     refine ⟨_, [(1000000, strm n L _)], SV.le_upd2 (f := mkF) (d := mk0) (l := e) (fun p : Mrk => (⟨p.pan, p.kind, u6, p.y, p.size⟩ : Mrk)) (fun p : Mrk => (⟨p.pan, p.kind, p.x, u7, p.size⟩ : Mrk)) (fun _ => rfl) (fun _ => rfl), ⟨⟨_, ?_, rfl⟩, _, by omega, by omega, rfl⟩, rr, trivial⟩
     exact allK_upd (g := fun p : Mrk => (⟨p.pan, p.kind, p.x, u7, p.size⟩ : Mrk)) (allK_upd (g := fun p : Mrk => (⟨p.pan, p.kind, u6, p.y, p.size⟩ : Mrk)) hsh (fun y hy => ⟨hy.1, (show -1099511627776 ≤ u6 ∧ u6 ≤ 1099511627776 from by omega), hy.2.2⟩)) (fun y hy => ⟨hy.1, hy.2.1, pk hu7 rfl, hy.2.2.2⟩)
   · first
      | refine .freeze _ 5 88 5 _ _ rfl (.weak _ ?_)
      | refine .freeze _ 100 88 5 _ _ rfl (.weak _ ?_)
     (conv => whnf)
     refine ⟨_, [(1000000, strm n L _)], SV.le_upd (fun p : Mrk => (⟨p.pan, p.kind, p.x, p.y, u8⟩ : Mrk)) (fun _ => rfl), ⟨⟨_, ?_, rfl⟩, _, by omega, by omega, rfl⟩, rr, trivial⟩
     exact allK_upd (g := fun p : Mrk => (⟨p.pan, p.kind, p.x, p.y, u8⟩ : Mrk)) hsh (fun y hy => ⟨hy.1, hy.2.1, hy.2.2.1, (show -1099511627776 ≤ u8 ∧ u8 ≤ 1099511627776 from by omega)⟩)
   all_goals
    first
     | refine .freeze _ 5 88 5 _ _ rfl (.weak _ ?_)
     | refine .freeze _ 100 88 5 _ _ rfl (.weak _ ?_)
    (conv => whnf)
    exact ⟨_, [(1000000, strm n L _)], lr, ⟨⟨e, hsh, rfl⟩, _, by omega, by omega, rfl⟩, rr, trivial⟩
 · refine ⟨rfl, ?_⟩
   conv => whnf
   repeat' (first | (refine CallX.of (s84 n L hL _ ?_ ?_ _ ?_) [(1000000, 1000000)] rfl ⟨lr, lr, trivial⟩ ⟨rr, trivial⟩ rfl rfl ?_; rotate_right; rintro x rout ⟨⟨f, rfl⟩, ⟨c, c1, c2, rfl⟩⟩; refine ⟨rfl, ?_⟩; conv => whnf) | (refine CallX.of (s86 n L hL _ ?_ ?_ _ ?_) [(1000000, 1000000)] rfl ⟨lr, lr, trivial⟩ ⟨rr, trivial⟩ rfl rfl ?_; rotate_right; rintro x rout ⟨⟨j, hj1, hj2, hj3, rfl⟩, ⟨c, c1, c2, rfl⟩⟩; refine ⟨rfl, ?_⟩; conv => whnf) | (refine CallX.of (s15 n L hL _ ?_ ?_ [[], [110, 111, 110, 101], [65]] ?_ ?_) [(1000000, 1000000)] rfl ⟨lr, SV.le_lit rfl rfl, trivial⟩ ⟨rr, trivial⟩ rfl rfl ?_; rotate_right; rintro x rout ⟨⟨u4, hu4, rfl⟩, ⟨c, c1, c2, rfl⟩⟩; have hw4 := mem_len hu4 rfl; refine ⟨rfl, ?_⟩; conv => whnf) | (refine CallX.of (s104 n L hL _ ?_ ?_ 1 4 ?_ ?_ ?_) [(1000000, 1000000)] rfl ⟨lr, lr, lr, trivial⟩ ⟨rr, trivial⟩ rfl rfl ?_; rotate_right; rintro x rout ⟨⟨u5, hk1, hk2, rfl⟩, ⟨c, c1, c2, rfl⟩⟩; refine ⟨rfl, ?_⟩; conv => whnf) | (refine CallX.of (s104 n L hL _ ?_ ?_ 0 5000 ?_ ?_ ?_) [(1000000, 1000000)] rfl ⟨lr, lr, lr, trivial⟩ ⟨rr, trivial⟩ rfl rfl ?_; rotate_right; rintro x rout ⟨⟨u6, hk3, hk4, rfl⟩, ⟨c, c1, c2, rfl⟩⟩; refine ⟨rfl, ?_⟩; conv => whnf) | (refine CallX.of (s33 n L hL _ ?_ ?_ [0, 799, 800, 900] ?_ ?_) [(1000000, 1000000)] rfl ⟨lr, SV.le_lit rfl rfl, trivial⟩ ⟨rr, trivial⟩ rfl rfl ?_; rotate_right; rintro x rout ⟨⟨u7, hu7, rfl⟩, ⟨c, c1, c2, rfl⟩⟩; refine ⟨rfl, ?_⟩; conv => whnf) | (refine CallX.of (s104 n L hL _ ?_ ?_ 1 2000 ?_ ?_ ?_) [(1000000, 1000000)] rfl ⟨lr, lr, lr, trivial⟩ ⟨rr, trivial⟩ rfl rfl ?_; rotate_right; rintro x rout ⟨⟨u8, hk5, hk6, rfl⟩, ⟨c, c1, c2, rfl⟩⟩; refine ⟨rfl, ?_⟩; conv => whnf) | (refine br_intro ?_ ?_ <;> intro hb <;> (try simp only [brs] at hb) <;> conv => whnf) | omega | (refine And.intro ?_ ?_; ((try dsimp only); first | omega | (refine szA rfl ?_; omega) | (refine szB rfl ?_; omega) | (unfold inI64; omega) | exact rfl | (simp only [List.toList_toArray, List.length_cons, List.length_nil]; omega) | (simp only [lns] at *; omega) | decide | (unfold inI64; decide)); conv => whnf) | decide | assumption)
   · first
      | refine .freeze _ 5 88 5 _ _ rfl (.weak _ ?_)
      | refine .freeze _ 100 88 5 _ _ rfl (.weak _ ?_)
     (conv => whnf)
     refine ⟨_, [(1000000, strm n L _)], SV.le_upd (fun p : Mrk => (⟨u4, p.kind, p.x, p.y, p.size⟩ : Mrk)) (fun _ => rfl), ⟨⟨_, ?_, rfl⟩, _, by omega, by omega, rfl⟩, rr, trivial⟩
     exact allK_upd (g := fun p : Mrk => (⟨u4, p.kind, p.x, p.y, p.size⟩ : Mrk)) hsh (fun y hy => ⟨hw4, hy.2⟩)
   · first
      | refine .freeze _ 5 88 5 _ _ rfl (.weak _ ?_)
      | refine .freeze _ 100 88 5 _ _ rfl (.weak _ ?_)
     (conv => whnf)
     refine ⟨_, [(1000000, strm n L _)], SV.le_upd (fun p : Mrk => (⟨p.pan, u5, p.x, p.y, p.size⟩ : Mrk)) (fun _ => rfl), ⟨⟨_, ?_, rfl⟩, _, by omega, by omega, rfl⟩, rr, trivial⟩
     exact allK_upd (g := fun p : Mrk => (⟨p.pan, u5, p.x, p.y, p.size⟩ : Mrk)) hsh (fun y hy => hy)
   · first
      | refine .freeze _ 5 88 5 _ _ rfl (.weak _ ?_)
      | refine .freeze _ 100 88 5 _ _ rfl (.weak _ ?_)
     (conv => whnf)
     refine ⟨_, [(1000000, strm n L _)], SV.le_upd2 (f := mkF) (d := mk0) (l := e) (fun p : Mrk => (⟨p.pan, p.kind, u6, p.y, p.size⟩ : Mrk)) (fun p : Mrk => (⟨p.pan, p.kind, p.x, u7, p.size⟩ : Mrk)) (fun _ => rfl) (fun _ => rfl), ⟨⟨_, ?_, rfl⟩, _, by omega, by omega, rfl⟩, rr, trivial⟩
     exact allK_upd (g := fun p : Mrk => (⟨p.pan, p.kind, p.x, u7, p.size⟩ : Mrk)) (allK_upd (g := fun p : Mrk => (⟨p.pan, p.kind, u6, p.y, p.size⟩ : Mrk)) hsh (fun y hy => ⟨hy.1, (show -1099511627776 ≤ u6 ∧ u6 ≤ 1099511627776 from by omega), hy.2.2⟩)) (fun y hy => ⟨hy.1, hy.2.1, pk hu7 rfl, hy.2.2.2⟩)
   · first
      | refine .freeze _ 5 88 5 _ _ rfl (.weak _ ?_)
      | refine .freeze _ 100 88 5 _ _ rfl (.weak _ ?_)
     (conv => whnf)
     refine ⟨_, [(1000000, strm n L _)], SV.le_upd (fun p : Mrk => (⟨p.pan, p.kind, p.x, p.y, u8⟩ : Mrk)) (fun _ => rfl), ⟨⟨_, ?_, rfl⟩, _, by omega, by omega, rfl⟩, rr, trivial⟩
     exact allK_upd (g := fun p : Mrk => (⟨p.pan, p.kind, p.x, p.y, u8⟩ : Mrk)) hsh (fun y hy => ⟨hy.1, hy.2.1, hy.2.2.1, (show -1099511627776 ≤ u8 ∧ u8 ≤ 1099511627776 from by omega)⟩)
   all_goals
    first
     | refine .freeze _ 5 88 5 _ _ rfl (.weak _ ?_)
     | refine .freeze _ 100 88 5 _ _ rfl (.weak _ ?_)
    (conv => whnf)
    exact ⟨_, [(1000000, strm n L _)], lr, ⟨⟨e, hsh, rfl⟩, _, by omega, by omega, rfl⟩, rr, trivial⟩
end Go.Proofs.YtgeakdcbpjmkbaaGreatDoor
set_option maxRecDepth 100000
namespace Go.Proofs
open Go.Shelf Go.RowKit
variable {P : Program} {ρ : Ren}
set_option maxHeartbeats 1000000 in
theorem bldString (L : Lays.n169 P ρ) (X : Builder.Extra P ρ) (b g cap : Nat) (p : Value) (cur : Array Value) (l : List UInt8) (w : World) (h0 : l ≠ []) (hbk : w.heap[b]? = some (.cells #[p, .slice (some ⟨g, 0, none⟩) l.length cap] (ρ.t 72) (0, 0)))
 (hg : w.heap[g]? = some (.cells cur (ρ.t 5) (0, 0))) (hnc : l.length ≤ cap) (hcm : cap ≤ maxLen) (hcs : cur.size = cap * 1) (hcell : ∀ j x, l[j]? = some x → w.drew.cell? ((⟨g, 0, none⟩ : Addr).add j) = some (.int .u8 x.toNat)) :
 Calls P (ρ.f 169) #[.pointer (some ⟨b, 0, none⟩)] w fun e w' => e = .returned (.string ⟨l.toArray⟩) ∧ w.grownBy w' (some g) := by
 have hl0 : l.length ≠ 0 := by simpa using h0
 have c1 : w.drew.cell? ⟨b, 1, none⟩ = some (.slice (some ⟨g, 0, none⟩) l.length cap) := by
  have : w.drew.heap[b]? = some (.cells #[p, .slice (some ⟨g, 0, none⟩) l.length cap] (ρ.t 72) (0, 0)) := hbk
  rw [Lib.cell_of_heap this]; rfl
 have hSD : (Builtin.unsafeSliceData_ #[(ρ.t 37)] (ρ.t 127) #[.slice (some ⟨g, 0, none⟩) l.length cap]).run P w.drew = .ok (.pointer (some ⟨g, 0, none⟩)) w.drew :=
  Lib.run_unsafeSliceData_row _ _ _ _ _ _ (by omega)
 have hUS : (Builtin.unsafeString_ #[(ρ.t 127), (ρ.t 3)] (ρ.t 9) #[.pointer (some ⟨g, 0, none⟩), .int .i64 l.length]).run P w.drew = .ok (.string ⟨l.toArray⟩) (w.drew.freeze ⟨g, 0, none⟩ l.length) :=
  Lib.run_unsafeString_row w.drew (ρ.t 127) (ρ.t 3) (ρ.t 9) (ρ.t 5) L.t127 X.cellsByte g cur.size (by have hg' : w.drew.heap[g]? = some (.cells cur (ρ.t 5) (0, 0)) := hg; simp [World.shape?, hg']) l h0 (by omega) (by unfold maxLen at hcm; omega) hcell
 have hgr : w.grownBy (w.drew.freeze ⟨g, 0, none⟩ l.length) (some g) := by
  unfold World.freeze
  rw [if_neg hl0]
  exact ⟨rfl, rfl, rfl, by show w.heap.size ≤ (Array.modify _ _ _).size; rw [Array.size_modify]; exact Nat.le_refl _, fun k _ hk => by
   simp only [Array.getElem?_modify]
   rw [if_neg (fun e => hk (by rw [← e]))]; rfl⟩
 clear hcell hcs hcm hnc hg
 have mixed := L.mixed
 have t72 := L.t72; have a72 := L.a72; have z72 := L.z72; have v72 := L.v72; have u72 := run_underlying L.t72
 have t70 := L.t70; have a70 := L.a70; have z70 := L.z70; have v70 := L.v70; have u70 := run_underlying L.t70
 have t37 := L.t37; have a37 := L.a37; have z37 := L.z37; have v37 := L.v37; have u37 := run_underlying L.t37
 have t127 := L.t127; have a127 := L.a127; have z127 := L.z127; have v127 := L.v127; have u127 := run_underlying L.t127
 have t3 := L.t3; have a3 := L.a3; have z3 := L.z3; have v3 := L.v3; have u3 := run_underlying L.t3
 have t9 := L.t9; have a9 := L.a9; have z9 := L.z9; have v9 := L.v9; have u9 := run_underlying L.t9
 have t5 := X.t5; have a5 := X.a5; have z5 := X.z5; have v5 := X.v5; have u5 := run_underlying X.t5
 go_enter L.f169, Body.n169_ntmps ρ
 go_wp2
 go_region_o
 all_goals (go_wp2; go_ret; exact ⟨rfl, hgr⟩)
end Go.Proofs
namespace Go.Proofs.YtgeakdcbpjmkbaaGreatDoor
open Go Go.Eng Go.Shelf Go.RowKit
theorem ext156 : Builder.Extra Tryz.prog Tryz.lays156_ren := { sizeBuilder := by kernel_rfl, liesBuilder := by kernel_rfl, t5 := Tryz.underlying5, a5 := Tryz.isAgg5, z5 := Tryz.sizeOf5, v5 := Tryz.zeroValue5, infoByte := by kernel_rfl, cellsByte := by kernel_rfl, sizeByte := by kernel_rfl, neB5 := by decide }
theorem ext169 : Builder.Extra Tryz.prog Tryz.lays169_ren := { sizeBuilder := by kernel_rfl, liesBuilder := by kernel_rfl, t5 := Tryz.underlying5, a5 := Tryz.isAgg5, z5 := Tryz.sizeOf5, v5 := Tryz.zeroValue5, infoByte := by kernel_rfl, cellsByte := by kernel_rfl, sizeByte := by kernel_rfl, neB5 := by decide }
theorem lays240 : Lays.n240 Tryz.prog Tryz.lays156_ren := { Tryz.lays156 with }
theorem zJoin (l : List (List UInt8)) (sep : List UInt8) (hl : (Lib.join l sep).length ≤ 2^40) (hn : l.length ≤ 2^40) : FSpec Tryz.prog 94 [.d (strs l), .d (.str sep)] [] (fun x r => x = .d (.str (Lib.join l sep)) ∧ r = []) := by
 refine FSpec.ofBelow Tryz.call94 (fun G β w vs hg hvl hd => ?_)
 match vs, hvl with
 | [u, v], _ =>
   have h0 := hd 0 _ u rfl rfl
   have h1 := hd 1 _ v rfl rfl
   cases h1 with | d _ _ h1 => cases h1 with | str _ =>
   refine ⟨.string ⟨(Lib.join l sep).toArray⟩, fun _ _ => .d _ _ (.str _), ?_⟩
   have e : Tryz.lays156_ren.f 156 = 94 := rfl
   match l, hl, hn, h0 with
   | [], _, _, h0 =>
     cases h0 with | d _ _ h0 =>
     obtain ⟨a, c, rfl⟩ : ∃ a c, u = .slice a 0 c := by
      unfold strs seqD at h0
      generalize hz : ([] : List (List UInt8)).length = z at h0
      have hz : z = 0 := hz.symm
      subst hz
      cases h0 with
      | ronil => exact ⟨_, _, rfl⟩
      | ro _ _ _ a cap => exact ⟨_, _, rfl⟩
     have hcon := Any.strings_Join_none Tryz.lays156 ext156 a c ⟨sep.toArray⟩ w
     rw [e] at hcon
     refine hcon.mono ?_
     rintro e' w' ⟨rfl, rfl⟩
     exact ⟨by rw [Lib.join_nil], Below.refl _ _⟩
   | x :: r, hl, hn, h0 =>
     cases h0 with | d _ _ h0 =>
     unfold strs seqD at h0
     generalize hz : (x :: r).length = z at h0
     cases h0 with
     | ronil => simp at hz
     | ro _ _ _ a cap vals hs hcap hmax hl2 hc hd2 =>
       obtain ⟨bk, o, sp⟩ := a
       simp only at hs; subst hs
       have hcell : ∀ (j : Nat) y, (x :: r)[j]? = some y → w.cell? ⟨bk, o + j, none⟩ = some (.string ⟨y.toArray⟩) := by
        intro j y hy
        have hj : j < z := by rw [← hz]; exact (List.getElem?_eq_some_iff.1 hy).1
        have hx : (rowF sF [] (x :: r) j)[0]? = some (DV.str y) := by simp [rowF, sF, List.getD_eq_getElem?_getD, hy]
        obtain ⟨cs, e', fr, q1, q2, q3⟩ := hc j 0 _ hj hx
        have q4 := hd2 j 0 _ hj hx
        generalize vals j 0 = vv at q3 q4
        cases q4 with | str =>
        rw [Eng.Addr.add_block] at q1
        have := hg _ _ q1
        rw [Addr.add_lit] at q3
        simp only [Nat.mul_one, Nat.add_zero] at q3
        simp only at this
        simp [World.cell?, this, q3]
       have hbk : bk < w.heap.size := by
        have hx : (rowF sF [] (x :: r) 0)[0]? = some (DV.str x) := by simp [rowF, sF]
        obtain ⟨cs, e', fr, q1, _, _⟩ := hc 0 0 _ (by rw [← hz]; simp) hx
        rw [Eng.Addr.add_block] at q1
        exact (Array.getElem?_eq_some_iff.1 (hg _ _ q1)).1
       cases r with
       | nil =>
         have hz : z = 1 := hz.symm
         subst hz
         have hcon := Any.strings_Join_one Tryz.lays156 ext156 bk o cap ⟨x.toArray⟩ ⟨sep.toArray⟩ w (by simpa using hcell 0 x rfl)
         rw [e] at hcon
         refine hcon.mono ?_
         rintro e' w' ⟨rfl, rfl⟩
         exact ⟨by rw [Lib.join_one], Below.refl _ _⟩
       | cons y r =>
         have hmm : ((x :: y :: r).map fun z : List UInt8 => (⟨z.toArray⟩ : ByteArray)).map (·.data.toList) = x :: y :: r := by rw [List.map_map]; simp [Function.comp_def]
         have hln : ((x :: y :: r).map fun z : List UInt8 => (⟨z.toArray⟩ : ByteArray)).length = z := by rw [List.length_map]; exact hz
         have hcon := Any.strings_Join_many Tryz.lays156 ext156 bk o cap ((x :: y :: r).map fun z => ⟨z.toArray⟩) ⟨sep.toArray⟩ w (fun j q hq => by
          rw [List.getElem?_map] at hq
          cases hy : (x :: y :: r)[j]? with
          | none => rw [hy] at hq; cases hq
          | some t => rw [hy] at hq; cases hq; exact hcell j t hy) hbk (by simp) (by rw [List.length_map]; omega) (by rw [hln]; exact hcap) (by rw [hmm]; simpa using Nat.le_trans hl (by decide))
         rw [e, hmm, hln] at hcon
         exact hcon
theorem FSpec.same {f : FuncId} {args : List SV} {rin : List (Nat × Res)} {y : SV} (henter : ∀ args w, (callFunc f args).run Tryz.prog w = .ok (.enter f args) w)
 (h : ∀ (G : Hp) (β : Env) (w : World) (vs : List Value), Pre G β w (lookL rin) → vs.length = args.length → (∀ (i : Nat) x v, args[i]? = some x → vs[i]? = some v → SV.Den G β x v) →
   ∃ u, SV.Den G β y u ∧ Calls Tryz.prog f vs.toArray w fun e w' => e = .returned u ∧ w' = w) : FSpec Tryz.prog f args rin (fun x r => x = y ∧ r = rin) := by
 refine ⟨henter, fun G β w vs hpre hl hd => ?_⟩
 obtain ⟨u, hu, hc⟩ := h G β w vs hpre hl hd
 refine hc.mono ?_
 rintro e w' ⟨rfl, rfl⟩
 exact ⟨u, y, _, G, β, rfl, ⟨rfl, rfl⟩, ⟨Hp.le_refl G, Env.le_refl β, hpre.gw, fun b o e => .inl e, Keep.refl _ _, hpre.rs, hpre.dj, fun d r v b h1 h2 h3 h4 => ⟨hpre.og d r v b h1 h2 h3 h4, .inl ⟨d, r, v, h1, h2, h3, h4⟩⟩⟩, hu⟩
def bNew : Res := .cells 98 [.d (.opq (.pointer none)), .d .nilsl]
def bCel (d : Nat) : Res := .cells 98 [.ptr 1000001 0, .buf d]
theorem zCopyU (e k n : Nat) (g : Nat → List DV) : FSpec Tryz.prog 151 [.ptr 1000001 0] [(1000001, bCel 1000002), (1000002, .buf e k n g)] (fun x r => x = .tup [] ∧ r = [(1000001, bCel 1000002), (1000002, .buf e k n g)]) := by
 refine FSpec.same Tryz.call151 (fun G β w vs hpre hvl hd => ?_)
 match vs, hvl with
 | [u], _ =>
   have h0 := hd 0 _ u rfl rfl
   cases h0 with | ptr _ _ b hb =>
   obtain ⟨b', cs, hb', hh, hlen, hden⟩ := hpre.rs 1000001 (bCel 1000002) (by simp [lookL])
   rw [hb] at hb'; cases hb'
   match cs, hlen with
   | [c0, c1], _ =>
     have q := hden 0 _ c0 rfl rfl
     cases q with | ptr _ _ b2 hb2 =>
     rw [hb] at hb2; cases hb2
     have hcon := Any.Builder_copyCheck_used lays240 ext156.toX72 b w (by simp [World.cell?, hh])
     have e : Tryz.lays156_ren.f 240 = 151 := rfl
     rw [e] at hcon
     exact ⟨.tuple #[], .tup [] [] rfl (by simp), hcon⟩
theorem zCopyN : FSpec Tryz.prog 151 [.ptr 1000001 0] [(1000001, bNew)] (fun x r => x = .tup [] ∧ r = [(1000001, .cells 98 [.ptr 1000001 0, .d .nilsl])]) := by
 refine ⟨Tryz.call151, fun G β w vs hpre hvl hd => ?_⟩
 match vs, hvl with
 | [u], _ =>
   have h0 := hd 0 _ u rfl rfl
   cases h0 with | ptr _ _ b hb =>
   have hR : lookL [((1000001 : Nat), bNew)] 1000001 = some bNew := by simp [lookL]
   have one : ∀ {r0 : Res} d r, lookL [((1000001 : Nat), r0)] d = some r → d = 1000001 ∧ r = r0 := by
    intro r0 d r hr
    simp only [lookL] at hr
    cases hq : Nat.beq d 1000001 with
    | false => rw [hq] at hr; cases hr
    | true => rw [hq] at hr; cases hr; exact ⟨Nat.eq_of_beq_eq_true hq, rfl⟩
   obtain ⟨b', cs, hb', hh, hlen, hden⟩ := hpre.rs 1000001 bNew hR
   rw [hb] at hb'; cases hb'
   match cs, hlen with
   | [c0, c1], _ =>
     have q0 := hden 0 _ c0 rfl rfl
     have q1 := hden 1 _ c1 rfl rfl
     cases q0 with | d _ _ q0 => cases q0 with | opq _ _ =>
     cases q1 with | d _ _ q1 => cases q1 with | nilsl =>
     have hcon := Any.Builder_copyCheck_fresh lays240 ext156.toX72 b w (by simp [World.cell?, hh]) (by simp [World.shape?, hh]; rfl) (by simp [World.frozen?, hh])
     have e : Tryz.lays156_ren.f 240 = 151 := rfl
     rw [e] at hcon
     refine hcon.mono ?_
     rintro e' w' ⟨rfl, rfl⟩
     have hTin : Tin w β (lookL [((1000001 : Nat), bNew)]) b := ⟨1000001, _, _, hR, rfl, hb, .of rfl⟩
     have hGb : G b = none := hpre.og _ _ _ b hR rfl hb (.of rfl)
     have hother : ∀ k, k ≠ b → (w.setCell ⟨b, 0, none⟩ (.pointer (some ⟨b, 0, none⟩))).heap[k]? = w.heap[k]? := fun k hk => Below.heap_setCell w ⟨b, 0, none⟩ _ k hk
     have hnew : (w.setCell ⟨b, 0, none⟩ (.pointer (some ⟨b, 0, none⟩))).heap[b]? = some (.cells #[.pointer (some ⟨b, 0, none⟩), .slice none 0 0] 98 (0, 0)) := by
      simp [World.setCell, Array.getElem?_modify, hh]
     refine ⟨_, .tup [], _, G, β, rfl, ⟨rfl, rfl⟩, ⟨Hp.le_refl G, Env.le_refl β, fun k o hk => ?_, fun k o hk => .inl hk, ⟨rfl, rfl, rfl, by simp [World.setCell], fun k _ hT => hother k (fun q => by subst q; exact hT hTin)⟩, fun d r hr => ?_, fun d d' r r' _ _ _ e1 e2 _ _ _ _ _ _ => ?_, fun d r u k e1 _ hu hbk => ?_⟩, .tup [] [] rfl (by simp)⟩
     · rw [hother k (fun q => by subst q; rw [hGb] at hk; cases hk)]; exact hpre.gw k o hk
     · obtain ⟨rfl, rfl⟩ := one d r hr
       refine ⟨b, [.pointer (some ⟨b, 0, none⟩), .slice none 0 0], hb, by simpa using hnew, rfl, fun i x v hx hv => ?_⟩
       match i, hx, hv with
       | 0, hx, hv => simp at hx hv; subst hx; subst hv; exact .ptr _ _ _ hb
       | 1, hx, hv => simp at hx hv; subst hx; subst hv; exact .d _ _ .nilsl
     · rw [(one d r e1).1, (one d' r' e2).1]
     · obtain ⟨rfl, rfl⟩ := one d r e1
       rw [hb] at hu; cases hu
       cases hbk.plain rfl
       exact ⟨hGb, .inl hTin⟩
end Go.Proofs.YtgeakdcbpjmkbaaGreatDoor
set_option maxRecDepth 20000
namespace Go.Proofs.YtgeakdcbpjmkbaaGreatDoor
open Go Go.Eng Go.Shelf Go.RowKit
def bytB (bs : List UInt8) : Res := .buf 5 1 bs.length fun i => byteR (bs.getD i 0)
theorem le_bytApp {bs s : List UInt8} : Res.le (.buf 5 1 (bs.length + s.length) (appGet bs.length (fun i => byteR (bs.getD i 0)) fun i => byteR (s.getD i 0))) (bytB (bs ++ s)) := by
 refine Res.le_buf (by simp) (fun i hi => ?_)
 rcases Nat.lt_or_ge i bs.length with q | q
 · rw [appGet_lt q]; simp [List.getD_eq_getElem?_getD, List.getElem?_append_left q]
 · rw [appGet_ge q]; simp [List.getD_eq_getElem?_getD, List.getElem?_append_right q]
theorem le_bytNew {s : List UInt8} : Res.le (.buf 5 1 (0 + s.length) fun i => byteR (s.getD i 0)) (bytB s) := Res.le_buf (by simp) (fun i hi => rfl)
theorem zStrN : FSpec Tryz.prog 68 [.ptr 1000001 0] [(1000001, bNew)] (fun x r => x = .d (.str []) ∧ r = []) := by
 refine ⟨Tryz.call68, fun G β w vs hpre hvl hd => ?_⟩
 match vs, hvl with
 | [u], _ =>
   have h0 := hd 0 _ u rfl rfl
   cases h0 with | ptr _ _ b hb =>
   obtain ⟨b', cs, hb', hh, hlen, hden⟩ := hpre.rs 1000001 bNew (by simp [lookL])
   rw [hb] at hb'; cases hb'
   match cs, hlen with
   | [c0, c1], _ =>
     have q0 := hden 0 _ c0 rfl rfl
     have q1 := hden 1 _ c1 rfl rfl
     cases q0 with | d _ _ q0 => cases q0 with | opq _ _ =>
     cases q1 with | d _ _ q1 => cases q1 with | nilsl =>
     have hcon := Any.Builder_String_nil Tryz.lays169 ext169 w.heap.size b (.pointer none) w (show w.heap[b]? = some (.cells #[.pointer none, .slice none 0 0] 98 (0, 0)) from by simpa using hh)
     have e : Tryz.lays169_ren.f 169 = 68 := rfl
     rw [e] at hcon
     refine hcon.mono ?_
     rintro e' w' ⟨rfl, hb2⟩
     refine ⟨_, .d (.str []), [], G, β, rfl, ⟨rfl, rfl⟩, ⟨Hp.le_refl G, Env.le_refl β, fun k o hk => ?_, fun k o hk => .inl hk, ⟨hb2.os, hb2.tape, hb2.output, hb2.size, fun k hk _ => hb2.block k hk⟩, fun d r hr => (by cases hr), fun d d' r r' _ _ _ e1 => (by cases e1), fun d r u k e1 => (by cases e1)⟩, .d _ _ (.str [])⟩
     have := hpre.gw k o hk
     rw [hb2.block k (Array.getElem?_eq_some_iff.1 this).1]; exact this
theorem zStrB (bs : List UInt8) (A : SV) : FSpec Tryz.prog 68 [.ptr 1000001 0] [(1000001, .cells 98 [A, .buf 1000002]), (1000002, bytB bs)] (fun x r => x = .d (.str bs) ∧ r = []) := by
 refine ⟨Tryz.call68, fun G β w vs hpre hvl hd => ?_⟩
 match vs, hvl with
 | [u], _ =>
   have h0 := hd 0 _ u rfl rfl
   cases h0 with | ptr _ _ b hb =>
   obtain ⟨b', cs, hb', hh, hlen, hden⟩ := hpre.rs 1000001 (.cells 98 [A, .buf 1000002]) (by simp [lookL])
   rw [hb] at hb'; cases hb'
   have hR2 : lookL [((1000001 : Nat), Res.cells 98 [A, .buf 1000002]), (1000002, bytB bs)] 1000002 = some (bytB bs) := rfl
   obtain ⟨v, xs, hv, hown, _, _, hrow⟩ := hpre.rs 1000002 _ hR2
   match cs, hlen with
   | [c0, c1], _ =>
     have q1 := hden 1 _ c1 rfl rfl
     cases q1 with | buf _ _ hb1 _ =>
     rw [hv] at hb1; cases hb1
     have hh : w.heap[b]? = some (.cells #[c0, v] 98 (0, 0)) := by simpa using hh
     have e : Tryz.lays169_ren.f 169 = 68 := rfl
     have fin : ∀ (row : Option Nat), (∀ k, row = some k → blk v = some k) → (Calls Tryz.prog 68 #[.pointer (some ⟨b, 0, none⟩)] w fun e w' => e = .returned (.string ⟨bs.toArray⟩) ∧ w.grownBy w' row) →
      Calls Tryz.prog 68 #[.pointer (some ⟨b, 0, none⟩)] w fun e w' => ∃ v' x rout G' β', e = .returned v' ∧ (x = .d (.str bs) ∧ rout = []) ∧ Out G β w (lookL [(1000001, .cells 98 [A, .buf 1000002]), (1000002, bytB bs)]) G' β' w' (lookL rout) ∧ SV.Den G' β' x v' := by
      intro row hrow' hc
      refine hc.mono ?_
      rintro e' w' ⟨rfl, hgb⟩
      refine ⟨_, .d (.str bs), [], G, β, rfl, ⟨rfl, rfl⟩, ⟨Hp.le_refl G, Env.le_refl β, fun k o hk => ?_, fun k o hk => .inl hk, ⟨hgb.os, hgb.tape, hgb.output, hgb.size, fun k hk hT => ?_⟩, fun d r hr => (by cases hr), fun d d' r r' _ _ _ e1 => (by cases e1), fun d r u k e1 => (by cases e1)⟩, .d _ _ (.str bs)⟩
      · have := hpre.gw k o hk
        rw [hgb.block k (Array.getElem?_eq_some_iff.1 this).1 (fun q => by have := hpre.og 1000002 _ v k hR2 rfl hv (.of (hrow' k q.symm)); rw [hk] at this; cases this)]; exact this
      · exact hgb.block k hk (fun q => hT ⟨1000002, _, _, hR2, rfl, hv, .of (hrow' k q.symm)⟩)
     have fromB : (Calls Tryz.prog 68 #[.pointer (some ⟨b, 0, none⟩)] w fun e w' => e = .returned (.string ⟨bs.toArray⟩) ∧ Below w.heap.size w w') → Calls Tryz.prog 68 #[.pointer (some ⟨b, 0, none⟩)] w fun e w' => e = .returned (.string ⟨bs.toArray⟩) ∧ w.grownBy w' none :=
      fun hc => hc.mono fun e w' ⟨h1, h2⟩ => ⟨h1, ⟨h2.os, h2.tape, h2.output, h2.size, fun k hk _ => h2.block k hk⟩⟩
     rcases hown.2 with ⟨rfl, hz⟩ | ⟨g, cap, cur, rfl, hbg, hg, hnc, hcm, hcs, htake⟩
     · have : bs = [] := List.eq_nil_of_length_eq_zero hz
       subst this
       have hcon := Any.Builder_String_nil Tryz.lays169 ext169 w.heap.size b c0 w hh
       rw [e] at hcon
       exact fin none (by simp) (fromB hcon)
     · by_cases hb0 : bs = []
       · subst hb0
         by_cases hc0 : cap = 0
         · subst hc0
           have hcon := Any.Builder_String_noroom Tryz.lays169 ext169 w.heap.size b g c0 cur w (Nat.le_refl _) hh hg
           rw [e] at hcon
           exact fin none (by simp) (fromB hcon)
         · have hcon := Any.Builder_String_room Tryz.lays169 ext169 w.heap.size b g cap c0 w hc0 hh
           rw [e] at hcon
           exact fin none (by simp) (fromB hcon)
       · have hcells := hown.cells (g := g) rfl
         have hcon := bldString Tryz.lays169 ext169 b g cap c0 cur bs w hb0 hh hg hnc hcm hcs (fun j x hx => by
          have hj : j < bs.length := (List.getElem?_eq_some_iff.1 hx).1
          obtain ⟨u, hu, hud⟩ := hrow j 0 (.int .u8 ((bs.getD j 0).toNat : Int)) hj rfl
          cases hud with | int =>
          rw [Nat.mul_one, Nat.add_zero] at hu
          have := hcells j _ hu
          have hx' : bs.getD j 0 = x := by simp [List.getD_eq_getElem?_getD, hx]
          rw [hx'] at this
          exact this)
         rw [e] at hcon
         exact fin (some g) (fun k hk => by cases hk; rfl) hcon
theorem zWrN (s : List UInt8) (hs : s.length ≤ 2^36) : FSpec Tryz.prog 65 [.ptr 1000001 0, .d (.str s)] [(1000001, bNew)] (fun x r => x = .tup [.d (.int .i64 s.length), .d (.opq .nilIface)] ∧ r = [(1000001, bCel 14), (14, bytB s)]) := by
 refine spec_of hT (C := []) Tryz.func65 rfl Tryz.call65 rfl rfl rfl ?_
 conv => whnf
 repeat' (first | (refine CallX.of zCopyN [(1000001, 1000001)] rfl ⟨lr, trivial⟩ ⟨rr, trivial⟩ rfl rfl ?_; rintro x rout ⟨rfl, rfl⟩; refine ⟨rfl, ?_⟩; conv => whnf) | (refine br_intro ?_ ?_ <;> intro hb <;> (try simp only [brs] at hb) <;> conv => whnf) | omega | (refine And.intro ?_ ?_; ((try dsimp only); first | omega | (refine szA rfl ?_; omega) | (refine szB rfl ?_; omega) | (unfold inI64; omega) | exact rfl | (simp only [List.toList_toArray, List.length_cons, List.length_nil]; omega) | (simp only [lns] at *; omega) | decide | (unfold inI64; decide)); conv => whnf) | decide | assumption)
 refine .ret _ ?_
 conv => whnf
 refine ⟨[(1000001, bCel 14), (14, bytB s)], ⟨congrArg SV.tup ?_, rfl⟩, rr, le_bytNew, trivial⟩
 repeat' (refine cons_eq ?_ ?_)
 all_goals (conv => lhs; whnf)
theorem zWrB (bs s : List UInt8) (hs : bs.length + s.length ≤ 2^36) : FSpec Tryz.prog 65 [.ptr 1000001 0, .d (.str s)] [(1000001, bCel 1000002), (1000002, bytB bs)] (fun x r => x = .tup [.d (.int .i64 s.length), .d (.opq .nilIface)] ∧ r = [(1000001, bCel 14), (14, bytB (bs ++ s))]) := by
 refine spec_of hT (C := []) Tryz.func65 rfl Tryz.call65 rfl rfl rfl ?_
 conv => whnf
 repeat' (first | (refine CallX.of (zCopyU 5 1 bs.length fun i => byteR (bs.getD i 0)) [(1000001, 1000001), (1000002, 1000002)] rfl ⟨lr, trivial⟩ ⟨rr, rr, trivial⟩ rfl rfl ?_; rintro x rout ⟨rfl, rfl⟩; refine ⟨rfl, ?_⟩; conv => whnf) | (refine br_intro ?_ ?_ <;> intro hb <;> (try simp only [brs] at hb) <;> conv => whnf) | omega | (refine And.intro ?_ ?_; ((try dsimp only); first | omega | (refine szA rfl ?_; omega) | (refine szB rfl ?_; omega) | (unfold inI64; omega) | exact rfl | (simp only [List.toList_toArray, List.length_cons, List.length_nil]; omega) | (simp only [lns] at *; omega) | decide | (unfold inI64; decide)); conv => whnf) | decide | assumption)
 refine .ret _ ?_
 conv => whnf
 refine ⟨[(1000001, bCel 14), (14, bytB (bs ++ s))], ⟨congrArg SV.tup ?_, rfl⟩, rr, le_bytApp, trivial⟩
 repeat' (refine cons_eq ?_ ?_)
 all_goals (conv => lhs; whnf)
abbrev Part := Int ⊕ List UInt8
def partF : Part → List DV
 | .inl n => [.ifc 3 (.int .i64 n)]
 | .inr s => [.ifc 9 (.str s)]
def partS : Part → List UInt8
 | .inl n => Lib.itoa n
 | .inr s => s
def part0 : Part := .inr []
def partOk (p : Part) : Prop := match p with | .inl n => -9223372036854775808 ≤ n ∧ n ≤ 9223372036854775807 | .inr _ => True
theorem zWJoin (l : List Part) (hl : l.length ≤ 2^20) (hk : ∀ p ∈ l, partOk p) (hj : (Lib.join (l.map partS) [32]).length ≤ 2^40) : FSpec Tryz.prog 66 [.d (seqD 1 partF part0 l)] kx (fun x r => x = .d (.str (Lib.join (l.map partS) [32])) ∧ r = kx) := by
 refine spec_of hT (C := []) Tryz.func66 rfl Tryz.call66 rfl rfl rfl ?_
 conv => whnf
 refine LoopX.rule hT (C := []) (ι := Nat) (fun i => i ≤ l.length) (fun i => mkSt [(3, .buf 3), (8, .d (seqD 1 partF part0 l)), (9, .d (.int .i64 l.length)), (10, .d (.int .i64 i))] [(1000009, KX), (3, seqB 9 1 sF [] ((l.take i).map partS))]) (fun i => l.length - i) 0 (by simp) ?_ ?_
 · exact (Entails.nil 3 3 9 1 (rowF sF [] []) rfl rfl (by decide)).trans (by (refine Entails.mk' [(1000009, 1000009), (3, 3)] rfl rfl ?_ ?_ <;> repeat' (first | exact True.intro | exact lr | exact rr | exact SV.le_int (by omega) | exact SV.le_any _ | refine And.intro ?_ ?_)); done)
 intro i hi
 conv => whnf
 repeat' (first | (refine br_intro ?_ ?_ <;> intro hb <;> (try simp only [brs] at hb) <;> conv => whnf) | omega | (refine And.intro ?_ ?_; ((try dsimp only); first | omega | (refine szA rfl ?_; omega) | (refine szB rfl ?_; omega) | (unfold inI64; omega) | exact rfl | (simp only [List.toList_toArray, List.length_cons, List.length_nil]; omega) | (simp only [lns] at *; omega) | decide | (unfold inI64; decide)); conv => whnf) | decide | assumption)
 · have hlt : i < l.length := by simpa using hb
   have hln : ((l.take i).map partS).length = i := by simp; omega
   have hsn : (l.take (i + 1)).map partS = (l.take i).map partS ++ [partS (l.getD i part0)] := by
    have : l.take (i + 1) = l.take i ++ [l.getD i part0] := by rw [List.take_add_one]; simp [List.getD_eq_getElem?_getD, hlt]
    rw [this, List.map_append]; rfl
   have hpk := hk _ (getD_mem (x := part0) hlt)
   have hpf : rowF partF part0 l (i : Int).toNat = partF (l.getD i part0) := rfl
   cases hp : l.getD i part0 with
   | inl n =>
     rw [hp] at hpk hsn
     rw [hpf, hp]
     conv => whnf
     repeat' (first | (refine CallX.kn (zItoa n hpk.1 hpk.2) rfl rfl rfl rfl ?_; conv => whnf) | (refine br_intro ?_ ?_ <;> intro hb <;> (try simp only [brs] at hb) <;> conv => whnf) | omega | (refine And.intro ?_ ?_; ((try dsimp only); first | omega | (refine szA rfl ?_; omega) | (refine szB rfl ?_; omega) | (unfold inI64; omega) | exact rfl | (simp only [List.toList_toArray, List.length_cons, List.length_nil]; omega) | (simp only [lns] at *; omega) | decide | (unfold inI64; decide)); conv => whnf) | decide | assumption)
     refine ⟨i + 1, by omega, by omega, ?_⟩
     rw [hsn]
     exact (by (refine Entails.mk' [(1000009, 1000009), (3, 22)] rfl rfl ?_ ?_ <;> repeat' (first | exact True.intro | exact lr | exact rr | (exact Res.le_snocF rfl) | exact SV.le_int (by omega) | exact SV.le_any _ | refine And.intro ?_ ?_)); done)
   | inr s =>
     rw [hp] at hsn
     rw [hpf, hp]
     conv => whnf
     repeat' (first | (refine br_intro ?_ ?_ <;> intro hb <;> (try simp only [brs] at hb) <;> conv => whnf) | omega | (refine And.intro ?_ ?_; ((try dsimp only); first | omega | (refine szA rfl ?_; omega) | (refine szB rfl ?_; omega) | (unfold inI64; omega) | exact rfl | (simp only [List.toList_toArray, List.length_cons, List.length_nil]; omega) | (simp only [lns] at *; omega) | decide | (unfold inI64; decide)); conv => whnf) | decide | assumption)
     refine ⟨i + 1, by omega, by omega, ?_⟩
     rw [hsn]
     exact (by (refine Entails.mk' [(1000009, 1000009), (3, 29)] rfl rfl ?_ ?_ <;> repeat' (first | exact True.intro | exact lr | exact rr | (exact Res.le_snocF rfl) | exact SV.le_int (by omega) | exact SV.le_any _ | refine And.intro ?_ ?_)); done)
 · have hi2 : i = l.length := by omega
   subst hi2
   rw [List.take_length]
   refine CallX.freeze _ _ _ _ 3 9 1 _ _ rfl rfl ?_
   conv => whnf
   repeat' (first | (refine CallX.exact (zJoin (l.map partS) [32] hj (by simp; omega)) rfl rfl ?_; rotate_right; conv => whnf) | (refine br_intro ?_ ?_ <;> intro hb <;> (try simp only [brs] at hb) <;> conv => whnf) | omega | (refine And.intro ?_ ?_; ((try dsimp only); first | omega | (refine szA rfl ?_; omega) | (refine szB rfl ?_; omega) | (unfold inI64; omega) | exact rfl | (simp only [List.toList_toArray, List.length_cons, List.length_nil]; omega) | (simp only [lns] at *; omega) | decide | (unfold inI64; decide)); conv => whnf) | decide | assumption)
   refine .ret _ ?_
   conv => whnf
   refine ⟨kx, ⟨?_, rfl⟩, rr, trivial⟩
   conv => lhs; whnf
def isAtoi (s : List UInt8) : Bool := match Lib.atoiAll s with | .ok n => Lib.itoa n == s | _ => false
def numN (s : List UInt8) : Int := match Lib.atoiAll s with | .ok n => n | .range => Lib.atoiSat s | _ => 0
def numOk (s : List UInt8) : Bool := isAtoi s && decide ((Lib.trimPrefix s [45]).length ≤ 9)
def digs : List UInt8 := [48, 49, 50, 51, 52, 53, 54, 55, 56, 57]
theorem digit_mem (u : Nat) (h : u < 10) : digs.contains (UInt8.ofNat (48 + u)) = true := by
 have : ∀ u, u < 10 → digs.contains (UInt8.ofNat (48 + u)) = true := by decide
 exact this u h
theorem dec_digits : ∀ (n u : Nat), u < n → Lib.decDigits u ≠ [] ∧ ∀ b ∈ Lib.decDigits u, digs.contains b = true := by
 intro n
 induction n with
 | zero => intro u h; omega
 | succ n ih =>
   intro u hu
   rw [Lib.decDigits]
   split
   · rename_i h
     exact ⟨by simp, fun b hb => by rw [List.mem_singleton] at hb; subst hb; exact digit_mem u h⟩
   · rename_i h
     refine ⟨by simp, fun b hb => ?_⟩
     rcases List.mem_append.1 hb with q | q
     · exact (ih (u / 10) (by omega)).2 b q
     · rw [List.mem_singleton] at q; subst q; exact digit_mem _ (Nat.mod_lt _ (by decide))
theorem trim_itoa (n : Int) : Lib.trimPrefix (Lib.itoa n) [45] = Lib.decDigits n.natAbs := by
 unfold Lib.itoa
 split
 · rename_i h
   simp [Lib.trimPrefix, Lib.hasPrefix]
 · rename_i h
   have hn : n.toNat = n.natAbs := by omega
   rw [hn]
   obtain ⟨h1, h2⟩ := dec_digits (n.natAbs + 1) n.natAbs (by omega)
   cases hd : Lib.decDigits n.natAbs with
   | nil => exact absurd hd h1
   | cons b r =>
     have hb := h2 b (by rw [hd]; exact List.mem_cons_self)
     have hne : b ≠ 45 := fun e => by subst e; revert hb; decide
     have hne' : ¬ 45 = b := fun e => hne e.symm
     simp [Lib.trimPrefix, Lib.hasPrefix, hne']
def lnsF {α : Type} (tk : List UInt8 → α → Bool × α) : Nat → Nat → List UInt8 → α → (Nat × Bool) × α
 | 0, at', _, a => ((at', false), a)
 | n + 1, at', t, a => if t = [] then ((0, true), a) else
    if (Lib.cut t [10]).2.2 = false then ((at', false), a) else
    if (tk (Lib.cut t [10]).1 a).1 = false then ((at', false), (tk (Lib.cut t [10]).1 a).2) else lnsF tk n (at' + 1) (Lib.cut t [10]).2.1 (tk (Lib.cut t [10]).1 a).2
theorem cut_len {t : List UInt8} (h : (Lib.cut t [10]).2.2 = true) : (Lib.cut t [10]).1.length + (Lib.cut t [10]).2.1.length + 1 = t.length := by
 have hge := Lib.index_ge t [10]
 unfold Lib.cut at h ⊢
 split at h
 · rename_i h0
   rw [if_pos h0]
   have hr := Lib.index_room t [10] h0
   simp only [List.length_take, List.length_drop, List.length_singleton] at hr ⊢
   omega
 · cases h
theorem cut_le (t : List UInt8) : (Lib.cut t [10]).1.length ≤ t.length := by
 unfold Lib.cut
 split
 · simp; omega
 · simp
theorem lxF_pos {p : Nat → Bool} {n k : Nat} (hk : k < n) (h : p k = true) : 0 ≤ ixF p n := by
 have hb := ixF_bd (p := p) (n := n)
 rcases Int.lt_or_le (ixF p n) 0 with q | q
 · exfalso
   have hn : ∀ m, ixF p m < 0 → ∀ j, j < m → p j = false := by
    intro m
    induction m with
    | zero => intro _ j hj; omega
    | succ m ih =>
      intro hm j hj
      rw [ixF] at hm
      split at hm
      · rename_i hz
        by_cases hjm : j = m
        · subst hjm
          split at hm
          · omega
          · rename_i hf; simpa using hf
        · exact ih (by omega) j (by omega)
      · rename_i hz; have := (ixF_bd (p := p) (n := m)).1; omega
   rw [hn n q k hk] at h
   cases h
 · exact q
theorem ix_mem (l : List (List UInt8)) (v : List UInt8) : decide (0 ≤ ixF (fun i => l.getD i [] == v) l.length) = decide (v ∈ l) := by
 rw [decide_eq_decide]
 constructor
 · intro h
   have := ixF_bd (p := fun i => l.getD i [] == v) (n := l.length)
   rw [← eq_of_beq (this.2.2 h)]
   exact getD_mem (by omega)
 · intro h
   obtain ⟨j, hj, rfl⟩ := mem_getD (d := []) h
   exact lxF_pos hj (by simp)
theorem lz143 (l : List (List UInt8)) (hl : l.length ≤ 2^40) (v : List UInt8) : FSpec Tryz.prog 143 [.d (strs l), .d (.str v)] [] (fun x r => x = .d (.int .i64 (ixF (fun i => l.getD i [] == v) l.length)) ∧ r = []) := by
 refine spec_of hT (C := []) Tryz.func143 rfl Tryz.call143 rfl rfl rfl ?_
 conv => whnf
 refine LoopX.rule hT (C := []) (ι := Nat) (fun i => i ≤ l.length ∧ ∀ j, j < i → (l.getD j [] == v) = false) (fun i => mkSt [(0, .d (strs l)), (1, .d (.str v)), (7, .d (.int .i64 l.length)), (8, .d (.int .i64 i))] []) (fun i => l.length - i) 0 ⟨by simp, fun j hj => absurd hj (Nat.not_lt_zero j)⟩ (by (refine Entails.mk' [] rfl rfl ?_ ?_ <;> repeat' (first | exact True.intro | exact lr | exact rr | exact SV.le_int (by omega) | exact SV.le_any _ | refine And.intro ?_ ?_)); done) ?_
 rintro i ⟨p1, p2⟩
 have e1 : (i : Int).toNat = i := Int.toNat_natCast i
 conv => whnf
 repeat' (first | (refine br_intro ?_ ?_ <;> intro hb <;> (try simp only [brs] at hb) <;> conv => whnf) | omega | (refine And.intro ?_ ?_; ((try dsimp only); first | omega | (refine szA rfl ?_; omega) | (refine szB rfl ?_; omega) | (unfold inI64; omega) | exact rfl | (simp only [List.toList_toArray, List.length_cons, List.length_nil]; omega) | (simp only [lns] at *; omega) | decide | (unfold inI64; decide)); conv => whnf) | decide | assumption)
 · refine .ret _ ?_
   conv => whnf
   refine ⟨[], ⟨?_, rfl⟩, trivial⟩
   conv => lhs; whnf
   congr 2
   exact (ixF_hit (by omega) p2 (by rw [← hb]; simp)).symm
 · exact ⟨i + 1, ⟨by omega, all_step p2 (beq_eq_false_iff_ne.2 fun q => hb q.symm)⟩, by omega, (by (refine Entails.mk' [] rfl rfl ?_ ?_ <;> repeat' (first | exact True.intro | exact lr | exact rr | exact SV.le_int (by omega) | exact SV.le_any _ | refine And.intro ?_ ?_)); done)⟩
 · refine .ret _ ?_
   conv => whnf
   refine ⟨[], ⟨?_, rfl⟩, trivial⟩
   conv => lhs; whnf
   congr 2
   have : i = l.length := by omega
   subst this
   exact (ixF_none p2).symm
theorem lz78 (l : List (List UInt8)) (hl : l.length ≤ 2^40) (v : List UInt8) : FSpec Tryz.prog 78 [.d (strs l), .d (.str v)] [] (fun x r => x = .d (.bool (decide (v ∈ l))) ∧ r = []) := by
 refine spec_of hT (C := []) Tryz.func78 rfl Tryz.call78 rfl rfl rfl ?_
 conv => whnf
 repeat' (first | (refine CallX.exact (lz143 l hl v) rfl rfl ?_; rotate_right; conv => whnf) | (refine br_intro ?_ ?_ <;> intro hb <;> (try simp only [brs] at hb) <;> conv => whnf) | omega | (refine And.intro ?_ ?_; ((try dsimp only); first | omega | (refine szA rfl ?_; omega) | (refine szB rfl ?_; omega) | (unfold inI64; omega) | exact rfl | (simp only [List.toList_toArray, List.length_cons, List.length_nil]; omega) | (simp only [lns] at *; omega) | decide | (unfold inI64; decide)); conv => whnf) | decide | assumption)
 refine .ret _ ?_
 conv => whnf
 refine ⟨[], ⟨?_, rfl⟩, trivial⟩
 conv => lhs; whnf
 rw [← ix_mem]
theorem atoi_bd {s : List UInt8} {v : Int} (h : Lib.atoiAll s = .ok v) : -9223372036854775808 ≤ v ∧ v ≤ 9223372036854775807 := by
 unfold Lib.atoiAll at h
 split at h
 · cases h
 · simp only at h
   split at h
   · cases h
   · cases h
   · split at h
     · cases h
     · split at h
       · cases h
       · cases h
         rename_i h1 h2
         split
         · rename_i hq
           simp [hq] at h2
           omega
         · rename_i hq
           simp [hq] at h1
           omega
theorem lz129 (s : List UInt8) (hs : s.length ≤ 2^40) : FSpec Tryz.prog 129 [.d (.str s)] kx (fun x r => x = .tup [.d (.int .i64 (numN s)), .d (.bool (numOk s))] ∧ r = kx) := by
 refine spec_of hT (C := []) Tryz.func129 rfl Tryz.call129 rfl rfl rfl ?_
 conv => whnf
 refine CallX.of (zAtoi s hs) [(1000009, 1000009)] rfl ⟨lr, trivial⟩ ⟨rr, trivial⟩ rfl rfl ?_
 rintro x rout ⟨hx, rfl⟩
 unfold atoiX at hx
 cases hA : Lib.atoiAll s with
 | ok v =>
   rw [hA] at hx
   simp only at hx
   subst hx
   obtain ⟨hv0, hv1⟩ := atoi_bd hA
   refine ⟨rfl, ?_⟩
   conv => whnf
   repeat' (first | (refine CallX.exact (zTrimP s [45]) rfl rfl ?_; rotate_right; conv => whnf) | (refine CallX.kn (zItoa v hv0 hv1) rfl rfl rfl rfl ?_; conv => whnf) | (refine br_intro ?_ ?_ <;> intro hb <;> (try simp only [brs] at hb) <;> conv => whnf) | omega | (refine And.intro ?_ ?_; ((try dsimp only); first | omega | (refine szA rfl ?_; omega) | (refine szB rfl ?_; omega) | (unfold inI64; omega) | exact rfl | (simp only [List.toList_toArray, List.length_cons, List.length_nil]; omega) | (simp only [lns] at *; omega) | decide | (unfold inI64; decide)); conv => whnf) | decide | assumption)
   · refine .ret _ ?_
     conv => whnf
     refine ⟨kx, ⟨congrArg SV.tup ?_, rfl⟩, rr, trivial⟩
     repeat' (refine cons_eq ?_ ?_)
     all_goals (conv => lhs; whnf)
     all_goals try (with_reducible rfl)
     · unfold numN; rw [hA]
     · unfold numOk isAtoi; rw [hA]; simp [hb]; omega
   · refine .ret _ ?_
     conv => whnf
     refine ⟨kx, ⟨congrArg SV.tup ?_, rfl⟩, rr, trivial⟩
     repeat' (refine cons_eq ?_ ?_)
     all_goals (conv => lhs; whnf)
     all_goals try (with_reducible rfl)
     · unfold numN; rw [hA]
     · unfold numOk isAtoi; rw [hA]; simp [hb]
 | range =>
   rw [hA] at hx
   simp only at hx
   obtain ⟨t, p, rfl⟩ := hx
   refine ⟨rfl, ?_⟩
   conv => whnf
   repeat' (first | (refine br_intro ?_ ?_ <;> intro hb <;> (try simp only [brs] at hb) <;> conv => whnf) | omega | (refine And.intro ?_ ?_; ((try dsimp only); first | omega | (refine szA rfl ?_; omega) | (refine szB rfl ?_; omega) | (unfold inI64; omega) | exact rfl | (simp only [List.toList_toArray, List.length_cons, List.length_nil]; omega) | (simp only [lns] at *; omega) | decide | (unfold inI64; decide)); conv => whnf) | decide | assumption)
   refine .ret _ ?_
   conv => whnf
   refine ⟨kx, ⟨congrArg SV.tup ?_, rfl⟩, rr, trivial⟩
   repeat' (refine cons_eq ?_ ?_)
   all_goals (conv => lhs; whnf)
   all_goals try (with_reducible rfl)
   · unfold numN; rw [hA]
   · unfold numOk isAtoi; rw [hA]; rfl
 | _ =>
   rw [hA] at hx
   simp only at hx
   obtain ⟨t, p, rfl⟩ := hx
   refine ⟨rfl, ?_⟩
   conv => whnf
   repeat' (first | (refine br_intro ?_ ?_ <;> intro hb <;> (try simp only [brs] at hb) <;> conv => whnf) | omega | (refine And.intro ?_ ?_; ((try dsimp only); first | omega | (refine szA rfl ?_; omega) | (refine szB rfl ?_; omega) | (unfold inI64; omega) | exact rfl | (simp only [List.toList_toArray, List.length_cons, List.length_nil]; omega) | (simp only [lns] at *; omega) | decide | (unfold inI64; decide)); conv => whnf) | decide | assumption)
   refine .ret _ ?_
   conv => whnf
   refine ⟨kx, ⟨congrArg SV.tup ?_, rfl⟩, rr, trivial⟩
   repeat' (refine cons_eq ?_ ?_)
   all_goals (conv => lhs; whnf)
   all_goals try (with_reducible rfl)
   · unfold numN; rw [hA]
   · unfold numOk isAtoi; rw [hA]; rfl
theorem split_len (s p : List UInt8) (hp : p ≠ []) : (Lib.split s p).length ≤ s.length + 1 := by
 have key : ∀ (n : Nat) (s : List UInt8), s.length ≤ n → ∀ k, (Lib.splitK p 0 k s).length ≤ s.length + 1 := by
  intro n
  induction n with
  | zero =>
    intro s hs k
    cases k with
    | zero => simp [Lib.splitK]
    | succ k =>
      unfold Lib.splitK
      split
      · simp
      · rename_i h
        have := Lib.drop_shorter hp h
        omega
  | succ n ih =>
    intro s hs k
    cases k with
    | zero => simp [Lib.splitK]
    | succ k =>
      unfold Lib.splitK
      split
      · simp
      · rename_i h
        have h1 := Lib.drop_shorter hp h
        have h2 := ih (s.drop ((Lib.index s p).toNat + p.length)) (by omega) k
        simp only [List.length_cons]
        omega
 exact key s.length s (Nat.le_refl _) _
theorem split_mem {s p : List UInt8} {x : List UInt8} (h : x ∈ Lib.split s p) : x.length ≤ s.length := by
 have key : ∀ (k : Nat) (s : List UInt8), ∀ x ∈ Lib.splitK p 0 k s, x.length ≤ s.length := by
  intro k
  induction k with
  | zero => intro s x hx; simp [Lib.splitK] at hx; subst hx; exact Nat.le_refl _
  | succ k ih =>
    intro s x hx
    unfold Lib.splitK at hx
    split at hx
    · simp at hx; subst hx; exact Nat.le_refl _
    · rcases List.mem_cons.1 hx with q | q
      · subst q; simp; omega
      · have := ih _ x q; simp at this; omega
 exact key _ s x h
def wrdsOk (l : List (List UInt8)) : Bool := !decide ([] ∈ l)
theorem lz96 (s : List UInt8) (hs : s.length ≤ 2^30) : FSpec Tryz.prog 96 [.d (.str s)] kx (fun x r => x = .tup [.d (strs (Lib.split s [32])), .d (.bool (wrdsOk (Lib.split s [32])))] ∧ r = kx) := by
 have hl := split_len s [32] (by decide)
 refine spec_of hT (C := []) Tryz.func96 rfl Tryz.call96 rfl rfl rfl ?_
 conv => whnf
 repeat' (first | (refine CallX.kn (zSplit s [32] (by omega) (by decide)) rfl rfl rfl rfl ?_; conv => whnf) | (refine CallX.exact (lz78 (Lib.split s [32]) (by omega) []) rfl rfl ?_; rotate_right; conv => whnf) | (refine br_intro ?_ ?_ <;> intro hb <;> (try simp only [brs] at hb) <;> conv => whnf) | omega | (refine And.intro ?_ ?_; ((try dsimp only); first | omega | (refine szA rfl ?_; omega) | (refine szB rfl ?_; omega) | (unfold inI64; omega) | exact rfl | (simp only [List.toList_toArray, List.length_cons, List.length_nil]; omega) | (simp only [lns] at *; omega) | decide | (unfold inI64; decide)); conv => whnf) | decide | assumption)
 refine .ret _ ?_
 conv => whnf
 refine ⟨kx, ⟨congrArg SV.tup ?_, rfl⟩, rr, trivial⟩
 repeat' (refine cons_eq ?_ ?_)
 all_goals (conv => lhs; whnf)
 all_goals try (with_reducible rfl)
 all_goals rfl
theorem lz79 (l : List (List UInt8)) (hl : l.length ≤ 2^30) (hk : ∀ x ∈ l, x.length ≤ 2^40) : FSpec Tryz.prog 79 [.d (strs l)] kx (fun x r => x = .tup [.d (bif l.all numOk then ints (l.map numN) else .nilsl), .d (.bool (l.all numOk))] ∧ r = kx) := by
 refine spec_of hT (C := []) Tryz.func79 rfl Tryz.call79 rfl rfl rfl ?_
 conv => whnf
 refine LoopX.rule hT (C := []) (ι := Nat) (fun i => i ≤ l.length ∧ ∀ j, j < i → numOk (l.getD j []) = true) (fun i => mkSt [(4, .buf 4), (9, .d (strs l)), (10, .d (.int .i64 l.length)), (11, .d (.int .i64 i))] [(1000009, KX), (4, seqB 3 1 iF 0 ((l.take i).map numN))]) (fun i => l.length - i) 0 ⟨by simp, fun j hj => absurd hj (Nat.not_lt_zero j)⟩ ?_ ?_
 · exact (Entails.nil 4 4 3 1 (rowF iF 0 []) rfl rfl (by decide)).trans (by (refine Entails.mk' [(1000009, 1000009), (4, 4)] rfl rfl ?_ ?_ <;> repeat' (first | exact True.intro | exact lr | exact rr | exact SV.le_int (by omega) | exact SV.le_any _ | refine And.intro ?_ ?_)); done)
 rintro i ⟨hi, hp⟩
 have hln : ((l.take i).map numN).length = i := by simp; omega
 conv => whnf
 refine br_intro (fun hb => ?_) (fun hb => ?_)
 · conv => whnf
   have hlt : i < l.length := by simpa using hb
   have hx : l.getD i [] ∈ l := getD_mem hlt
   have hc := lz129 (l.getD i []) (hk _ hx)
   cases hn : numOk (l.getD i []) with
   | true =>
     rw [hn] at hc
     skip
     repeat' (first | (refine CallX.kn hc rfl rfl rfl rfl ?_; conv => whnf) | (refine br_intro ?_ ?_ <;> intro hb <;> (try simp only [brs] at hb) <;> conv => whnf) | omega | (refine And.intro ?_ ?_; ((try dsimp only); first | omega | (refine szA rfl ?_; omega) | (refine szB rfl ?_; omega) | (unfold inI64; omega) | exact rfl | (simp only [List.toList_toArray, List.length_cons, List.length_nil]; omega) | (simp only [lns] at *; omega) | decide | (unfold inI64; decide)); conv => whnf) | decide | assumption)
     have hsn : (l.take (i + 1)).map numN = (l.take i).map numN ++ [numN (l.getD i [])] := by
      have : l.take (i + 1) = l.take i ++ [l.getD i []] := by rw [List.take_add_one]; simp [List.getD_eq_getElem?_getD, hlt]
      rw [this, List.map_append]; rfl
     refine ⟨i + 1, ⟨by omega, all_step hp hn⟩, by omega, ?_⟩
     rw [hsn]
     exact (by (refine Entails.mk' [(1000009, 1000009), (4, 25)] rfl rfl ?_ ?_ <;> repeat' (first | exact True.intro | exact lr | exact rr | (exact Res.le_snocF rfl) | exact SV.le_int (by omega) | exact SV.le_any _ | refine And.intro ?_ ?_)); done)
   | false =>
     rw [hn] at hc
     have hall : l.all numOk = false := by
      rw [Bool.eq_false_iff]
      intro h
      have := List.all_eq_true.1 h _ hx
      rw [hn] at this; cases this
     repeat' (first | (refine CallX.kn hc rfl rfl rfl rfl ?_; conv => whnf) | (refine br_intro ?_ ?_ <;> intro hb <;> (try simp only [brs] at hb) <;> conv => whnf) | omega | (refine And.intro ?_ ?_; ((try dsimp only); first | omega | (refine szA rfl ?_; omega) | (refine szB rfl ?_; omega) | (unfold inI64; omega) | exact rfl | (simp only [List.toList_toArray, List.length_cons, List.length_nil]; omega) | (simp only [lns] at *; omega) | decide | (unfold inI64; decide)); conv => whnf) | decide | assumption)
     rw [hall]
     refine .ret _ ?_
     conv => whnf
     refine ⟨kx, ⟨congrArg SV.tup ?_, rfl⟩, rr, trivial⟩
     repeat' (refine cons_eq ?_ ?_)
     all_goals (conv => lhs; whnf)
     all_goals try (with_reducible rfl)
     all_goals rfl
 · conv => whnf
   have hi2 : i = l.length := by simp at hb; omega
   subst hi2
   rw [List.take_length]
   have hall : l.all numOk = true := List.all_eq_true.2 fun x hx => by
    obtain ⟨j, hj, rfl⟩ := mem_getD (d := []) hx
    exact hp j hj
   rw [hall]
   repeat' (first | (refine br_intro ?_ ?_ <;> intro hb <;> (try simp only [brs] at hb) <;> conv => whnf) | omega | (refine And.intro ?_ ?_; ((try dsimp only); first | omega | (refine szA rfl ?_; omega) | (refine szB rfl ?_; omega) | (unfold inI64; omega) | exact rfl | (simp only [List.toList_toArray, List.length_cons, List.length_nil]; omega) | (simp only [lns] at *; omega) | decide | (unfold inI64; decide)); conv => whnf) | decide | assumption)
   refine .freeze _ 4 3 1 _ _ rfl ?_
   refine .ret _ ?_
   conv => whnf
   refine ⟨kx, ⟨congrArg SV.tup ?_, rfl⟩, rr, trivial⟩
   repeat' (refine cons_eq ?_ ?_)
   all_goals (conv => lhs; whnf)
   all_goals try (with_reducible rfl)
   all_goals rfl
abbrev capC (ct d : Nat) : Res := .cells ct [.buf d]
def Taker {α : Type} (g ct e k : Nat) (F : α → List DV) (d : α) (tk : List UInt8 → List α → Bool × List α) : Prop :=
 (∀ line l, (tk line l).2.length ≤ l.length + 1) ∧ ∀ line l, line.length ≤ 2^20 → l.length ≤ 2^21 →
   FSpec Tryz.prog g [.d (.str line), .ptr 1000005 0] [(1000009, KX), (1000005, capC ct 1000003), (1000003, seqB e k F d l)] (fun x r => x = .d (.bool (tk line l).1) ∧ r = [(1000009, KX), (1000005, capC ct 46), (46, seqB e k F d (tk line l).2)])
theorem lz75 {α : Type} {g ct e k : Nat} {F : α → List DV} {d : α} {tk : List UInt8 → List α → Bool × List α} (hg : Taker g ct e k F d tk) (text : List UInt8) (ht : text.length ≤ 2^20) (l0 : List α) (hl0 : l0.length ≤ 2^20) :
 FSpec Tryz.prog 75 [.d (.str text), .fn g [.ptr 1000005 0]] [(1000009, KX), (1000005, capC ct 1000003), (1000003, seqB e k F d l0)] (fun x r => x = .tup [.d (.int .i64 (lnsF tk (text.length + 1) 0 text l0).1.1), .d (.bool (lnsF tk (text.length + 1) 0 text l0).1.2)] ∧
  r = [(1000009, KX), (1000005, capC ct 40), (40, seqB e k F d (lnsF tk (text.length + 1) 0 text l0).2)]) := by
 generalize hR : lnsF tk (text.length + 1) 0 text l0 = R
 refine spec_of hT (C := []) Tryz.func75 rfl Tryz.call75 rfl rfl rfl ?_
 conv => whnf
 refine LoopX.rule hT (C := []) (ι := Nat × Nat × List UInt8 × List α) (fun (n, a, t, l) => (lnsF tk n a t l = R ∧ t.length < n) ∧ t.length + a ≤ text.length ∧ l.length ≤ l0.length + a)
  (fun (n, a, t, l) => mkSt [(0, .d (.str t)), (1, .fn g [.ptr 1000005 0]), (6, .d (.int .i64 a))] [(1000009, KX), (1000005, capC ct 40), (40, seqB e k F d l)])
  (fun (n, _, _, _) => n) (text.length + 1, 0, text, l0) ⟨⟨hR, Nat.lt_succ_self _⟩, Nat.le_refl _, by simp⟩ (by (refine Entails.mk' [(1000009, 1000009), (1000005, 1000005), (40, 1000003)] rfl rfl ?_ ?_ <;> repeat' (first | exact True.intro | exact lr | exact rr | exact SV.le_int (by omega) | exact SV.le_any _ | refine And.intro ?_ ?_)); done) ?_
 rintro ⟨n, a, t, l⟩ ⟨⟨h1, h2⟩, h3, h4⟩
 obtain ⟨m, rfl⟩ : ∃ m, n = m + 1 := ⟨n - 1, by omega⟩
 have hcl := cut_le t
 have htl : (tk (Lib.cut t [10]).1 l).2.length ≤ l.length + 1 := hg.1 _ _
 have hc := hg.2 (Lib.cut t [10]).1 l (by omega) (by omega)
 conv => whnf
 repeat' (first | (refine CallX.kn (zCut t [10] (by omega)) rfl rfl rfl rfl ?_; conv => whnf) | (refine CallX.of hc [(1000009, 1000009), (1000005, 1000005), (1000003, 40), (46, 41)] rfl ⟨lr, lr, trivial⟩ ⟨rr, rr, rr, trivial⟩ rfl rfl ?_; rintro x rout ⟨rfl, rfl⟩; refine ⟨rfl, ?_⟩; conv => whnf) | (refine br_intro ?_ ?_ <;> intro hb <;> (try simp only [brs] at hb) <;> conv => whnf) | omega | (refine And.intro ?_ ?_; ((try dsimp only); first | omega | (refine szA rfl ?_; omega) | (refine szB rfl ?_; omega) | (unfold inI64; omega) | exact rfl | (simp only [List.toList_toArray, List.length_cons, List.length_nil]; omega) | (simp only [lns] at *; omega) | decide | (unfold inI64; decide)); conv => whnf) | decide | assumption)
 · rename_i hb0
   obtain rfl : R = ((a, false), l) := by rw [← h1]; simp [lnsF, hb0, hb]
   refine .ret _ ?_
   conv => whnf
   refine ⟨[(1000009, KX), (1000005, capC ct 40), (40, seqB e k F d l)], ⟨congrArg SV.tup ?_, rfl⟩, rr, rr, rr, trivial⟩
   repeat' (refine cons_eq ?_ ?_)
   all_goals (conv => lhs; whnf)
   all_goals rfl
 · rename_i hb0 hb1
   obtain rfl : R = ((a, false), (tk (Lib.cut t [10]).1 l).2) := by rw [← h1]; simp [lnsF, hb0, hb1, hb]
   refine .ent _ (mkSt [(4, .d (.int .i64 a)), (5, .d (.bool false))] [(1000009, KX), (1000005, capC ct 40), (40, seqB e k F d (tk (Lib.cut t [10]).1 l).2)]) (by (refine Entails.mk' [(1000009, 1000009), (1000005, 1000005), (40, 41)] rfl rfl ?_ ?_ <;> repeat' (first | exact True.intro | exact lr | exact rr | exact SV.le_int (by omega) | exact SV.le_any _ | refine And.intro ?_ ?_)); done) ?_
   refine .ret _ ?_
   conv => whnf
   refine ⟨[(1000009, KX), (1000005, capC ct 40), (40, seqB e k F d (tk (Lib.cut t [10]).1 l).2)], ⟨congrArg SV.tup ?_, rfl⟩, rr, rr, rr, trivial⟩
   repeat' (refine cons_eq ?_ ?_)
   all_goals (conv => lhs; whnf)
   all_goals rfl
 · rename_i hb0 hb1
   have hlen := cut_len hb1
   refine ⟨(m, a + 1, (Lib.cut t [10]).2.1, (tk (Lib.cut t [10]).1 l).2), ⟨⟨by rw [← h1]; simp [lnsF, hb0, hb1, hb], by omega⟩, by omega, by omega⟩, Nat.lt_succ_self m, (by (refine Entails.mk' [(1000009, 1000009), (1000005, 1000005), (40, 41)] rfl rfl ?_ ?_ <;> repeat' (first | exact True.intro | exact lr | exact rr | exact SV.le_int (by omega) | exact SV.le_any _ | refine And.intro ?_ ?_)); done)⟩
 · obtain rfl : R = ((0, true), l) := by rw [← h1]; simp [lnsF, hb]
   refine .ret _ ?_
   conv => whnf
   refine ⟨[(1000009, KX), (1000005, capC ct 40), (40, seqB e k F d l)], ⟨congrArg SV.tup ?_, rfl⟩, rr, rr, rr, trivial⟩
   repeat' (refine cons_eq ?_ ?_)
   all_goals (conv => lhs; whnf)
   all_goals rfl
theorem lookL_rot {a b c : Nat} {x y z : Res} (h1 : Nat.beq a c = false) (h2 : Nat.beq b c = false) : lookL [(c, z), (a, x), (b, y)] = lookL [(a, x), (b, y), (c, z)] := by
 have e1 : a ≠ c := fun q => by rw [q] at h1; simp at h1
 have e2 : b ≠ c := fun q => by rw [q] at h2; simp at h2
 funext d
 by_cases q1 : d = a
 · subst q1; simp [lookL, nbeq_ne e1]
 · by_cases q2 : d = b
   · subst q2; simp [lookL, nbeq_ne e2, nbeq_ne q1]
   · simp [lookL, nbeq_ne q1, nbeq_ne q2]
theorem reordF {P : Program} {f : FuncId} {args : List SV} {rin rin' : List (Nat × Res)} {post : SV → List (Nat × Res) → Prop} (h : FSpec P f args rin post) (e : lookL rin' = lookL rin) : FSpec P f args rin' post :=
 ⟨h.enter, fun G β w vs hp hl hd => by
   have := h.calls G β w vs (by rw [← e]; exact hp) hl hd
   rw [e]; exact this⟩
theorem lnsNil {α : Type} {f g ct e k : Nat} {F : α → List DV} {d : α} {text : List UInt8} {post : SV → List (Nat × Res) → Prop} (hk : 0 < k)
 (h : FSpec Tryz.prog f [.d (.str text), .fn g [.ptr 1000005 0]] [(1000009, KX), (1000005, capC ct 1000003), (1000003, seqB e k F d [])] post) :
 FSpec Tryz.prog f [.d (.str text), .fn g [.ptr 1000005 0]] [(1000005, .cells ct [.d .nilsl]), (1000009, KX)] post :=
 FSpec.nilCell (c := 1000005) (d := 1000003) (e := e) (k := k) (j := 0) (ce := ct) (l := [.d .nilsl]) (g := rowF F d []) (rest := [(1000009, KX)]) (reordF h (lookL_rot rfl rfl).symm) hk rfl rfl rfl
def redF {α : Type} (tk : List UInt8 → List α → Bool × List α) (fe : List α → Int) (text : List UInt8) : List α × Nat × Int :=
 bif decide (200000 < text.length) then ([], 0, 2) else
 bif (lnsF tk (text.length + 1) 0 text []).1.2 then (bif decide (fe (lnsF tk (text.length + 1) 0 text []).2 = 0) then ((lnsF tk (text.length + 1) 0 text []).2, 0, 0) else ([], 0, fe (lnsF tk (text.length + 1) 0 text []).2))
 else ([], (lnsF tk (text.length + 1) 0 text []).1.1, 9)
theorem lnsF_all {α : Type} {tk : List UInt8 → List α → Bool × List α} {Q : α → Prop} {N : Nat} (hQ : ∀ line l, line.length ≤ N → (∀ x ∈ l, Q x) → ∀ x ∈ (tk line l).2, Q x) : ∀ (n a : Nat) (t : List UInt8) (l : List α), t.length ≤ N → (∀ x ∈ l, Q x) → ∀ x ∈ (lnsF tk n a t l).2, Q x := by
 intro n
 induction n with
 | zero => intro a t l _ h; exact h
 | succ n ih =>
   intro a t l ht h
   have h1 := cut_le t
   have h2 := hQ (Lib.cut t [10]).1 l (by omega) h
   unfold lnsF
   split
   · exact h
   · split
     · exact h
     · split
       · exact h2
       · rename_i hc _
         have := cut_len (by simpa using hc)
         exact ih _ _ _ (by omega) h2
theorem lnsF_len {α : Type} {tk : List UInt8 → List α → Bool × List α} (hQ : ∀ line l, (tk line l).2.length ≤ l.length + 1) : ∀ (n a : Nat) (t : List UInt8) (l : List α), (lnsF tk n a t l).2.length ≤ l.length + n := by
 intro n
 induction n with
 | zero => intro a t l; exact Nat.le_refl _
 | succ n ih =>
   intro a t l
   have h2 := hQ (Lib.cut t [10]).1 l
   unfold lnsF
   split
   · simp only; omega
   · split
     · simp only; omega
     · split
       · simp only; omega
       · have := ih (a + 1) (Lib.cut t [10]).2.1 (tk (Lib.cut t [10]).1 l).2
         omega
theorem dec_len : ∀ (k u : Nat), u < 10 ^ (k + 1) → (Lib.decDigits u).length ≤ k + 1 := by
 intro k
 induction k with
 | zero =>
   intro u h
   rw [Lib.decDigits, dif_pos (by omega)]; simp
 | succ k ih =>
   intro u h
   rw [Lib.decDigits]
   split
   · simp
   · have := ih (u / 10) (by rw [Nat.pow_succ] at h; omega)
     simp; omega
theorem itoa_len {n : Int} (h0 : -2^60 ≤ n) (h1 : n ≤ 2^60) : (Lib.itoa n).length ≤ 20 := by
 have key : ∀ u : Nat, u ≤ 2^60 → (Lib.decDigits u).length ≤ 19 := fun u hu => dec_len 18 u (by omega)
 unfold Lib.itoa
 split
 · have := key n.natAbs (by omega)
   simp; omega
 · have := key n.toNat (by omega)
   omega
def lnOk (ps : List Part) : Prop := ps.length ≤ 8 ∧ ∀ p ∈ ps, (partS p).length ≤ 2^10
theorem join_len : ∀ (l : List (List UInt8)) (sep : List UInt8) (N : Nat), (∀ x ∈ l, x.length ≤ N) → (Lib.join l sep).length ≤ l.length * (N + sep.length) := by
 intro l sep N h
 cases l with
 | nil => simp [Lib.join_nil]
 | cons x r =>
   rw [Lib.join_cons, List.length_append]
   have h1 := h x List.mem_cons_self
   have key : ∀ r : List (List UInt8), (∀ z ∈ r, z.length ≤ N) → (Lib.joinTail sep r).length ≤ r.length * (N + sep.length) := by
    intro r
    induction r with
    | nil => intro _; simp [Lib.joinTail]
    | cons y r ih =>
      intro hr
      have h3 := hr y List.mem_cons_self
      have h4 := ih (fun z hz => hr z (List.mem_cons_of_mem _ hz))
      unfold Lib.joinTail at h4 ⊢
      simp only [List.map_cons, List.flatten_cons, List.length_append, List.length_cons] at h4 ⊢
      rw [Nat.add_mul, Nat.one_mul]; omega
   have h2 := key r (fun z hz => h z (List.mem_cons_of_mem _ hz))
   simp only [List.length_cons]
   rw [Nat.add_mul, Nat.one_mul]; omega
theorem lnOk_len {ps : List Part} (h : lnOk ps) : (Lib.join (ps.map partS) [32]).length ≤ 2^14 := by
 have := join_len (ps.map partS) [32] (2^10) (fun x hx => by
  obtain ⟨p, hp, rfl⟩ := List.mem_map.1 hx
  exact h.2 p hp)
 have h8 := h.1
 simp only [List.length_map, List.length_singleton] at this
 have h3 : ps.length * (2 ^ 10 + 1) ≤ 8 * (2^10 + 1) := Nat.mul_le_mul_right _ h8
 omega
def lnB (ps : List Part) : List UInt8 := Lib.join (ps.map partS) [32] ++ [10]
def txF {α : Type} (pf : α → List Part) (l : List α) : List UInt8 := (l.map fun p => lnB (pf p)).flatten
theorem txF_len {α : Type} {pf : α → List Part} : ∀ {l : List α}, (∀ p ∈ l, lnOk (pf p)) → (txF pf l).length ≤ l.length * 2^15 := by
 intro l
 induction l with
 | nil => intro _; simp [txF]
 | cons x r ih =>
   intro h
   have h1 := lnOk_len (h x List.mem_cons_self)
   have h2 := ih (fun p hp => h p (List.mem_cons_of_mem _ hp))
   simp only [txF, List.map_cons, List.flatten_cons, List.length_append, List.length_cons, List.length_nil, lnB] at h2 ⊢
   rw [Nat.add_mul, Nat.one_mul]; omega
theorem txF_snoc {α : Type} {pf : α → List Part} {l : List α} {d : α} {i : Nat} (hi : i < l.length) : txF pf (l.take (i + 1)) = txF pf (l.take i) ++ lnB (pf (l.getD i d)) := by
 have : l.take (i + 1) = l.take i ++ [l.getD i d] := by rw [List.take_add_one]; simp [List.getD_eq_getElem?_getD, hi]
 rw [this]; simp [txF]
def oXTpD74_7 : List (Nat × List Nat) := [(0, []), (1, [0]), (2, []), (3, [0, 1, 2]), (4, [0, 1, 2]), (5, [0, 1, 2]), (6, []), (7, [0, 1, 2, 3, 4, 5, 6]), (8, [0, 1, 2, 3, 4, 5, 6, 7]), (9, [0, 1, 2, 3, 4, 5, 6, 7]), (10, [0, 1, 2, 3, 4, 5, 6]), (11, []), (12, [])]
def oXTpD74_9 : List (Nat × List Nat) := [(0, []), (1, [0]), (2, []), (3, [0, 1, 2]), (4, [0, 1, 2]), (5, [0, 1, 2]), (6, []), (7, [0, 1, 2, 3, 4, 5, 6]), (8, [0, 1, 2, 3, 4, 5, 6, 7]), (9, [0, 1, 2, 3, 4, 5, 6]), (10, []), (11, [])]
def oXTpD74_10 : List (Nat × List Nat) := [(0, []), (1, [0]), (2, []), (3, [0, 1, 2]), (4, [0, 1, 2, 3]), (5, [0, 1, 2, 3]), (6, [0, 1, 2]), (7, []), (8, [])]
theorem lpas_eq {a b : Pas} : a = b ↔ ((a.tm = b.tm ∧ a.gate = b.gate) ∧ a.plate = b.plate) ∧ a.cents = b.cents := by cases a; cases b; simp [and_assoc]
instance : DecidableEq Pas := fun _ _ => decidable_of_iff _ lpas_eq.symm
theorem enc_len (n : Int) : (Utf8.encode n).data.toList.length ≤ 4 := by
 unfold Utf8.encode
 dsimp only
 generalize (if Utf8.valid n = true then n.toNat else Utf8.runeError) = c
 repeat' split
 all_goals simp
theorem le_enc {A : Nat} {n : Int} (h : A ≤ 2^40) : A + (Utf8.encode n).data.toList.length ≤ 9223372036854775807 := by have := enc_len n; omega
theorem le_enc2 {A : List UInt8} {B : Nat} {n : Int} (h : A.length ≤ 2^40) (k : B ≤ 2^40) : (A ++ (Utf8.encode n).data.toList).length + B ≤ 9223372036854775807 := by have := enc_len n; rw [List.length_append]; omega
theorem len_enc {A : List UInt8} {n : Int} : (A ++ (Utf8.encode n).data.toList).length ≤ A.length + 4 := by have := enc_len n; rw [List.length_append]; omega
theorem lz74 (n : Nat) (L : Nat → Int) (hL : Rok n L) (a : Int) (h0 : 0 ≤ a) (ha : a ≤ 2^39) (t wth : List UInt8) (ht : t.length ≤ 2^30) (hw : wth.length ≤ 2^20) :
 FSpec Tryz.prog 74 [.ptr 1000000 0, .d (.str t), .d (.str wth)] [(1000000, strm n L a)] (fun y r => (∃ u, u.length ≤ t.length + wth.length + 4 ∧ y = .d (.str u)) ∧ Moved n L a 4 r) := by
 have nn : ∀ l : List UInt8, ¬ 1 ≤ l.length → l = [] := fun l h => List.eq_nil_of_length_eq_zero (by omega)
 by_cases e1 : 1 ≤ t.length
 · by_cases e2 : 1 ≤ wth.length
   · refine spec_of hT (C := []) Tryz.func74 rfl Tryz.call74 rfl rfl rfl ?_
     conv => whnf
     repeat' (first | (refine CallX.of (s86 n L hL _ ?_ ?_ _ ?_) [(1000000, 1000000)] rfl ⟨lr, lr, trivial⟩ ⟨rr, trivial⟩ rfl rfl ?_; rotate_right; rintro x rout ⟨⟨j, hj1, hj2, hj3, rfl⟩, ⟨c, c1, c2, rfl⟩⟩; refine ⟨rfl, ?_⟩; conv => whnf) | (refine And.intro (le_enc (by simp only [List.length_take, List.length_drop]; omega)) ?_; conv => whnf) | (refine And.intro (le_enc2 (by simp only [List.length_take, List.length_drop]; omega) (by simp only [List.length_take, List.length_drop]; omega)) ?_; conv => whnf) | (refine And.intro (by simp only [List.length_take, List.length_drop]; omega) ?_; conv => whnf) | (refine br_intro ?_ ?_ <;> intro hb <;> (try simp only [brs] at hb) <;> conv => whnf) | (refine RegX.rule (id := 7) hT rfl [] oXTpD74_7 (by decide +kernel) ?_; conv => whnf) | (refine RegX.rule (id := 9) hT rfl [] oXTpD74_9 (by decide +kernel) ?_; conv => whnf) | (refine RegX.rule (id := 10) hT rfl [] oXTpD74_10 (by decide +kernel) ?_; conv => whnf) | omega | (refine And.intro ?_ ?_; ((try dsimp only); first | omega | (refine szA rfl ?_; omega) | (refine szB rfl ?_; omega) | (unfold inI64; omega) | exact rfl | (simp only [List.toList_toArray, List.length_cons, List.length_nil]; omega) | (simp only [lns] at *; omega) | decide | (unfold inI64; decide)); conv => whnf) | decide | assumption)
     · exfalso; rw [hb] at e1; simp at e1
     · exfalso; rw [hb] at e2; simp at e2
     all_goals (refine .ret _ ?_)
     all_goals (conv => whnf)
     · refine ⟨[(1000000, strm n L _)], ⟨⟨_, ?_, rfl⟩, ⟨_, ?_, ?_, rfl⟩⟩, rr, trivial⟩
       · rw [List.length_append]
         refine Nat.le_trans (Nat.add_le_add_right len_enc _) ?_
         simp only [List.length_take, List.length_drop]; omega
       all_goals omega
     · refine ⟨[(1000000, strm n L _)], ⟨⟨_, ?_, rfl⟩, ⟨_, ?_, ?_, rfl⟩⟩, rr, trivial⟩
       · rw [List.length_append]
         refine Nat.le_trans (Nat.add_le_add_right len_enc _) ?_
         simp only [List.length_take, List.length_drop]; omega
       all_goals omega
     · refine ⟨[(1000000, strm n L _)], ⟨⟨_, ?_, rfl⟩, ⟨_, ?_, ?_, rfl⟩⟩, rr, trivial⟩
       · rw [List.length_append]
         simp only [List.length_take, List.length_drop]; omega
       all_goals omega
   · obtain rfl := nn _ e2
     refine spec_of hT (C := []) Tryz.func74 rfl Tryz.call74 rfl rfl rfl ?_
     conv => whnf
     repeat' (first | (refine br_intro ?_ ?_ <;> intro hb <;> (try simp only [brs] at hb) <;> conv => whnf) | (refine RegX.rule (id := 7) hT rfl [] oXTpD74_7 (by decide +kernel) ?_; conv => whnf) | (refine RegX.rule (id := 9) hT rfl [] oXTpD74_9 (by decide +kernel) ?_; conv => whnf) | (refine RegX.rule (id := 10) hT rfl [] oXTpD74_10 (by decide +kernel) ?_; conv => whnf) | omega | (refine And.intro ?_ ?_; ((try dsimp only); first | omega | (refine szA rfl ?_; omega) | (refine szB rfl ?_; omega) | (unfold inI64; omega) | exact rfl | (simp only [List.toList_toArray, List.length_cons, List.length_nil]; omega) | (simp only [lns] at *; omega) | decide | (unfold inI64; decide)); conv => whnf) | decide | assumption)
     all_goals (refine .ret _ ?_)
     all_goals (conv => whnf)
     all_goals exact ⟨[(1000000, strm n L a)], ⟨⟨_, by simp, rfl⟩, ⟨a, by omega, by omega, rfl⟩⟩, rr, trivial⟩
 · obtain rfl := nn _ e1
   refine spec_of hT (C := []) Tryz.func74 rfl Tryz.call74 rfl rfl rfl ?_
   conv => whnf
   repeat' (first | (refine br_intro ?_ ?_ <;> intro hb <;> (try simp only [brs] at hb) <;> conv => whnf) | (refine RegX.rule (id := 7) hT rfl [] oXTpD74_7 (by decide +kernel) ?_; conv => whnf) | (refine RegX.rule (id := 9) hT rfl [] oXTpD74_9 (by decide +kernel) ?_; conv => whnf) | (refine RegX.rule (id := 10) hT rfl [] oXTpD74_10 (by decide +kernel) ?_; conv => whnf) | omega | (refine And.intro ?_ ?_; ((try dsimp only); first | omega | (refine szA rfl ?_; omega) | (refine szB rfl ?_; omega) | (unfold inI64; omega) | exact rfl | (simp only [List.toList_toArray, List.length_cons, List.length_nil]; omega) | (simp only [lns] at *; omega) | decide | (unfold inI64; decide)); conv => whnf) | decide | assumption)
   all_goals (refine .ret _ ?_)
   all_goals (conv => whnf)
   all_goals exact ⟨[(1000000, strm n L a)], ⟨⟨wth, by simp, rfl⟩, ⟨a, by omega, by omega, rfl⟩⟩, rr, trivial⟩
def MovedK (n : Nat) (L : Nat → Int) (a : Int) (c : Int) (r : List (Nat × Res)) : Prop := ∃ b, a ≤ b ∧ b ≤ a + c ∧ r = [(1000000, strm n L b), (1000009, KX)]
theorem s74 (n : Nat) (L : Nat → Int) (hL : Rok n L) (a : Int) (h0 : 0 ≤ a) (ha : a ≤ 2^39) (t wth : List UInt8) (ht : t.length ≤ 2^30) (hw : wth.length ≤ 2^20) :
 FSpec Tryz.prog 74 [.ptr 1000000 0, .d (.str t), .d (.str wth)] [(1000000, strm n L a)] (fun y r => (∃ u, u.length ≤ t.length + wth.length + 4 ∧ y = .d (.str u)) ∧ Moved n L a 4 r) := lz74 n L hL a h0 ha t wth ht hw
theorem pick4 {u : Int} (h : u ∈ [(0 : Int), 0, 1, 2]) : 0 ≤ u ∧ u ≤ 2 := by simp at h; omega
def oXMpC142_4 : List (Nat × List Nat) := [(1, []), (2, []), (3, []), (0, [1, 2, 3]), (4, []), (5, [])]
def oXMpC142_8 : List (Nat × List Nat) := [(0, []), (1, [0]), (2, [0]), (3, [0]), (4, [0, 1, 2, 3]), (5, [0, 1, 2, 3, 4]), (6, [0, 1, 2, 3, 4]), (7, [0, 1, 2, 3, 4]), (8, [0, 1, 2, 3, 4, 5, 6, 7]), (9, [0, 1, 2, 3, 4, 5, 6, 7]), (10, [0, 1, 2, 3, 4, 5, 6, 7]), (11, [0, 1, 2, 3, 4, 5, 6, 7, 8, 9, 10]), (12, [0, 1, 2, 3, 4, 5, 6, 7, 8, 9, 10]), (13, [0, 1, 2, 3, 4, 5, 6, 7, 8, 9, 10]), (14, [0]), (15, [0]), (16, []), (17, [])]
def kindsL : List (List UInt8) := [[], [115, 99, 114, 97, 116, 99, 104], [100, 101, 110, 116], [99, 104, 105, 112], [99, 114, 97, 99, 107]]
def kix (s : List UInt8) : Int := ixF (fun i => kindsL.getD i [] == s) kindsL.length
theorem lz140 : FSpec Tryz.prog 140 [] [] (fun x r => x = .d (strs kindsL) ∧ r = []) := by
 refine spec_of hT (C := []) Tryz.func140 rfl Tryz.call140 rfl rfl rfl ?_
 conv => whnf
 refine .weak _ ?_
 conv => whnf
 exact ⟨.d (strs kindsL), [], SV.le_lit rfl rfl, ⟨rfl, rfl⟩, trivial⟩
theorem lz141 : FSpec Tryz.prog 141 [] [] (fun x r => x = .d (strs kindsL) ∧ r = []) := by
 refine spec_of hT (C := []) Tryz.func141 rfl Tryz.call141 rfl rfl rfl ?_
 conv => whnf
 refine .weak _ ?_
 conv => whnf
 exact ⟨.d (strs kindsL), [], SV.le_lit rfl rfl, ⟨rfl, rfl⟩, trivial⟩
def tkMrk (line : List UInt8) (l : List Mrk) : Bool × List Mrk :=
 bif (wrdsOk (Lib.split line [32]) && decide ((Lib.split line [32]).length = 5)) && (((Lib.split line [32]).drop 2).all numOk && decide (1 ≤ kix ((Lib.split line [32]).getD 1 []))) then
  (true, l ++ [⟨(Lib.split line [32]).getD 0 [], kix ((Lib.split line [32]).getD 1 []), (((Lib.split line [32]).drop 2).map numN).getD 0 0, (((Lib.split line [32]).drop 2).map numN).getD 1 0, (((Lib.split line [32]).drop 2).map numN).getD 2 0⟩]) else (false, l)
theorem le_drop {W : List (List UInt8)} {a n : Nat} (h : n = W.length - a) : SV.le (.d (.ro 1 n fun i => rowF sF [] W (a + i))) (.d (strs (W.drop a))) :=
 SV.le_ro (by rw [h, List.length_drop]) (fun i _ => by simp only [rowF]; rw [List.getD_eq_getElem?_getD, List.getD_eq_getElem?_getD, List.getElem?_drop])
theorem lz142 (line : List UInt8) (l : List Mrk) (h1 : line.length ≤ 2^20) (h2 : l.length ≤ 2^21) :
 FSpec Tryz.prog 142 [.d (.str line), .ptr 1000005 0] [(1000009, KX), (1000005, capC 73 1000003), (1000003, seqB 88 5 mkF mk0 l)] (fun x r => x = .d (.bool (tkMrk line l).1) ∧ r = [(1000009, KX), (1000005, capC 73 46), (46, seqB 88 5 mkF mk0 (tkMrk line l).2)]) := by
 have hsl := split_len line [32] (by decide)
 have hmem : ∀ i, ((Lib.split line [32]).getD i []).length ≤ 2^40 := fun i => by
  rcases Nat.lt_or_ge i (Lib.split line [32]).length with q | q
  · have := split_mem (getD_mem (x := []) q); omega
  · rw [List.getD_eq_getElem?_getD, List.getElem?_eq_none q]; simp
 have hN := lz79 ((Lib.split line [32]).drop 2) (by rw [List.length_drop]; omega) (by intro x hx; have := split_mem (List.mem_of_mem_drop hx); omega)
 have hl3 : (((Lib.split line [32]).drop 2).map numN).length = (Lib.split line [32]).length - 2 := by simp
 unfold tkMrk
 have hK := lz143 kindsL (by decide) ((Lib.split line [32]).getD 1 [])
 have hkb := ixF_bd (p := fun i => kindsL.getD i [] == ((Lib.split line [32]).getD 1 [])) (n := kindsL.length)
 rw [show ixF (fun i => kindsL.getD i [] == ((Lib.split line [32]).getD 1 [])) kindsL.length = kix ((Lib.split line [32]).getD 1 []) from rfl] at hK hkb
 have hk1 := hkb.1
 have hk2 : kix ((Lib.split line [32]).getD 1 []) < 5 := hkb.2.1
 clear hkb
 generalize hW : Lib.split line [32] = W at *
 have hWz := lz96 line (by omega)
 rw [hW] at hWz
 generalize kix (W.getD 1 []) = K at *
 generalize hNN : (W.drop 2).map numN = N at *
 cases hA : (W.drop 2).all numOk with
 | false =>
   rw [hA] at hN
   rw [Bool.false_and, Bool.and_false, cond_false]
   refine spec_of hT (C := []) Tryz.func142 rfl Tryz.call142 rfl rfl rfl ?_
   conv => whnf
   repeat' (first | (refine CallX.kn hWz rfl rfl rfl rfl ?_; conv => whnf) | (refine CallX.look hN [(1000009, 1000009)] rfl ⟨le_drop (by omega), trivial⟩ ⟨⟨_, rfl, rfl⟩, trivial⟩ rfl rfl rfl ?_; conv => whnf) | (refine CallX.exact (lz140) rfl rfl ?_; rotate_right; conv => whnf) | (refine CallX.exact (hK) rfl rfl ?_; rotate_right; conv => whnf) | (refine br_intro ?_ ?_ <;> intro hb <;> (try simp only [brs] at hb) <;> conv => whnf) | (refine RegX.rule (id := 4) hT rfl [] oXMpC142_4 (by decide +kernel) ?_; conv => whnf) | (refine RegX.rule (id := 8) hT rfl [] oXMpC142_8 (by decide +kernel) ?_; conv => whnf) | omega | (refine And.intro ?_ ?_; ((try dsimp only); first | omega | (refine szA rfl ?_; omega) | (refine szB rfl ?_; omega) | (unfold inI64; omega) | exact rfl | (simp only [List.toList_toArray, List.length_cons, List.length_nil]; omega) | (simp only [lns] at *; omega) | decide | (unfold inI64; decide)); conv => whnf) | decide | assumption)
   all_goals
    refine .ent _ (mkSt [(3, .d (.bool false))] [(1000009, KX), (1000005, capC 73 46), (46, seqB 88 5 mkF mk0 l)]) (by (refine Entails.mk' [(1000009, 1000009), (1000005, 1000005), (46, 1000003)] rfl rfl ?_ ?_ <;> repeat' (first | exact True.intro | exact lr | exact rr | exact SV.le_int (by omega) | exact SV.le_any _ | refine And.intro ?_ ?_)); done) ?_
    refine .ret _ ?_
    conv => whnf
    exact ⟨[(1000009, KX), (1000005, capC 73 46), (46, seqB 88 5 mkF mk0 l)], ⟨rfl, rfl⟩, rr, rr, rr, trivial⟩
 | true =>
   rw [hA] at hN
   rw [Bool.true_and]
   replace hN : FSpec Tryz.prog 79 [.d (strs (W.drop 2))] kx (fun x r => x = .tup [.d (ints N), .d (.bool true)] ∧ r = kx) := hN
   refine spec_of hT (C := []) Tryz.func142 rfl Tryz.call142 rfl rfl rfl ?_
   conv => whnf
   repeat' (first | (refine CallX.kn hWz rfl rfl rfl rfl ?_; conv => whnf) | (refine CallX.look hN [(1000009, 1000009)] rfl ⟨le_drop (by omega), trivial⟩ ⟨⟨_, rfl, rfl⟩, trivial⟩ rfl rfl rfl ?_; conv => whnf) | (refine CallX.exact (lz140) rfl rfl ?_; rotate_right; conv => whnf) | (refine CallX.exact (hK) rfl rfl ?_; rotate_right; conv => whnf) | (refine br_intro ?_ ?_ <;> intro hb <;> (try simp only [brs] at hb) <;> conv => whnf) | (refine RegX.rule (id := 4) hT rfl [] oXMpC142_4 (by decide +kernel) ?_; conv => whnf) | (refine RegX.rule (id := 8) hT rfl [] oXMpC142_8 (by decide +kernel) ?_; conv => whnf) | omega | (refine And.intro ?_ ?_; ((try dsimp only); first | omega | (refine szA rfl ?_; omega) | (refine szB rfl ?_; omega) | (unfold inI64; omega) | exact rfl | (simp only [List.toList_toArray, List.length_cons, List.length_nil]; omega) | (simp only [lns] at *; omega) | decide | (unfold inI64; decide)); conv => whnf) | decide | assumption)
   · rw [hb, Bool.false_and, Bool.false_and, cond_false]
     refine .ent _ (mkSt [(3, .d (.bool false))] [(1000009, KX), (1000005, capC 73 46), (46, seqB 88 5 mkF mk0 l)]) (by (refine Entails.mk' [(1000009, 1000009), (1000005, 1000005), (46, 1000003)] rfl rfl ?_ ?_ <;> repeat' (first | exact True.intro | exact lr | exact rr | exact SV.le_int (by omega) | exact SV.le_any _ | refine And.intro ?_ ?_)); done) ?_
     refine .ret _ ?_
     conv => whnf
     exact ⟨[(1000009, KX), (1000005, capC 73 46), (46, seqB 88 5 mkF mk0 l)], ⟨rfl, rfl⟩, rr, rr, rr, trivial⟩
   · have hb' : decide (W.length = 5) = false := by simp; omega
     rw [hb', Bool.and_false, Bool.false_and, cond_false]
     refine .ent _ (mkSt [(3, .d (.bool false))] [(1000009, KX), (1000005, capC 73 46), (46, seqB 88 5 mkF mk0 l)]) (by (refine Entails.mk' [(1000009, 1000009), (1000005, 1000005), (46, 1000003)] rfl rfl ?_ ?_ <;> repeat' (first | exact True.intro | exact lr | exact rr | exact SV.le_int (by omega) | exact SV.le_any _ | refine And.intro ?_ ?_)); done) ?_
     refine .ret _ ?_
     conv => whnf
     exact ⟨[(1000009, KX), (1000005, capC 73 46), (46, seqB 88 5 mkF mk0 l)], ⟨rfl, rfl⟩, rr, rr, rr, trivial⟩
   · have hb' : decide (1 ≤ K) = false := by simp; omega
     rw [hb', Bool.and_false, cond_false]
     refine .ent _ (mkSt [(3, .d (.bool false))] [(1000009, KX), (1000005, capC 73 46), (46, seqB 88 5 mkF mk0 l)]) (by (refine Entails.mk' [(1000009, 1000009), (1000005, 1000005), (46, 1000003)] rfl rfl ?_ ?_ <;> repeat' (first | exact True.intro | exact lr | exact rr | exact SV.le_int (by omega) | exact SV.le_any _ | refine And.intro ?_ ?_)); done) ?_
     refine .ret _ ?_
     conv => whnf
     exact ⟨[(1000009, KX), (1000005, capC 73 46), (46, seqB 88 5 mkF mk0 l)], ⟨rfl, rfl⟩, rr, rr, rr, trivial⟩
   · rename_i hb0 hb1
     have hb' : decide (W.length = 5) = true := by simp; omega
     have hb2 : decide (1 ≤ K) = true := by simp; omega
     rw [hb', hb2, hb0, Bool.and_true, Bool.and_true, cond_true]
     refine .ent _ (mkSt [(3, .d (.bool true))] [(1000009, KX), (1000005, capC 73 46), (46, seqB 88 5 mkF mk0 (l ++ [⟨W.getD 0 [], K, N.getD 0 0, N.getD 1 0, N.getD 2 0⟩]))]) (by (refine Entails.mk' [(1000009, 1000009), (1000005, 1000005), (46, 53)] rfl rfl ?_ ?_ <;> repeat' (first | exact True.intro | exact lr | exact rr | (exact Res.le_snocF rfl) | exact SV.le_int (by omega) | exact SV.le_any _ | refine And.intro ?_ ?_)); done) ?_
     refine .ret _ ?_
     conv => whnf
     exact ⟨[(1000009, KX), (1000005, capC 73 46), (46, seqB 88 5 mkF mk0 _)], ⟨rfl, rfl⟩, rr, rr, rr, trivial⟩
end Go.Proofs.YtgeakdcbpjmkbaaGreatDoor
namespace Go.Proofs
open Go.Shelf
end Go.Proofs
set_option maxRecDepth 20000
namespace Go.Proofs.YtgeakdcbpjmkbaaGreatDoor
open Go Go.Eng Go.Shelf
end Go.Proofs.YtgeakdcbpjmkbaaGreatDoor
set_option maxRecDepth 20000
namespace Go.Proofs.YtgeakdcbpjmkbaaGreatDoor
open Go Go.Eng Go.Shelf Go.RowKit
def oXMpD56_6 : List (Nat × List Nat) := [(0, []), (1, [0]), (2, []), (3, []), (4, [0, 1, 2, 3]), (5, [0, 1, 2, 3, 4]), (6, [0, 1, 2, 3]), (7, [0, 1, 2, 3]), (8, [])]
theorem tkMrk_len (line : List UInt8) (l : List Mrk) : (tkMrk line l).2.length ≤ l.length + 1 := by
 unfold tkMrk
 generalize ((wrdsOk (Lib.split line [32]) && decide ((Lib.split line [32]).length = 5)) && (((Lib.split line [32]).drop 2).all numOk && decide (1 ≤ kix ((Lib.split line [32]).getD 1 [])))) = c
 cases c <;> simp
theorem tkMrk_ok (line : List UInt8) (l : List Mrk) (h1 : line.length ≤ 2^40) (h : ∀ p ∈ l, mkK p) : ∀ p ∈ (tkMrk line l).2, mkK p := by
 have hmem : ∀ i, ((Lib.split line [32]).getD i []).length ≤ 2^40 := fun i => by
  rcases Nat.lt_or_ge i (Lib.split line [32]).length with q | q
  · have := split_mem (getD_mem (x := []) q); omega
  · rw [List.getD_eq_getElem?_getD, List.getElem?_eq_none q]; simp
 unfold tkMrk
 generalize ((wrdsOk (Lib.split line [32]) && decide ((Lib.split line [32]).length = 5)) && (((Lib.split line [32]).drop 2).all numOk && decide (1 ≤ kix ((Lib.split line [32]).getD 1 [])))) = c
 cases c with
 | false => exact h
 | true =>
   intro p hp
   rcases List.mem_append.1 hp with q | q
   · exact h p q
   · simp at q; subst q; exact hmem 0
theorem mkOk_rd (text : List UInt8) (ht : text.length ≤ 2^20) : mkOk (lnsF tkMrk (text.length + 1) 0 text []).2 :=
 ⟨by have := lnsF_len tkMrk_len (text.length + 1) 0 text []; simp only [List.length_nil] at this; omega, lnsF_all (N := 2^40) (fun line l h1 h => tkMrk_ok line l h1 h) _ _ _ _ (by omega) (by simp)⟩
theorem tk142 : Taker 142 73 88 5 mkF mk0 tkMrk := ⟨tkMrk_len, lz142⟩
theorem lz54 (text : List UInt8) (ht : text.length ≤ 2^20) : FSpec Tryz.prog 54 [.d (.str text)] kx (fun x r => x = .tup [.d (seqD 5 mkF mk0 (redF tkMrk mrksE text).1), .d (.int .i64 (redF tkMrk mrksE text).2.1), .d (.int .i64 (redF tkMrk mrksE text).2.2)] ∧ r = kx) := by
 have hL := lnsNil (by decide) (lz75 tk142 text ht [] (by simp))
 have hlen := lnsF_len (tk := tkMrk) (tk142).1 (text.length + 1) 0 text []
 have hok := mkOk_rd text ht
 unfold redF
 generalize lnsF tkMrk (text.length + 1) 0 text [] = R at hL hlen hok ⊢
 obtain ⟨⟨ra, rb⟩, rl⟩ := R
 refine spec_of hT (C := []) Tryz.func54 rfl Tryz.call54 rfl rfl rfl ?_
 conv => whnf
 repeat' (first | (refine CallX.of hL [(1000005, 5), (1000009, 1000009), (40, 41)] rfl ⟨lr, lr, trivial⟩ ⟨rr, rr, trivial⟩ rfl rfl ?_; rintro x rout ⟨rfl, rfl⟩; refine ⟨rfl, ?_⟩; conv => whnf) | (refine CallX.freeze _ _ _ _ 41 88 5 _ _ rfl rfl ?_; refine CallX.pure (s192 rl hok) ⟨lr, trivial⟩ rfl ?_; conv => whnf) | (refine br_intro ?_ ?_ <;> intro hb <;> (try simp only [brs] at hb) <;> conv => whnf) | omega | (refine And.intro ?_ ?_; ((try dsimp only); first | omega | (refine szA rfl ?_; omega) | (refine szB rfl ?_; omega) | (unfold inI64; omega) | exact rfl | (simp only [List.toList_toArray, List.length_cons, List.length_nil]; omega) | (simp only [lns] at *; omega) | decide | (unfold inI64; decide)); conv => whnf) | decide | assumption)
 · have q : decide (200000 < text.length) = true := by simp; omega
   rw [q, cond_true]
   refine .weak _ ?_
   conv => whnf
   exact ⟨.tup [.d (seqD 5 mkF mk0 []), .d (.int .i64 0), .d (.int .i64 2)], kx, SV.le_tup ⟨SV.le_nilS, lr, lr, trivial⟩, ⟨rfl, rfl⟩, rr, trivial⟩
 · have q : decide (200000 < text.length) = false := by simp; omega
   simp only [q, hb, cond_false]
   refine .weak _ ?_
   conv => whnf
   exact ⟨.tup [.d (seqD 5 mkF mk0 []), .d (.int .i64 ra), .d (.int .i64 9)], kx, SV.le_tup ⟨SV.le_nilS, lr, lr, trivial⟩, ⟨rfl, rfl⟩, rr, trivial⟩
 · rename_i hb0 hb1
   have q : decide (200000 < text.length) = false := by simp; omega
   have q2 : decide (mrksE rl = 0) = false := by simp [hb]
   simp only [q, q2, hb1, cond_false, cond_true]
   refine .weak _ ?_
   conv => whnf
   exact ⟨.tup [.d (seqD 5 mkF mk0 []), .d (.int .i64 0), .d (.int .i64 (mrksE rl))], kx, SV.le_tup ⟨SV.le_nilS, lr, lr, trivial⟩, ⟨rfl, rfl⟩, rr, trivial⟩
 · rename_i hb0 hb1
   have q : decide (200000 < text.length) = false := by simp; omega
   have q2 : decide (mrksE rl = 0) = true := by simp [hb]
   simp only [q, q2, hb1, cond_false, cond_true]
   refine .ret _ ?_
   conv => whnf
   refine ⟨kx, ⟨congrArg SV.tup ?_, rfl⟩, rr, trivial⟩
   repeat' (refine cons_eq ?_ ?_)
   all_goals (conv => lhs; whnf)
   all_goals try (with_reducible rfl)
   all_goals rfl
theorem mrk_eq {a b : Mrk} : a = b ↔ (((a.pan = b.pan ∧ a.kind = b.kind) ∧ a.x = b.x) ∧ a.y = b.y) ∧ a.size = b.size := by cases a; cases b; simp [and_assoc]
instance : DecidableEq Mrk := fun _ _ => decidable_of_iff _ mrk_eq.symm
theorem lz56 (l m : List Mrk) (hl : l.length ≤ 2^40) : FSpec Tryz.prog 56 [.d (mrks l), .d (mrks m)] [] (fun x r => x = .d (.bool (decide (l = m))) ∧ r = []) := by
 refine spec_of hT (C := []) Tryz.func56 rfl Tryz.call56 rfl rfl rfl ?_
 conv => whnf
 repeat' (first | (refine br_intro ?_ ?_ <;> intro hb <;> (try simp only [brs] at hb) <;> conv => whnf) | (refine RegX.rule (id := 6) hT rfl [] oXMpD56_6 (by decide +kernel) ?_; conv => whnf) | omega | (refine And.intro ?_ ?_; ((try dsimp only); first | omega | (refine szA rfl ?_; omega) | (refine szB rfl ?_; omega) | (unfold inI64; omega) | exact rfl | (simp only [List.toList_toArray, List.length_cons, List.length_nil]; omega) | (simp only [lns] at *; omega) | decide | (unfold inI64; decide)); conv => whnf) | decide | assumption)
 · refine .ret _ ?_
   conv => whnf
   refine ⟨[], ⟨?_, rfl⟩, trivial⟩
   conv => lhs; whnf
   have : ¬ l = m := fun q => by subst q; simp at hb
   simp [this]
 have hlen : l.length = m.length := by
  omega
 refine LoopX.rule hT (C := []) (ι := Nat) (fun i => i ≤ l.length ∧ ∀ j, j < i → l.getD j mk0 = m.getD j mk0) (fun i => mkSt [(0, .d (mrks l)), (1, .d (mrks m)), (12, .d (.int .i64 l.length)), (13, .d (.int .i64 i))] []) (fun i => l.length - i) 0 ⟨by simp, fun j hj => absurd hj (Nat.not_lt_zero j)⟩ (by (refine Entails.mk' [] rfl rfl ?_ ?_ <;> repeat' (first | exact True.intro | exact lr | exact rr | exact SV.le_int (by omega) | exact SV.le_any _ | refine And.intro ?_ ?_)); done) ?_
 rintro i ⟨p1, p2⟩
 have e1 : (i : Int).toNat = i := Int.toNat_natCast i
 conv => whnf
 repeat' (first | (refine br_intro ?_ ?_ <;> intro hb <;> (try simp only [brs] at hb) <;> conv => whnf) | (refine RegX.rule (id := 6) hT rfl [] oXMpD56_6 (by decide +kernel) ?_; conv => whnf) | omega | (refine And.intro ?_ ?_; ((try dsimp only); first | omega | (refine szA rfl ?_; omega) | (refine szB rfl ?_; omega) | (unfold inI64; omega) | exact rfl | (simp only [List.toList_toArray, List.length_cons, List.length_nil]; omega) | (simp only [lns] at *; omega) | decide | (unfold inI64; decide)); conv => whnf) | decide | assumption)
 · refine .ret _ ?_
   conv => whnf
   refine ⟨[], ⟨?_, rfl⟩, trivial⟩
   conv => lhs; whnf
   have : ¬ l = m := fun q => by subst q; simp at hb
   simp [this]
 · exact ⟨i + 1, ⟨by omega, all_step p2 (by rw [mrk_eq]; simpa [and_assoc] using hb)⟩, by omega, (by (refine Entails.mk' [] rfl rfl ?_ ?_ <;> repeat' (first | exact True.intro | exact lr | exact rr | exact SV.le_int (by omega) | exact SV.le_any _ | refine And.intro ?_ ?_)); done)⟩
 · refine .ret _ ?_
   conv => whnf
   refine ⟨[], ⟨?_, rfl⟩, trivial⟩
   conv => lhs; whnf
   have : i = l.length := by omega
   subst this
   simp [eq_of_getD mk0 hlen p2]
def mrkP (p : Mrk) : List Part := [.inr p.pan, .inr (kindsL.getD p.kind.toNat []), .inl p.x, .inl p.y, .inl p.size]
def mrk1 (p : Mrk) : Prop := (p.pan.length ≤ 2^10 ∧ (0 ≤ p.kind ∧ p.kind ≤ 4)) ∧ (-2^60 ≤ p.x ∧ p.x ≤ 2^60) ∧ (-2^60 ≤ p.y ∧ p.y ≤ 2^60) ∧ (-2^60 ≤ p.size ∧ p.size ≤ 2^60)
theorem kinds_len (i : Nat) : (kindsL.getD i []).length ≤ 7 := by
 rcases i with _ | _ | _ | _ | _ | i <;> simp [kindsL]
theorem mrk1_ln {p : Mrk} (h : mrk1 p) : lnOk (mrkP p) := by
 obtain ⟨⟨h1, h2⟩, ⟨h3, h4⟩, ⟨h5, h6⟩, h7, h8⟩ := h
 refine ⟨by simp [mrkP], fun q hq => ?_⟩
 simp only [mrkP, List.mem_cons, List.not_mem_nil, or_false] at hq
 have e1 := itoa_len h3 h4
 have e2 := itoa_len h5 h6
 have e3 := itoa_len h7 h8
 have e4 := kinds_len p.kind.toNat
 rcases hq with rfl | rfl | rfl | rfl | rfl <;> simp only [partS] <;> omega
theorem mrk1_ok {p : Mrk} (h : mrk1 p) : ∀ q ∈ mrkP p, partOk q := by
 obtain ⟨⟨h1, h2⟩, ⟨h3, h4⟩, ⟨h5, h6⟩, h7, h8⟩ := h
 intro q hq
 simp only [mrkP, List.mem_cons, List.not_mem_nil, or_false] at hq
 rcases hq with rfl | rfl | rfl | rfl | rfl <;> simp only [partOk] <;> first | trivial | omega
theorem mrk1_0 : mrk1 mk0 := by simp [mrk1, mk0]
def oXMpE51_8 : List (Nat × List Nat) := [(0, []), (1, []), (2, []), (4, [0, 1, 2]), (5, [0, 1, 2]), (9, [0, 1, 2, 4, 5]), (10, [0, 1, 2, 4, 5]), (11, [0, 1, 2, 4, 5]), (12, [0, 1, 2, 4, 5, 9, 10, 11]), (13, [0, 1, 2, 4, 5, 9, 10, 11]), (14, [0, 1, 2, 4, 5, 9, 10, 11]), (15, [0, 1, 2, 4, 5, 9, 10, 11, 12, 13, 14]), (16, [0, 1, 2, 4, 5, 9, 10, 11, 12, 13, 14]), (17, [0, 1, 2, 4, 5, 9, 10, 11, 12, 13, 14]), (3, [0, 1, 2, 4, 5, 9, 10, 11, 12, 13, 14, 15, 16, 17]), (6, [0, 1, 2, 9, 10, 11, 12, 13, 14, 15, 16, 17]), (7, [0, 1, 2, 9, 10, 11, 12, 13, 14, 15, 16, 17]), (8, [0, 1, 2, 9, 10, 11, 12, 13, 14, 15, 16, 17]), (18, []), (19, []), (20, []), (21, [])]
theorem lz51 (l : List Mrk) (hk : mkOk l) (hl : l.length ≤ 2^15 ∧ (mrksE l = 0 → ∀ p ∈ l, mrk1 p))  : FSpec Tryz.prog 51 [.d (seqD 5 mkF mk0 l)] kx (fun x r => x = .tup [.d (.str (if mrksE l = 0 then txF mrkP l else [])), .d (.int .i64 (mrksE l))] ∧ r = kx) := by
 by_cases hz : mrksE l = 0
 case neg =>
  have hf := s192 l hk
  generalize mrksE l = e at *
  refine spec_of hT (C := []) Tryz.func51 rfl Tryz.call51 rfl rfl rfl ?_
  conv => whnf
  repeat' (first | (refine CallX.exact (hf) rfl rfl ?_; rotate_right; conv => whnf) | (refine br_intro ?_ ?_ <;> intro hb <;> (try simp only [brs] at hb) <;> conv => whnf) | (refine RegX.rule (id := 8) hT rfl [] oXMpE51_8 (by decide +kernel) ?_; conv => whnf) | omega | (refine And.intro ?_ ?_; ((try dsimp only); first | omega | (refine szA rfl ?_; omega) | (refine szB rfl ?_; omega) | (unfold inI64; omega) | exact rfl | (simp only [List.toList_toArray, List.length_cons, List.length_nil]; omega) | (simp only [lns] at *; omega) | decide | (unfold inI64; decide)); conv => whnf) | decide | assumption)
  refine .ret _ ?_
  conv => whnf
  refine ⟨kx, ⟨congrArg SV.tup ?_, rfl⟩, rr, trivial⟩
  repeat' (refine cons_eq ?_ ?_)
  all_goals (conv => lhs; whnf)
  all_goals try (with_reducible rfl)
  · rw [if_neg hz]
 replace hl : l.length ≤ 2^15 ∧ ∀ p ∈ l, mrk1 p := ⟨hl.1, hl.2 hz⟩
 have hq : ∀ i, mrk1 (l.getD i mk0) := fun i => by
  rcases Nat.lt_or_ge i l.length with q | q
  · exact hl.2 _ (getD_mem q)
  · rw [List.getD_eq_getElem?_getD, List.getElem?_eq_none q]; exact mrk1_0
 have hJ := fun i => lnOk_len (mrk1_ln (hq i))
 have hC := fun i => zWJoin (mrkP (l.getD i mk0)) (by simp [mrkP]) (mrk1_ok (hq i)) (by have := hJ i; omega)
 have hT' := fun i => txF_len (pf := mrkP) (l := l.take i) (fun p hp => mrk1_ln (hl.2 p (List.mem_of_mem_take hp)))
 have hlen := hl.1
 refine spec_of hT (C := []) Tryz.func51 rfl Tryz.call51 rfl rfl rfl ?_
 conv => whnf
 repeat' (first | (refine CallX.exact (s192 l hk) rfl rfl ?_; rotate_right; conv => whnf) | (refine br_intro ?_ ?_ <;> intro hb <;> (try simp only [brs] at hb) <;> conv => whnf) | (refine RegX.rule (id := 8) hT rfl [] oXMpE51_8 (by decide +kernel) ?_; conv => whnf) | omega | (refine And.intro ?_ ?_; ((try dsimp only); first | omega | (refine szA rfl ?_; omega) | (refine szB rfl ?_; omega) | (unfold inI64; omega) | exact rfl | (simp only [List.toList_toArray, List.length_cons, List.length_nil]; omega) | (simp only [lns] at *; omega) | decide | (unfold inI64; decide)); conv => whnf) | decide | assumption)
 have h0 := hz
 rw [h0, if_pos rfl]
 rcases Nat.eq_zero_or_pos l.length with h00 | h00
 · refine LoopX.unroll hT (C := []) (fun _ _ h => h) (fun _ h => h) ?_
   conv => whnf
   repeat' (first | (refine CallX.of zStrN [(1000001, 5)] rfl ⟨lr, trivial⟩ ⟨rr, trivial⟩ rfl rfl ?_; rintro x rout ⟨rfl, rfl⟩; refine ⟨rfl, ?_⟩; conv => whnf) | (refine br_intro ?_ ?_ <;> intro hb <;> (try simp only [brs] at hb) <;> conv => whnf) | (refine RegX.rule (id := 8) hT rfl [] oXMpE51_8 (by decide +kernel) ?_; conv => whnf) | omega | (refine And.intro ?_ ?_; ((try dsimp only); first | omega | (refine szA rfl ?_; omega) | (refine szB rfl ?_; omega) | (unfold inI64; omega) | exact rfl | (simp only [List.toList_toArray, List.length_cons, List.length_nil]; omega) | (simp only [lns] at *; omega) | decide | (unfold inI64; decide)); conv => whnf) | decide | assumption)
   have : l = [] := List.eq_nil_of_length_eq_zero h00
   subst this
   refine .ret _ ?_
   conv => whnf
   refine ⟨kx, ⟨congrArg SV.tup ?_, rfl⟩, rr, trivial⟩
   repeat' (refine cons_eq ?_ ?_)
   all_goals (conv => lhs; whnf)
   all_goals try (with_reducible rfl)
   all_goals rfl
 have hJ0 := hJ 0
 have hx0 := (hq (Int.toNat 0)).1
 have hkl : kindsL.length = 5 := rfl
 refine LoopX.unroll hT (C := []) (fun _ _ h => h) (fun _ h => h) ?_
 conv => whnf
 repeat' (first | (refine CallX.look (hC 0) [(1000009, 1000009)] rfl ⟨SV.le_lit rfl rfl, trivial⟩ ⟨⟨_, rfl, rfl⟩, trivial⟩ rfl rfl rfl ?_; conv => whnf) | (refine CallX.exact (lz140) rfl rfl ?_; rotate_right; conv => whnf) | (refine CallX.of (zWrN (lnB (mrkP (l.getD 0 mk0))) (by unfold lnB; have := hJ 0; simp only [List.length_append, List.length_singleton]; omega)) [(1000001, 5), (14, 40)] rfl ⟨lr, lr, trivial⟩ ⟨rr, trivial⟩ rfl rfl ?_; rintro x rout ⟨rfl, rfl⟩; refine ⟨rfl, ?_⟩; conv => whnf) | (refine br_intro ?_ ?_ <;> intro hb <;> (try simp only [brs] at hb) <;> conv => whnf) | (refine RegX.rule (id := 8) hT rfl [] oXMpE51_8 (by decide +kernel) ?_; conv => whnf) | omega | (refine And.intro ?_ ?_; ((try dsimp only); first | omega | (refine szA rfl ?_; omega) | (refine szB rfl ?_; omega) | (unfold inI64; omega) | exact rfl | (simp only [List.toList_toArray, List.length_cons, List.length_nil]; omega) | (simp only [lns] at *; omega) | decide | (unfold inI64; decide)); conv => whnf) | decide | assumption)
 have he1 : lnB (mrkP (l.getD 0 mk0)) = txF mrkP (l.take 1) := by rw [txF_snoc (d := mk0) h00]; simp [txF]
 refine LoopX.rule hT (C := []) (ι := Nat) (fun i => i ≤ l.length) (fun i => mkSt [(5, .ptr 5 0), (13, .d (seqD 5 mkF mk0 l)), (14, .d (.int .i64 l.length)), (15, .d (.int .i64 i))] [(1000009, KX), (5, .cells 98 [.ptr 5 0, .buf 40]), (40, bytB (txF mrkP (l.take i)))]) (fun i => l.length - i) 1 h00 ?_ ?_
 · rw [← he1]
   exact (by (refine Entails.mk' [(1000009, 1000009), (5, 5), (40, 40)] rfl rfl ?_ ?_ <;> repeat' (first | exact True.intro | exact lr | exact rr | exact SV.le_int (by omega) | exact SV.le_any _ | refine And.intro ?_ ?_)); done)
 intro i hi
 have hJi := hJ i
 have hxi := (hq i).1
 have hxt := (hq (i : Int).toNat).1
 have hTi := hT' i
 have hTl : (l.take i).length = i := by simp; omega
 rw [hTl] at hTi
 conv => whnf
 repeat' (first | (refine CallX.look (hC i) [(1000009, 1000009)] rfl ⟨SV.le_lit rfl rfl, trivial⟩ ⟨⟨_, rfl, rfl⟩, trivial⟩ rfl rfl rfl ?_; conv => whnf) | (refine CallX.exact (lz140) rfl rfl ?_; rotate_right; conv => whnf) | (refine CallX.of (zWrB (txF mrkP (l.take i)) (lnB (mrkP (l.getD i mk0))) (by unfold lnB; simp only [List.length_append, List.length_singleton]; omega)) [(1000001, 5), (1000002, 40), (14, 41)] rfl ⟨lr, lr, trivial⟩ ⟨rr, rr, trivial⟩ rfl rfl ?_; rintro x rout ⟨rfl, rfl⟩; refine ⟨rfl, ?_⟩; conv => whnf) | (refine CallX.of (zStrB (txF mrkP (l.take i)) (.ptr 1000001 0)) [(1000001, 5), (1000002, 40)] rfl ⟨lr, trivial⟩ ⟨rr, rr, trivial⟩ rfl rfl ?_; rintro x rout ⟨rfl, rfl⟩; refine ⟨rfl, ?_⟩; conv => whnf) | (refine br_intro ?_ ?_ <;> intro hb <;> (try simp only [brs] at hb) <;> conv => whnf) | (refine RegX.rule (id := 8) hT rfl [] oXMpE51_8 (by decide +kernel) ?_; conv => whnf) | omega | (refine And.intro ?_ ?_; ((try dsimp only); first | omega | (refine szA rfl ?_; omega) | (refine szB rfl ?_; omega) | (unfold inI64; omega) | exact rfl | (simp only [List.toList_toArray, List.length_cons, List.length_nil]; omega) | (simp only [lns] at *; omega) | decide | (unfold inI64; decide)); conv => whnf) | decide | assumption)
 · have hlt : i < l.length := by omega
   refine ⟨i + 1, by omega, by omega, ?_⟩
   rw [txF_snoc (d := mk0) hlt]
   exact (by (refine Entails.mk' [(1000009, 1000009), (5, 5), (40, 41)] rfl rfl ?_ ?_ <;> repeat' (first | exact True.intro | exact lr | exact rr | exact SV.le_int (by omega) | exact SV.le_any _ | refine And.intro ?_ ?_)); done)
 · have : i = l.length := by omega
   subst this
   refine .ret _ ?_
   conv => whnf
   refine ⟨kx, ⟨congrArg SV.tup ?_, rfl⟩, rr, trivial⟩
   repeat' (refine cons_eq ?_ ?_)
   all_goals (conv => lhs; whnf)
   all_goals try (with_reducible rfl)
   · rw [List.take_length]
def oXMpF52_6 : List (Nat × List Nat) := [(0, []), (1, [0]), (2, [0]), (4, [0, 1, 2]), (5, [0, 1, 2]), (8, [0, 1, 2, 4, 5]), (9, [0, 1, 2, 4, 5, 8]), (10, [0, 1, 2, 4, 5, 8]), (12, [0, 1, 2, 4, 5, 8, 9, 10]), (13, [0, 1, 2, 4, 5, 8, 9, 10, 12]), (14, [0, 1, 2, 4, 5, 8, 9, 10, 12]), (16, [0, 1, 2, 4, 5, 8, 9, 10, 12, 13, 14]), (17, [0, 1, 2, 4, 5, 8, 9, 10, 12, 13, 14, 16]), (18, [0, 1, 2, 4, 5, 8, 9, 10, 12, 13, 14, 16]), (3, [0, 1, 2, 4, 5, 8, 9, 10, 12, 13, 14, 16, 17, 18]), (6, [0, 1, 2, 8, 9, 10, 12, 13, 14, 16, 17, 18]), (7, [0, 1, 2, 8, 9, 10, 12, 13, 14, 16, 17, 18]), (11, [0, 1, 2, 4, 5, 12, 13, 14, 16, 17, 18, 6, 7]), (15, [0, 1, 2, 4, 5, 16, 17, 18, 6, 7]), (19, [0, 1, 2, 4, 5, 6, 7]), (20, [0]), (21, [0]), (22, [0]), (23, []), (24, [])]
theorem lz52 (l : List Mrk) (hl : l.length ≤ 2^15 ∧ ∀ p ∈ l, mrk1 p) : FSpec Tryz.prog 52 [.d (mrks l)] kx (fun x r => x = .d (.str (txF mrkP l)) ∧ r = kx) := by
 have hq : ∀ i, mrk1 (l.getD i mk0) := fun i => by
  rcases Nat.lt_or_ge i l.length with q | q
  · exact hl.2 _ (getD_mem q)
  · rw [List.getD_eq_getElem?_getD, List.getElem?_eq_none q]; exact mrk1_0
 have hJ := fun i => lnOk_len (mrk1_ln (hq i))
 have hT' := fun i => txF_len (pf := mrkP) (l := l.take i) (fun p hp => mrk1_ln (hl.2 p (List.mem_of_mem_take hp)))
 have hlen := hl.1
 refine spec_of hT (C := []) Tryz.func52 rfl Tryz.call52 rfl rfl rfl ?_
 conv => whnf
 refine LoopX.rule hT (C := []) (ι := Nat) (fun i => i ≤ l.length) (fun i => mkSt [(3, .fn 72 []), (4, .d (.str (txF mrkP (l.take i)))), (7, .d (mrks l)), (8, .d (.int .i64 l.length)), (9, .d (.int .i64 i))] [(1000009, KX)]) (fun i => l.length - i) 0 (by simp) (by (refine Entails.mk' [(1000009, 1000009)] rfl rfl ?_ ?_ <;> repeat' (first | exact True.intro | exact lr | exact rr | exact SV.le_int (by omega) | exact SV.le_any _ | refine And.intro ?_ ?_)); done) ?_
 intro i hi
 have e1 : (i : Int).toNat = i := Int.toNat_natCast i
 have hJi := hJ i
 have hTi := hT' i
 have hTl : (l.take i).length = i := by simp; omega
 rw [hTl] at hTi
 have hxt := (hq (i : Int).toNat).1
 have hkl : kindsL.length = 5 := rfl
 obtain ⟨⟨h1, h2⟩, ⟨h3, h4⟩, ⟨h5, h6⟩, h7, h8⟩ := hq i
 have c1 := zItoa (l.getD i mk0).x (by omega) (by omega)
 have c2 := zItoa (l.getD i mk0).y (by omega) (by omega)
 have c3 := zItoa (l.getD i mk0).size (by omega) (by omega)
 have c4 := zJoin ((mrkP (l.getD i mk0)).map partS) [32] (by omega) (by simp [mrkP])
 conv => whnf
 repeat' (first | (refine CallX.exact (lz141) rfl rfl ?_; rotate_right; conv => whnf) | (refine CallX.kn c1 rfl rfl rfl rfl ?_; conv => whnf) | (refine CallX.kn c2 rfl rfl rfl rfl ?_; conv => whnf) | (refine CallX.kn c3 rfl rfl rfl rfl ?_; conv => whnf) | (refine CallX.pure c4 ⟨SV.le_lit rfl rfl, lr, trivial⟩ rfl ?_; conv => whnf) | (refine br_intro ?_ ?_ <;> intro hb <;> (try simp only [brs] at hb) <;> conv => whnf) | (refine RegX.rule (id := 6) hT rfl [] oXMpF52_6 (by decide +kernel) ?_; conv => whnf) | omega | (refine And.intro ?_ ?_; ((try dsimp only); first | omega | (refine szA rfl ?_; omega) | (refine szB rfl ?_; omega) | (unfold inI64; omega) | exact rfl | (simp only [List.toList_toArray, List.length_cons, List.length_nil]; omega) | (simp only [lns] at *; omega) | decide | (unfold inI64; decide)); conv => whnf) | decide | assumption)
 · have hlt : i < l.length := by omega
   refine ⟨i + 1, by omega, by omega, ?_⟩
   rw [txF_snoc (d := mk0) hlt]
   exact (by (refine Entails.mk' [(1000009, 1000009)] rfl rfl ?_ ?_ <;> repeat' (first | exact True.intro | exact lr | exact rr | exact SV.le_int (by omega) | exact SV.le_any _ | refine And.intro ?_ ?_)); done)
 · have : i = l.length := by omega
   subst this
   refine .ret _ ?_
   conv => whnf
   refine ⟨kx, ⟨?_, rfl⟩, rr, trivial⟩
   conv => lhs; whnf
   rw [List.take_length]
theorem mkG_ok {l : List Mrk} {k : Nat} (h : allK mkG k l) (hk : k ≤ 2^15) : mkOk l :=
 ⟨by have := h.1; omega, fun p hp => by
   have h1 := (h.2 p hp).1
   show p.pan.length ≤ 2^40
   omega⟩
theorem ixB {c : UInt8} {b : List UInt8} : ∀ {a : List UInt8}, c ∉ a → Lib.index (a ++ c :: b) [c] = a.length
 | [], _ => by simp [Lib.index, List.isPrefixOf]
 | x :: r, h => by
   have h1 : ¬ c = x := fun e => h (by simp [e])
   have h2 := ixB (b := b) (a := r) (fun q => h (List.mem_cons_of_mem _ q))
   rw [List.cons_append, Lib.index, h2]
   simp [List.isPrefixOf, h1]
theorem ixB0 {c : UInt8} : ∀ {a : List UInt8}, c ∉ a → Lib.index a [c] = -1
 | [], _ => by simp [Lib.index]
 | x :: r, h => by
   have h1 : ¬ c = x := fun e => h (by simp [e])
   have h2 := ixB0 (a := r) (fun q => h (List.mem_cons_of_mem _ q))
   rw [Lib.index, h2]
   simp [List.isPrefixOf, h1]
theorem cutB {a b : List UInt8} {c : UInt8} (h : c ∉ a) : Lib.cut (a ++ c :: b) [c] = (a, b, true) := by
 unfold Lib.cut
 rw [ixB h, if_pos (by omega)]
 simp
theorem occ_at {t : List UInt8} {c : UInt8} {i : Nat} (h : Lib.occAt t [c] i = true) : t.drop i = c :: t.drop (i + 1) := by
 unfold Lib.occAt at h
 cases hd : t.drop i with
 | nil => rw [hd] at h; simp [List.isPrefixOf] at h
 | cons x r =>
   rw [hd] at h
   simp [List.isPrefixOf] at h
   have : t.drop (i + 1) = (t.drop i).drop 1 := by rw [List.drop_drop]
   rw [this, hd, h]; rfl
theorem ix_at {t : List UInt8} {c : UInt8} (h : 0 ≤ Lib.index t [c]) : t = t.take (Lib.index t [c]).toNat ++ c :: t.drop ((Lib.index t [c]).toNat + 1) := by
 rcases Lib.index_spec t [c] with ⟨h1, _⟩ | ⟨i, h1, h2, h3, _⟩
 · omega
 · rw [h1]
   simp only [Int.toNat_natCast]
   rw [← occ_at h3, List.take_append_drop]
theorem cut_back {t : List UInt8} {c : UInt8} (h : (Lib.cut t [c]).2.2 = true) : t = (Lib.cut t [c]).1 ++ c :: (Lib.cut t [c]).2.1 := by
 unfold Lib.cut at h ⊢
 split at h
 · rename_i h0
   rw [if_pos h0]
   exact ix_at h0
 · cases h
theorem join_cc (x y : List UInt8) (r : List (List UInt8)) (sep : List UInt8) : Lib.join (x :: y :: r) sep = x ++ sep ++ Lib.join (y :: r) sep := by
 rw [Lib.join_cons, Lib.join_cons]; simp [Lib.joinTail]
theorem splitK_ne {sep : List UInt8} {save : Nat} : ∀ {k : Nat} {s : List UInt8}, Lib.splitK sep save k s ≠ []
 | 0, s => by simp [Lib.splitK]
 | k + 1, s => by unfold Lib.splitK; split <;> simp
theorem splitK_back (c : UInt8) : ∀ (k : Nat) (s : List UInt8), Lib.join (Lib.splitK [c] 0 k s) [c] = s
 | 0, s => by rw [Lib.splitK, Lib.join_one]
 | k + 1, s => by
   unfold Lib.splitK
   split
   · rw [Lib.join_one]
   · rename_i h
     have hge := Lib.index_ge s [c]
     have h0 : 0 ≤ Lib.index s [c] := by
      have : ¬ Lib.index s [c] = -1 := fun e => h (by simp [e])
      omega
     have ih := splitK_back c k (s.drop ((Lib.index s [c]).toNat + [c].length))
     cases hr : Lib.splitK [c] 0 k (s.drop ((Lib.index s [c]).toNat + [c].length)) with
     | nil => exact absurd hr splitK_ne
     | cons y r =>
       rw [hr] at ih
       rw [join_cc, ih]
       have := ix_at h0
       simp only [Nat.add_zero, List.length_singleton, List.append_assoc, List.singleton_append]
       exact this.symm
theorem split_back (c : UInt8) (s : List UInt8) : Lib.join (Lib.split s [c]) [c] = s := splitK_back c _ s
theorem splitK_join {c : UInt8} : ∀ (ws : List (List UInt8)) (k : Nat), ws ≠ [] → (∀ w ∈ ws, c ∉ w) → ws.length ≤ k + 1 → Lib.splitK [c] 0 k (Lib.join ws [c]) = ws
 | [], _, h, _, _ => absurd rfl h
 | [x], k, _, h, _ => by
   rw [Lib.join_one]
   cases k with
   | zero => rfl
   | succ k => unfold Lib.splitK; rw [ixB0 (h x (by simp))]; simp
 | x :: y :: r, k, _, h, hk => by
   obtain ⟨k, rfl⟩ : ∃ m, k = m + 1 := ⟨k - 1, by simp at hk; omega⟩
   rw [join_cc, List.append_assoc, List.singleton_append]
   unfold Lib.splitK
   rw [ixB (h x (by simp))]
   have ih := splitK_join (c := c) (y :: r) k (by simp) (fun w hw => h w (List.mem_cons_of_mem _ hw)) (by simp at hk ⊢; omega)
   have e : (x ++ c :: Lib.join (y :: r) [c]).drop (x.length + 1) = Lib.join (y :: r) [c] := by simp
   have q : ¬ ((x.length : Int) == -1) = true := by simp
   rw [if_neg q]
   simp only [Int.toNat_natCast, Nat.add_zero, List.length_singleton, e, ih, List.take_left]
theorem count_join {c : UInt8} : ∀ (ws : List (List UInt8)) (f : Nat), ws ≠ [] → (∀ w ∈ ws, c ∉ w) → ws.length ≤ f → ws.length ≤ Lib.countFrom [c] f (Lib.join ws [c]) + 1
 | [], _, h, _, _ => absurd rfl h
 | [x], f, _, h, _ => by simp
 | x :: y :: r, f, _, h, hf => by
   obtain ⟨f, rfl⟩ : ∃ m, f = m + 1 := ⟨f - 1, by simp at hf; omega⟩
   rw [join_cc, List.append_assoc, List.singleton_append]
   unfold Lib.countFrom
   rw [ixB (h x (by simp))]
   have ih := count_join (c := c) (y :: r) f (by simp) (fun w hw => h w (List.mem_cons_of_mem _ hw)) (by simp at hf ⊢; omega)
   have e : (x ++ c :: Lib.join (y :: r) [c]).drop (x.length + 1) = Lib.join (y :: r) [c] := by simp
   have q : ¬ ((x.length : Int) == -1) = true := by simp
   rw [if_neg q]
   simp only [Int.toNat_natCast, List.length_singleton, e]
   simp only [List.length_cons] at ih ⊢
   omega
theorem join_ge (c : UInt8) : ∀ (ws : List (List UInt8)), ws.length ≤ (Lib.join ws [c]).length + 1
 | [] => by simp
 | [x] => by simp
 | x :: y :: r => by
   have := join_ge c (y :: r)
   rw [join_cc]
   simp only [List.length_append, List.length_cons, List.length_nil] at this ⊢
   omega
theorem split_join {c : UInt8} {ws : List (List UInt8)} (h0 : ws ≠ []) (h : ∀ w ∈ ws, c ∉ w) : Lib.split (Lib.join ws [c]) [c] = ws :=
 splitK_join ws _ h0 h (count_join ws _ h0 h (join_ge c ws))
theorem dig_nat (d : Nat) (h : d < 10) : (UInt8.ofNat (48 + d)).toNat = 48 + d := by
 have : ∀ d, d < 10 → (UInt8.ofNat (48 + d)).toNat = 48 + d := by decide
 exact this d h
theorem parse_dec : ∀ (n u : Nat), u ≤ n → u < 10 ^ 12 → ∀ r, Lib.parseUint10 0 (Lib.decDigits u ++ r) = Lib.parseUint10 u r := by
 intro n
 induction n with
 | zero =>
   intro u hu h r
   rw [Lib.decDigits, dif_pos (by omega), List.singleton_append, Lib.parseUint10, dig_nat u (by omega)]
   rw [if_pos (by omega), if_neg (by omega), if_neg (by omega)]
   congr 1; omega
 | succ n ih =>
   intro u hu h r
   rw [Lib.decDigits]
   split
   · rename_i h10
     rw [List.singleton_append, Lib.parseUint10, dig_nat u h10]
     rw [if_pos (by omega), if_neg (by omega), if_neg (by omega)]
     congr 1; omega
   · rename_i h10
     have hm : u % 10 < 10 := Nat.mod_lt _ (by decide)
     rw [List.append_assoc, ih (u / 10) (by omega) (by omega), List.singleton_append, Lib.parseUint10, dig_nat _ hm]
     rw [if_pos (by omega), if_neg (by omega), if_neg (by omega)]
     congr 1; omega
theorem mag_dec (u : Nat) (h : u < 10 ^ 12) : Lib.parseMag (Lib.decDigits u) = .ok u := by
 unfold Lib.parseMag
 rw [if_neg (dec_digits (u + 1) u (by omega)).1]
 have := parse_dec u u (Nat.le_refl _) h []
 rw [List.append_nil] at this
 rw [this, Lib.parseUint10]
theorem atoi_itoa (n : Int) (h0 : -10 ^ 9 < n) (h1 : n < 10 ^ 9) : Lib.atoiAll (Lib.itoa n) = .ok n := by
 unfold Lib.itoa
 split
 · rename_i hn
   unfold Lib.atoiAll
   have e45 : (45 : UInt8).toNat = 45 := rfl
   simp only [e45]
   rw [if_pos (Or.inr trivial), mag_dec _ (by omega)]
   simp only
   rw [if_neg (by simp), if_neg (by simp; omega)]
   simp; omega
 · rename_i hn
   have hm := mag_dec n.toNat (by omega)
   obtain ⟨d1, d2⟩ := dec_digits (n.toNat + 1) n.toNat (by omega)
   cases hd : Lib.decDigits n.toNat with
   | nil => exact absurd hd d1
   | cons b r =>
     rw [hd] at hm
     have hb := d2 b (by rw [hd]; exact List.mem_cons_self)
     have hb2 : b.toNat ≠ 43 ∧ b.toNat ≠ 45 := by
      simp only [digs, List.contains_eq_mem, List.mem_cons, List.not_mem_nil, or_false, decide_eq_true_eq] at hb
      rcases hb with rfl | rfl | rfl | rfl | rfl | rfl | rfl | rfl | rfl | rfl <;> decide
     unfold Lib.atoiAll
     simp only
     rw [if_neg (by omega), hm]
     simp only
     rw [if_neg (by omega), if_neg (by omega), if_neg (by omega)]
     simp; omega
theorem num_itoa {n : Int} (h0 : -10 ^ 9 < n) (h1 : n < 10 ^ 9) : numN (Lib.itoa n) = n ∧ numOk (Lib.itoa n) = true := by
 have h := atoi_itoa n h0 h1
 refine ⟨by unfold numN; rw [h], ?_⟩
 unfold numOk isAtoi
 rw [h, trim_itoa]
 have := dec_len 8 n.natAbs (by omega)
 simp; omega
theorem itoa_num {s : List UInt8} (h : numOk s = true) : Lib.itoa (numN s) = s := by
 unfold numOk isAtoi at h
 unfold numN
 rw [Bool.and_eq_true] at h
 split at h
 · rename_i n hn
   rw [hn]
   exact eq_of_beq h.1
 · cases h.1
theorem itoa_ch {n : Int} {c : UInt8} (h : c ∈ Lib.itoa n) : c = 45 ∨ digs.contains c = true := by
 unfold Lib.itoa at h
 split at h
 · rcases List.mem_cons.1 h with q | q
   · exact .inl q
   · exact .inr ((dec_digits (n.natAbs + 1) n.natAbs (by omega)).2 c q)
 · exact .inr ((dec_digits (n.toNat + 1) n.toNat (by omega)).2 c h)
theorem itoa_ne (n : Int) : Lib.itoa n ≠ [] := by
 unfold Lib.itoa
 split
 · simp
 · exact (dec_digits (n.toNat + 1) n.toNat (by omega)).1
theorem itoa_32 (n : Int) : (32 : UInt8) ∉ Lib.itoa n := fun h => by
 rcases itoa_ch h with q | q
 · revert q; decide
 · revert q; decide
theorem itoa_10 (n : Int) : (10 : UInt8) ∉ Lib.itoa n := fun h => by
 rcases itoa_ch h with q | q
 · revert q; decide
 · revert q; decide
theorem join_no {c : UInt8} {sep : List UInt8} (hs : c ∉ sep) : ∀ {ws : List (List UInt8)}, (∀ w ∈ ws, c ∉ w) → c ∉ Lib.join ws sep
 | [], _ => by simp [Lib.join_nil]
 | [x], h => by rw [Lib.join_one]; exact h x (by simp)
 | x :: y :: r, h => by
   have ih := join_no hs (ws := y :: r) (fun w hw => h w (List.mem_cons_of_mem _ hw))
   have hx := h x (by simp)
   rw [join_cc]
   simp only [List.mem_append, not_or]
   exact ⟨⟨hx, hs⟩, ih⟩
theorem lines_back {α : Type} {tk : List UInt8 → List α → Bool × List α} {pf : α → List Part} {Q : α → Prop}
 (h1 : ∀ p, Q p → (10 : UInt8) ∉ Lib.join ((pf p).map partS) [32]) (h2 : ∀ p l, Q p → tk (Lib.join ((pf p).map partS) [32]) l = (true, l ++ [p])) :
 ∀ (m : List α) (n a : Nat) (l : List α), (∀ p ∈ m, Q p) → m.length < n → lnsF tk n a (txF pf m) l = ((0, true), l ++ m)
 | [], n, a, l, _, hn => by
   obtain ⟨n, rfl⟩ : ∃ k, n = k + 1 := ⟨n - 1, by simp at hn; omega⟩
   simp [lnsF, txF]
 | p :: m, n, a, l, hq, hn => by
   obtain ⟨n, rfl⟩ : ∃ k, n = k + 1 := ⟨n - 1, by simp at hn; omega⟩
   have hp := hq p (by simp)
   have e : txF pf (p :: m) = Lib.join ((pf p).map partS) [32] ++ 10 :: txF pf m := by simp [txF, lnB]
   have hc := cutB (b := txF pf m) (h1 p hp)
   rw [e]
   unfold lnsF
   rw [if_neg (by simp), hc]
   simp only
   rw [if_neg (by simp), h2 p l hp]
   simp only
   rw [if_neg (by simp), lines_back h1 h2 m n (a + 1) (l ++ [p]) (fun q hm => hq q (List.mem_cons_of_mem _ hm)) (by simp at hn ⊢; omega)]
   simp
theorem lines_fwd {α : Type} {tk : List UInt8 → List α → Bool × List α} {pf : α → List Part}
 (h2 : ∀ line l, (tk line l).1 = true → ∃ p, (tk line l).2 = l ++ [p] ∧ Lib.join ((pf p).map partS) [32] = line) :
 ∀ (n a : Nat) (t : List UInt8) (l : List α), (lnsF tk n a t l).1.2 = true → ∃ m, (lnsF tk n a t l).2 = l ++ m ∧ txF pf m = t
 | 0, a, t, l, h => by cases h
 | n + 1, a, t, l, h => by
   unfold lnsF at h ⊢
   split at h
   · rename_i h0
     rw [if_pos h0]
     exact ⟨[], by simp, by simp [txF, h0]⟩
   · rename_i h0
     rw [if_neg h0]
     split at h
     · cases h
     · rename_i hc
       rw [if_neg hc]
       split at h
       · cases h
       · rename_i hk
         rw [if_neg hk]
         obtain ⟨p, e1, e2⟩ := h2 _ l (by simpa using hk)
         rw [e1] at h ⊢
         obtain ⟨m, e3, e4⟩ := lines_fwd h2 n _ _ _ h
         refine ⟨p :: m, by rw [e3]; simp, ?_⟩
         have hb := cut_back (by simpa using hc)
         have e : txF pf (p :: m) = Lib.join ((pf p).map partS) [32] ++ 10 :: txF pf m := by simp [txF, lnB]
         rw [e, e2, e4]
         exact hb.symm
theorem txF_ge {α : Type} {pf : α → List Part} : ∀ (l : List α), l.length ≤ (txF pf l).length
 | [] => by simp
 | x :: r => by
   have := txF_ge (pf := pf) r
   simp only [txF, List.map_cons, List.flatten_cons, List.length_append, List.length_cons, lnB, List.length_nil] at this ⊢
   omega
theorem txF_le {α : Type} {pf : α → List Part} {N : Nat} : ∀ {l : List α}, (∀ p ∈ l, (lnB (pf p)).length ≤ N) → (txF pf l).length ≤ l.length * N := by
 intro l
 induction l with
 | nil => intro _; simp [txF]
 | cons x r ih =>
   intro h
   have h1 := h x List.mem_cons_self
   have h2 := ih (fun p hp => h p (List.mem_cons_of_mem _ hp))
   simp only [txF, List.map_cons, List.flatten_cons, List.length_append, List.length_cons] at h2 ⊢
   rw [Nat.add_mul, Nat.one_mul]; omega
theorem key_no {s : List UInt8} (h : isKeyB s = true) : ((32 : UInt8) ∉ s ∧ (10 : UInt8) ∉ s) ∧ s ≠ [] ∧ s.length ≤ 40 := by
 unfold isKeyB at h
 rw [Bool.and_eq_true, Bool.and_eq_true] at h
 obtain ⟨⟨h1, h2⟩, h3⟩ := h
 have hc : ∀ c ∈ s, c ≠ 32 ∧ c ≠ 10 := fun c hc => by
  obtain ⟨i, hi, rfl⟩ := mem_getD (d := 0) hc
  have := List.all_eq_true.1 h1 i (List.mem_range.2 hi)
  rw [keyCh_iff] at this
  constructor
  · intro e; rw [e] at this; revert this; show ¬ _; simp
  · intro e; rw [e] at this; revert this; show ¬ _; simp
 exact ⟨⟨fun q => (hc _ q).1 rfl, fun q => (hc _ q).2 rfl⟩, by simpa using h2, by simpa using h3⟩
theorem redF_back {α : Type} {tk : List UInt8 → List α → Bool × List α} {fe : List α → Int} {pf : α → List Part} {Q : α → Prop} {l : List α}
 (h1 : ∀ p, Q p → (10 : UInt8) ∉ Lib.join ((pf p).map partS) [32]) (h2 : ∀ p l, Q p → tk (Lib.join ((pf p).map partS) [32]) l = (true, l ++ [p]))
 (hq : ∀ p ∈ l, Q p) (hf : fe l = 0) (hs : (txF pf l).length ≤ 200000) : redF tk fe (txF pf l) = (l, 0, 0) := by
 have hb := lines_back h1 h2 l ((txF pf l).length + 1) 0 [] hq (by have := txF_ge (pf := pf) l; omega)
 unfold redF
 rw [hb]
 have : decide (200000 < (txF pf l).length) = false := by simp; omega
 simp [this, hf]
theorem redF_fwd {α : Type} {tk : List UInt8 → List α → Bool × List α} {fe : List α → Int} {pf : α → List Part} {t : List UInt8}
 (h2 : ∀ line l, (tk line l).1 = true → ∃ p, (tk line l).2 = l ++ [p] ∧ Lib.join ((pf p).map partS) [32] = line)
 (h : (redF tk fe t).2.2 = 0) : fe (redF tk fe t).1 = 0 ∧ txF pf (redF tk fe t).1 = t := by
 unfold redF at h ⊢
 cases h1 : decide (200000 < t.length) with
 | true => rw [h1] at h; cases h
 | false =>
   rw [h1] at h
   simp only [cond_false] at h ⊢
   cases hk : (lnsF tk (t.length + 1) 0 t []).1.2 with
   | false => rw [hk] at h; cases h
   | true =>
     rw [hk] at h
     simp only [cond_true] at h ⊢
     cases hf : decide (fe (lnsF tk (t.length + 1) 0 t []).2 = 0) with
     | false => rw [hf] at h; simp at hf; exact absurd h hf
     | true =>
       simp only [cond_true]
       obtain ⟨m, e1, e2⟩ := lines_fwd h2 _ _ _ _ hk
       simp only [List.nil_append] at e1
       rw [e1] at hf ⊢
       exact ⟨of_decide_eq_true hf, e2⟩
def mrkQ (p : Mrk) : Prop := isKeyB p.pan = true ∧ (1 ≤ p.kind ∧ p.kind ≤ 4) ∧ (0 ≤ p.x ∧ p.x ≤ 5000) ∧ (0 ≤ p.y ∧ p.y ≤ 5000) ∧ (1 ≤ p.size ∧ p.size ≤ 2000)
theorem mrkQ_of {l : List Mrk} (h : mrksE l = 0) : l.length ≤ 60 ∧ ∀ p ∈ l, mrkQ p := by
 unfold mrksE at h
 split at h
 · cases h
 · refine ⟨by omega, fun p hp => ?_⟩
   obtain ⟨i, hi, rfl⟩ := mem_getD (d := mk0) hp
   have := firstAt_all h i hi
   unfold mrkE at this
   simp only at this
   unfold mrkQ
   grind
theorem kind_no (i : Nat) : (32 : UInt8) ∉ kindsL.getD i [] ∧ (10 : UInt8) ∉ kindsL.getD i [] := by
 rcases i with _ | _ | _ | _ | _ | i <;> simp [kindsL]
theorem mrk_w {p : Mrk} : (mrkP p).map partS = [p.pan, kindsL.getD p.kind.toNat [], Lib.itoa p.x, Lib.itoa p.y, Lib.itoa p.size] := rfl
theorem kix_kind {k : Int} (h : 1 ≤ k ∧ k ≤ 4) : kix (kindsL.getD k.toNat []) = k ∧ kindsL.getD k.toNat [] ≠ [] := by
 have : k = 1 ∨ k = 2 ∨ k = 3 ∨ k = 4 := by omega
 rcases this with rfl | rfl | rfl | rfl <;> decide +kernel
theorem mrk_ln10 (p : Mrk) (h : mrkQ p) : (10 : UInt8) ∉ Lib.join ((mrkP p).map partS) [32] := by
 rw [mrk_w]
 refine join_no (by decide) fun w hw => ?_
 simp only [List.mem_cons, List.not_mem_nil, or_false] at hw
 rcases hw with rfl | rfl | rfl | rfl | rfl
 · exact (key_no h.1).1.2
 · exact (kind_no _).2
 · exact itoa_10 _
 · exact itoa_10 _
 · exact itoa_10 _
theorem mrk_tk (p : Mrk) (l : List Mrk) (h : mrkQ p) : tkMrk (Lib.join ((mrkP p).map partS) [32]) l = (true, l ++ [p]) := by
 obtain ⟨h1, h2, h3, h4, h5⟩ := h
 obtain ⟨⟨k1, _⟩, k2, _⟩ := key_no h1
 obtain ⟨x1, x2⟩ := num_itoa (n := p.x) (by omega) (by omega)
 obtain ⟨y1, y2⟩ := num_itoa (n := p.y) (by omega) (by omega)
 obtain ⟨s1, s2⟩ := num_itoa (n := p.size) (by omega) (by omega)
 obtain ⟨j1, j2⟩ := kix_kind h2
 have hsp : Lib.split (Lib.join ((mrkP p).map partS) [32]) [32] = [p.pan, kindsL.getD p.kind.toNat [], Lib.itoa p.x, Lib.itoa p.y, Lib.itoa p.size] := by
  rw [mrk_w]
  refine split_join (by simp) fun w hw => ?_
  simp only [List.mem_cons, List.not_mem_nil, or_false] at hw
  rcases hw with rfl | rfl | rfl | rfl | rfl
  · exact k1
  · exact (kind_no _).1
  · exact itoa_32 _
  · exact itoa_32 _
  · exact itoa_32 _
 have hw : wrdsOk [p.pan, kindsL.getD p.kind.toNat [], Lib.itoa p.x, Lib.itoa p.y, Lib.itoa p.size] = true := by
  unfold wrdsOk
  have a1 := itoa_ne p.x
  have a2 := itoa_ne p.y
  have a3 := itoa_ne p.size
  simp only [Bool.not_eq_true', decide_eq_false_iff_not, List.mem_cons, List.not_mem_nil, or_false, not_or]
  exact ⟨fun q => k2 q.symm, fun q => j2 q.symm, fun q => a1 q.symm, fun q => a2 q.symm, fun q => a3 q.symm⟩
 unfold tkMrk
 rw [hsp, hw]
 have e1 : List.getD [p.pan, kindsL.getD p.kind.toNat [], Lib.itoa p.x, Lib.itoa p.y, Lib.itoa p.size] 1 [] = kindsL.getD p.kind.toNat [] := rfl
 have e0 : List.getD [p.pan, kindsL.getD p.kind.toNat [], Lib.itoa p.x, Lib.itoa p.y, Lib.itoa p.size] 0 [] = p.pan := rfl
 have e2 : List.drop 2 [p.pan, kindsL.getD p.kind.toNat [], Lib.itoa p.x, Lib.itoa p.y, Lib.itoa p.size] = [Lib.itoa p.x, Lib.itoa p.y, Lib.itoa p.size] := rfl
 have e3 : List.getD (List.map numN [Lib.itoa p.x, Lib.itoa p.y, Lib.itoa p.size]) 0 0 = numN (Lib.itoa p.x) := rfl
 have e4 : List.getD (List.map numN [Lib.itoa p.x, Lib.itoa p.y, Lib.itoa p.size]) 1 0 = numN (Lib.itoa p.y) := rfl
 have e5 : List.getD (List.map numN [Lib.itoa p.x, Lib.itoa p.y, Lib.itoa p.size]) 2 0 = numN (Lib.itoa p.size) := rfl
 have e6 : List.all [Lib.itoa p.x, Lib.itoa p.y, Lib.itoa p.size] numOk = true := by simp [x2, y2, s2]
 rw [e1, e0, e2, e3, e4, e5, e6, x1, y1, s1, j1]
 have e7 : decide (1 ≤ p.kind) = true := by simp; omega
 simp [e7]
theorem five {W : List (List UInt8)} (h : W.length = 5) : W = [W.getD 0 [], W.getD 1 [], W.getD 2 [], W.getD 3 [], W.getD 4 []] := by
 match W, h with
 | [a, b, c, d, e], _ => rfl
theorem mrk_fwd (line : List UInt8) (l : List Mrk) (h : (tkMrk line l).1 = true) : ∃ p, (tkMrk line l).2 = l ++ [p] ∧ Lib.join ((mrkP p).map partS) [32] = line := by
 have hb := split_back 32 line
 unfold tkMrk at h ⊢
 generalize Lib.split line [32] = W at *
 cases hc : ((wrdsOk W && decide (W.length = 5)) && ((W.drop 2).all numOk && decide (1 ≤ kix (W.getD 1 [])))) with
 | false => rw [hc] at h; cases h
 | true =>
   rw [Bool.and_eq_true, Bool.and_eq_true, Bool.and_eq_true] at hc
   obtain ⟨⟨_, h5⟩, hn, hk⟩ := hc
   have h5 : W.length = 5 := of_decide_eq_true h5
   have hk : 1 ≤ kix (W.getD 1 []) := of_decide_eq_true hk
   have hw := five h5
   generalize W.getD 0 [] = w0 at *
   generalize W.getD 1 [] = w1 at *
   generalize W.getD 2 [] = w2 at *
   generalize W.getD 3 [] = w3 at *
   generalize W.getD 4 [] = w4 at *
   subst hw
   rw [cond_true]
   refine ⟨_, rfl, ?_⟩
   rw [mrk_w, ← hb]
   have hn2 : numOk w2 = true ∧ numOk w3 = true ∧ numOk w4 = true := by simpa using hn
   have hki : kindsL.getD (kix w1).toNat [] = w1 := by
    have := (ixF_bd (p := fun i => kindsL.getD i [] == w1) (n := kindsL.length)).2.2 (by show 0 ≤ kix w1; omega)
    exact eq_of_beq this
   have f2 := itoa_num hn2.1
   have f3 := itoa_num hn2.2.1
   have f4 := itoa_num hn2.2.2
   show Lib.join [w0, kindsL.getD (kix w1).toNat [], Lib.itoa (numN w2), Lib.itoa (numN w3), Lib.itoa (numN w4)] [32] = _
   rw [hki, f2, f3, f4]
theorem lnB_mrk {p : Mrk} (h : mrkQ p) : (lnB (mrkP p)).length ≤ 2^7 := by
 obtain ⟨h1, h2, h3, h4, h5⟩ := h
 have k := (key_no h1).2.2
 have e1 := itoa_len (n := p.x) (by omega) (by omega)
 have e2 := itoa_len (n := p.y) (by omega) (by omega)
 have e3 := itoa_len (n := p.size) (by omega) (by omega)
 have e4 := kinds_len p.kind.toNat
 unfold lnB
 rw [mrk_w]
 simp only [join_cc, Lib.join_one, List.length_append, List.length_cons, List.length_nil]
 omega
theorem mrks_back {l : List Mrk} (h : mrksE l = 0) : redF tkMrk mrksE (txF mrkP l) = (l, 0, 0) ∧ (txF mrkP l).length ≤ 7680 := by
 obtain ⟨h1, h2⟩ := mrkQ_of h
 have h3 := txF_le (pf := mrkP) (l := l) (fun p hp => lnB_mrk (h2 p hp))
 have h4 : l.length * 2^7 ≤ 60 * 2^7 := Nat.mul_le_mul_right _ h1
 exact ⟨redF_back mrk_ln10 mrk_tk h2 h (by omega), by omega⟩
theorem mrks_fwd {t : List UInt8} (h : (redF tkMrk mrksE t).2.2 = 0) : mrksE (redF tkMrk mrksE t).1 = 0 ∧ txF mrkP (redF tkMrk mrksE t).1 = t := redF_fwd mrk_fwd h
theorem mrkQ_1 {p : Mrk} (h : mrkQ p) : mrk1 p := by
 obtain ⟨h1, h2, h3, h4, h5⟩ := h
 have k := (key_no h1).2.2
 exact ⟨⟨by omega, by omega⟩, ⟨by omega, by omega⟩, ⟨by omega, by omega⟩, by omega, by omega⟩
def oXDNtA175_8 : List (Nat × List Nat) := [(0, []), (1, []), (2, []), (3, []), (4, []), (5, [3, 4]), (6, [3, 4, 5]), (7, [3, 4, 5]), (8, [3, 4]), (9, [3, 4]), (10, [3, 4]), (11, []), (12, []), (13, [])]
def oXDNtA107_1 : List (Nat × List Nat) := [(0, []), (2, [0]), (3, [0]), (5, [0, 2, 3]), (7, [0, 2, 3, 5]), (8, [0, 2, 3, 5, 7]), (9, [0, 2, 3, 5, 7]), (10, [0, 2, 3, 5]), (1, [2, 3, 5, 7, 8, 9, 10]), (4, [5, 7, 8, 9, 10]), (6, [7, 8, 9, 10]), (11, []), (12, []), (13, []), (14, [])]
def oXDNtA107_5 : List (Nat × List Nat) := [(0, []), (1, []), (2, [0, 1]), (3, [0, 1, 2]), (4, [0, 1, 2]), (5, [0, 1]), (6, [0, 1]), (7, [0, 1, 2, 3, 4, 5, 6]), (8, [0, 1, 2, 3, 4, 5, 6]), (9, [0, 1]), (10, [0, 1, 2, 3, 4, 5, 6, 7, 8, 9]), (11, [0, 1, 2, 3, 4, 5, 6, 7, 8, 9]), (12, [0, 1]), (13, []), (14, []), (15, [])]
structure Ntr where
 name : Int
 pay : Int
 step : Int
 late : Int
def ntrF : Ntr → List DV := fun r => [.int .i64 r.name, .int .i64 r.pay, .int .i64 r.step, .int .i64 r.late]
structure Ntc where
 key : List UInt8
 plate : List UInt8
 tm : Int
 came : Int
 cents : Int
def ntcF : Ntc → List DV := fun n => [.str n.key, .str n.plate, .int .i64 n.tm, .int .i64 n.came, .int .i64 n.cents]
def ntc0 : Ntc := ⟨[], [], 0, 0, 0⟩
abbrev ntcs (l : List Ntc) : DV := seqD 5 ntcF ntc0 l
def ntrE (r : Ntr) : Int := if (0 ≤ r.name ∧ r.name ≤ 4000) ∧ (0 ≤ r.pay ∧ r.pay ≤ 4000) ∧ (1 ≤ r.step ∧ r.step ≤ 4000) ∧ (0 ≤ r.late ∧ r.late ≤ 1000000) then 0 else 1
def ntcE (l : List Ntc) (i : Nat) : Int :=
 if isKeyB (l.getD i ntc0).key = false then 5 else if 0 < i ∧ strLe (l.getD i ntc0).key (l.getD (i - 1) ntc0).key = true then 7 else if isPlateB (l.getD i ntc0).plate = false then 3
 else if ¬ ((0 ≤ (l.getD i ntc0).tm ∧ (l.getD i ntc0).tm ≤ (l.getD i ntc0).came) ∧ (0 ≤ (l.getD i ntc0).came ∧ (l.getD i ntc0).came ≤ 5761439) ∧ (0 ≤ (l.getD i ntc0).cents ∧ (l.getD i ntc0).cents ≤ 1000000)) then 1 else 0
def ntcsE (l : List Ntc) : Int := if 200 < l.length then 2 else firstAt (ntcE l) l.length
def ntK (n : Ntc) : Prop := n.key.length ≤ 2^40 ∧ n.plate.length ≤ 2^40
def ntOk (l : List Ntc) : Prop := l.length ≤ 2^40 ∧ ∀ x ∈ l, ntK x
theorem sNtRules (r : Ntr) : FSpec Tryz.prog 174 [.agg ((ntrF r).map .d)] [] (fun x o => x = .d (.int .i64 (ntrE r)) ∧ o = []) := by
 refine spec_of hT (C := []) Tryz.func174 rfl Tryz.call174 rfl rfl rfl ?_
 conv => whnf
 repeat' (first | (refine CallX.exact (s119 _ _ _) rfl rfl ?_; rotate_right; conv => whnf) | (refine CallX.exact (s107 _ _) rfl rfl ?_; rotate_right; conv => whnf) | (refine br_intro ?_ ?_ <;> intro hb <;> (try simp only [brs] at hb) <;> conv => whnf) | omega | (refine And.intro ?_ ?_; ((try dsimp only); first | omega | (refine szA rfl ?_; omega) | (refine szB rfl ?_; omega) | (unfold inI64; omega) | exact rfl | (simp only [List.toList_toArray, List.length_cons, List.length_nil]; omega) | (simp only [lns] at *; omega) | decide | (unfold inI64; decide)); conv => whnf) | decide | assumption)
 all_goals
  refine .ret _ ?_
  conv => whnf
  refine ⟨[], ⟨?_, rfl⟩, trivial⟩
  conv => lhs; whnf
  congr 2
  unfold ntrE; grind
theorem sMoment (n : Int) : FSpec Tryz.prog 176 [.d (.int .i64 n)] [] (fun x o => x = .d (.int .i64 (if 0 ≤ n ∧ n ≤ 5761439 then 0 else 1)) ∧ o = []) := by
 refine spec_of hT (C := []) Tryz.func176 rfl Tryz.call176 rfl rfl rfl ?_
 conv => whnf
 repeat' (first | (refine CallX.exact (s154 _) rfl rfl ?_; rotate_right; conv => whnf) | (refine CallX.exact (s107 _ _) rfl rfl ?_; rotate_right; conv => whnf) | (refine br_intro ?_ ?_ <;> intro hb <;> (try simp only [brs] at hb) <;> conv => whnf) | omega | (refine And.intro ?_ ?_; ((try dsimp only); first | omega | (refine szA rfl ?_; omega) | (refine szB rfl ?_; omega) | (unfold inI64; omega) | exact rfl | (simp only [List.toList_toArray, List.length_cons, List.length_nil]; omega) | (simp only [lns] at *; omega) | decide | (unfold inI64; decide)); conv => whnf) | decide | assumption)
 refine .ret _ ?_
 conv => whnf
 refine ⟨[], ⟨?_, rfl⟩, trivial⟩
 conv => lhs; whnf
 congr 2
 grind
theorem sNotices (l : List Ntc) (hk : ntOk l) : FSpec Tryz.prog 175 [.d (ntcs l)] [] (fun x r => x = .d (.int .i64 (ntcsE l)) ∧ r = []) := by
 refine spec_of hT (C := []) Tryz.func175 rfl Tryz.call175 rfl rfl rfl ?_
 conv => whnf
 refine br_intro (fun h0 => ?_) (fun h0 => ?_)
 · simp at h0
   conv => whnf
   refine .ret _ ?_
   conv => whnf
   refine ⟨[], ⟨?_, rfl⟩, trivial⟩
   conv => lhs; whnf
   unfold ntcsE; rw [if_pos (by omega)]
 simp at h0
 conv => whnf
 refine LoopX.rule hT (C := []) (ι := Nat) (fun i => i ≤ l.length ∧ ∀ j, j < i → ntcE l j = 0) (fun i => mkSt [(0, .d (ntcs l)), (8, .d (ntcs l)), (9, .d (.int .i64 l.length)), (10, .d (.int .i64 i))] []) (fun i => l.length - i) 0 ⟨by omega, by omega⟩ (by (refine Entails.mk' [] rfl rfl ?_ ?_ <;> repeat' (first | exact True.intro | exact lr | exact rr | exact SV.le_int (by omega) | exact SV.le_any _ | refine And.intro ?_ ?_)); done) ?_
 rintro i ⟨p1, p2⟩
 have hx : (i : Int) < l.length → ntK (l.getD (i : Int).toNat ntc0) := fun hi => hk.2 _ (getD_mem (by omega))
 have e1 : (i : Int).toNat = i := Int.toNat_natCast i
 have hbad : ∀ e : Int, i < l.length → e ≠ 0 → ntcE l i = e → ntcsE l = e := fun e h h1 h2 => by
  unfold ntcsE; rw [if_neg (by omega)]
  exact firstAt_eq h p2 h1 h2
 conv => whnf
 repeat' (first | (refine CallX.exact (s108 _ (hx (by omega)).1) rfl rfl ?_; rotate_right; conv => whnf) | (refine CallX.exact (s185 _ (hx (by omega)).2) rfl rfl ?_; rotate_right; conv => whnf) | (refine CallX.exact (s119 _ _ _) rfl rfl ?_; rotate_right; conv => whnf) | (refine CallX.exact (s154 _) rfl rfl ?_; rotate_right; conv => whnf) | (refine br_intro ?_ ?_ <;> intro hb <;> (try simp only [brs] at hb) <;> conv => whnf) | (refine RegX.rule (id := 8) hT rfl [] oXDNtA175_8 (by decide +kernel) ?_; conv => whnf) | omega | (refine And.intro ?_ ?_; ((try dsimp only); first | omega | (refine szA rfl ?_; omega) | (refine szB rfl ?_; omega) | (unfold inI64; omega) | exact rfl | (simp only [List.toList_toArray, List.length_cons, List.length_nil]; omega) | (simp only [lns] at *; omega) | decide | (unfold inI64; decide)); conv => whnf) | decide | assumption)
 all_goals first
  | (refine ⟨i + 1, ⟨by omega, first_step p2 (by clear p2 hbad hk hx; simp only [e1, toNat_pred] at *; unfold ntcE strLe; grind)⟩, by omega, (by (refine Entails.mk' [] rfl rfl ?_ ?_ <;> repeat' (first | exact True.intro | exact lr | exact rr | exact SV.le_int (by omega) | exact SV.le_any _ | refine And.intro ?_ ?_)); done)⟩)
  | (refine .ret _ ?_
     conv => whnf
     refine ⟨[], ⟨?_, rfl⟩, trivial⟩
     conv => lhs; whnf
     congr 2
     first
      | exact (hbad _ (by omega) (by decide) (by clear p2 hbad hk hx; simp only [e1, toNat_pred] at *; unfold ntcE strLe; grind)).symm
      | (have : i = l.length := by omega
         subst this
         unfold ntcsE; rw [if_neg (by omega), firstAt_zero p2]))
def dueE (r : Ntr) (n : Ntc) (t : Int) : Int := firstE [ntrE r, ntcsE [n], if 0 ≤ t ∧ t ≤ 5761439 then 0 else 1, if t < n.came then 11 else 0]
def dueO (r : Ntr) (n : Ntc) (t : Int) : Int := (max 0 (t.tdiv 1440 - n.came.tdiv 1440 - r.pay) + r.step - 1).tdiv r.step
def dueV (r : Ntr) (n : Ntc) (t : Int) : Int := n.cents + dueO r n t * r.late
theorem ntc_one {n : Ntc} (h : ntcsE [n] = 0) : isKeyB n.key = true ∧ isPlateB n.plate = true ∧ (0 ≤ n.tm ∧ n.tm ≤ n.came) ∧ (0 ≤ n.came ∧ n.came ≤ 5761439) ∧ (0 ≤ n.cents ∧ n.cents ≤ 1000000) := by
 have h : ntcE [n] 0 = 0 := by simpa [ntcsE, firstAt] using h
 unfold ntcE at h
 simp only [List.getD_cons_zero] at h
 grind
theorem ntr_zero {r : Ntr} (h : ntrE r = 0) : (0 ≤ r.name ∧ r.name ≤ 4000) ∧ (0 ≤ r.pay ∧ r.pay ≤ 4000) ∧ (1 ≤ r.step ∧ r.step ≤ 4000) ∧ (0 ≤ r.late ∧ r.late ≤ 1000000) := by unfold ntrE at h; grind
theorem dueE_zero {r : Ntr} {n : Ntc} {t : Int} (h : dueE r n t = 0) : ntrE r = 0 ∧ ntcsE [n] = 0 ∧ (0 ≤ t ∧ t ≤ 5761439) ∧ n.came ≤ t := by
 unfold dueE at h
 simp only [firstE] at h
 grind
theorem mul_bdN {a b A B : Int} (h0 : 0 ≤ a) (h1 : a ≤ A) (h2 : 0 ≤ b) (h3 : b ≤ B) : 0 ≤ a * b ∧ a * b ≤ A * B :=
 ⟨Int.mul_nonneg h0 h2, Int.mul_le_mul h1 h3 h2 (by omega)⟩
theorem tdiv_bd {a b : Int} (h0 : 0 ≤ a) (h1 : 1 ≤ b) : 0 ≤ a.tdiv b ∧ a.tdiv b ≤ a := by
 refine ⟨Int.tdiv_nonneg h0 (by omega), ?_⟩
 have h4 := Int.tmod_add_mul_tdiv a b
 have h2 : 0 ≤ a.tmod b := Int.tmod_nonneg _ h0
 have h5 : a.tdiv b * 1 ≤ a.tdiv b * b := Int.mul_le_mul_of_nonneg_left h1 (Int.tdiv_nonneg h0 (by omega))
 rw [Int.mul_comm] at h4
 omega
theorem dueO_bd {r : Ntr} {n : Ntc} {t : Int} (h1 : ntrE r = 0) (hc : 0 ≤ n.came) (ht : n.came ≤ t) (ht2 : t ≤ 5761439) : 0 ≤ dueO r n t ∧ dueO r n t ≤ 10000 := by
 obtain ⟨_, h2, h3, _⟩ := ntr_zero h1
 unfold dueO
 have a1 := tdiv_bd (a := t) (b := 1440) (by omega) (by omega)
 have a2 := tdiv_bd (a := n.came) (b := 1440) (by omega) (by omega)
 have h4 := Int.tmod_add_mul_tdiv t 1440
 have h5 : 0 ≤ t.tmod 1440 := Int.tmod_nonneg _ (by omega)
 obtain ⟨q, hq⟩ : ∃ q, q = max 0 (t.tdiv 1440 - n.came.tdiv 1440 - r.pay) + r.step - 1 := ⟨_, rfl⟩
 have hq0 : 0 ≤ q ∧ q ≤ 10000 := by omega
 rw [← hq]
 have := tdiv_bd hq0.1 h3.1
 omega
def dueW (r : Ntr) (n : Ntc) (t : Int) : SV := if dueE r n t = 0 then .tup [.d (.int .i64 (dueV r n t)), .d (.int .i64 0)] else .tup [.d (.int .i64 0), .d (.int .i64 (dueE r n t))]
theorem ntOk_one {n : Ntc} (h : ntK n) : ntOk [n] := ⟨by simp, fun x hx => by rw [List.mem_singleton] at hx; rw [hx]; exact h⟩
theorem sDue (r : Ntr) (n : Ntc) (t : Int) (hn : ntK n) : FSpec Tryz.prog 107 [.agg ((ntrF r).map .d), .agg ((ntcF n).map .d), .d (.int .i64 t)] [] (fun x o => x = dueW r n t ∧ o = []) := by
 have h105 := s105 [ntrE r, ntcsE [n], if 0 ≤ t ∧ t ≤ 5761439 then 0 else 1, if decide (t < n.came) = true then 11 else 0] (by simp)
 have hE : firstE [ntrE r, ntcsE [n], if 0 ≤ t ∧ t ≤ 5761439 then 0 else 1, if decide (t < n.came) = true then 11 else 0] = dueE r n t := by
  unfold dueE; simp only [decide_eq_true_eq]
 rw [hE] at h105
 unfold dueW
 by_cases hz : dueE r n t = 0
 · rw [if_pos hz]
   rw [hz] at h105
   obtain ⟨h1, h2, h3, h4⟩ := dueE_zero hz
   obtain ⟨_, _, _, h5, h6⟩ := ntc_one h2
   obtain ⟨_, h7, h8, h9⟩ := ntr_zero h1
   have hO := dueO_bd h1 h5.1 h4 h3.2
   have hM := mul_bdN hO.1 hO.2 h9.1 h9.2
   have a1 := tdiv_bd (a := t) (b := 1440) (by omega) (by omega)
   have a2 := tdiv_bd (a := n.came) (b := 1440) (by omega) (by omega)
   have hM1 : inI64 (dueO r n t * r.late) := by unfold inI64; omega
   have hM2 : inI64 (dueV r n t) := by unfold dueV inI64; omega
   have hq : inI64 (max 0 (t.tdiv 1440 - n.came.tdiv 1440 - r.pay) + r.step) := by unfold inI64; omega
   have hq2 : inI64 (max 0 (t.tdiv 1440 - n.came.tdiv 1440 - r.pay) + r.step - 1) := by unfold inI64; omega
   have hq3 : inI64 (dueO r n t) := by unfold inI64; omega
   refine spec_of hT (C := []) Tryz.func107 rfl Tryz.call107 rfl rfl rfl ?_
   conv => whnf
   repeat' (first | (refine CallX.exact (sNtRules r) rfl rfl ?_; rotate_right; conv => whnf) | (refine CallX.pure (sNotices [n] (ntOk_one hn)) ⟨SV.le_lit (by rfl) (by rfl), trivial⟩ rfl ?_; conv => whnf) | (refine CallX.exact (sMoment t) rfl rfl ?_; rotate_right; conv => whnf) | (refine CallX.exact (s107 _ _) rfl rfl ?_; rotate_right; conv => whnf) | (refine CallX.pure h105 ⟨SV.le_lit (by rfl) (by rfl), trivial⟩ rfl ?_; conv => whnf) | (refine And.intro hq ?_; conv => whnf) | (refine And.intro hq2 ?_; conv => whnf) | (refine And.intro hq3 ?_; conv => whnf) | (refine And.intro hM1 ?_; conv => whnf) | (refine And.intro hM2 ?_; conv => whnf) | (refine br_intro ?_ ?_ <;> intro hb <;> (try simp only [brs] at hb) <;> conv => whnf) | (refine RegX.rule (id := 1) hT rfl [] oXDNtA107_1 (by decide +kernel) ?_; conv => whnf) | (refine RegX.rule (id := 5) hT rfl [] oXDNtA107_5 (by decide +kernel) ?_; conv => whnf) | omega | (refine And.intro ?_ ?_; ((try dsimp only); first | omega | (refine szA rfl ?_; omega) | (refine szB rfl ?_; omega) | (unfold inI64; omega) | exact rfl | (simp only [List.toList_toArray, List.length_cons, List.length_nil]; omega) | (simp only [lns] at *; omega) | decide | (unfold inI64; decide)); conv => whnf) | decide | assumption)
   refine .ret _ ?_
   conv => whnf
   refine ⟨[], ⟨congrArg SV.tup ?_, rfl⟩, trivial⟩
   repeat' (refine cons_eq ?_ ?_)
   all_goals (conv => lhs; whnf)
   all_goals try (with_reducible rfl)
   all_goals rfl
 · rw [if_neg hz]
   generalize dueE r n t = e at h105 hz
   refine spec_of hT (C := []) Tryz.func107 rfl Tryz.call107 rfl rfl rfl ?_
   conv => whnf
   repeat' (first | (refine CallX.exact (sNtRules r) rfl rfl ?_; rotate_right; conv => whnf) | (refine CallX.pure (sNotices [n] (ntOk_one hn)) ⟨SV.le_lit (by rfl) (by rfl), trivial⟩ rfl ?_; conv => whnf) | (refine CallX.exact (sMoment t) rfl rfl ?_; rotate_right; conv => whnf) | (refine CallX.exact (s107 _ _) rfl rfl ?_; rotate_right; conv => whnf) | (refine CallX.pure h105 ⟨SV.le_lit (by rfl) (by rfl), trivial⟩ rfl ?_; conv => whnf) | (refine br_intro ?_ ?_ <;> intro hb <;> (try simp only [brs] at hb) <;> conv => whnf) | (refine RegX.rule (id := 1) hT rfl [] oXDNtA107_1 (by decide +kernel) ?_; conv => whnf) | (refine RegX.rule (id := 5) hT rfl [] oXDNtA107_5 (by decide +kernel) ?_; conv => whnf) | omega | (refine And.intro ?_ ?_; ((try dsimp only); first | omega | (refine szA rfl ?_; omega) | (refine szB rfl ?_; omega) | (unfold inI64; omega) | exact rfl | (simp only [List.toList_toArray, List.length_cons, List.length_nil]; omega) | (simp only [lns] at *; omega) | decide | (unfold inI64; decide)); conv => whnf) | decide | assumption)
   refine .ret _ ?_
   conv => whnf
   refine ⟨[], ⟨congrArg SV.tup ?_, rfl⟩, trivial⟩
   repeat' (refine cons_eq ?_ ?_)
   all_goals (conv => lhs; whnf)
   all_goals try (with_reducible rfl)
   all_goals rfl
end Go.Proofs.YtgeakdcbpjmkbaaGreatDoor
namespace Go.Proofs
open Go.Shelf
def Tryz.laysGrowE_ren : Go.Shelf.Ren := ⟨fun | 4 => 205 | n => n, fun | 22 => 26 | 25 => 39 | 3 => 3 | 4 => 4 | 9 => 9 | 20 => 20 | 0 => 0 | n => n, fun | n => n⟩
theorem Tryz.laysGrowE : Go.Proofs.Lays8.n4 Tryz.prog Tryz.laysGrowE_ren := {
 mixed := by kernel_rfl
 f4 := ⟨Tryz.f205.name, by decide, Tryz.func205.trans (congrArg some (by kernel_rfl))⟩
 t0 := Tryz.underlying0
 a0 := Tryz.isAgg0
 z0 := Tryz.sizeOf0
 v0 := Tryz.zeroValue0
 t3 := Tryz.underlying3
 a3 := Tryz.isAgg3
 z3 := Tryz.sizeOf3
 v3 := Tryz.zeroValue3
 t4 := Tryz.underlying4
 a4 := Tryz.isAgg4
 z4 := Tryz.sizeOf4
 v4 := Tryz.zeroValue4
 t9 := Tryz.underlying9
 a9 := Tryz.isAgg9
 z9 := Tryz.sizeOf9
 v9 := Tryz.zeroValue9
 t20 := Tryz.underlying20
 a20 := Tryz.isAgg20
 z20 := Tryz.sizeOf20
 v20 := Tryz.zeroValue20
 t22 := Tryz.underlying26
 a22 := Tryz.isAgg26
 z22 := Tryz.sizeOf26
 v22 := Tryz.zeroValue26 }
end Go.Proofs
set_option maxRecDepth 20000
namespace Go.Proofs.YtgeakdcbpjmkbaaGreatDoor
open Go Go.Eng Go.RowKit
structure Ent where
 tm : Int
 desk : List UInt8
 no : Int
 words : List UInt8
def enF : Ent → List DV := fun x => [.int .i64 x.tm, .str x.desk, .int .i64 x.no, .str x.words]
def en0 : Ent := ⟨0, [], 0, []⟩
abbrev ents (l : List Ent) : DV := seqD 4 enF en0 l
theorem sGrowE (n : Nat) (hn : n ≤ 2^20) : FSpec Tryz.prog 205 [.d .nilsl, .d (.int .i64 n)] [] (fun y r => y = .buf 1000001 ∧ r = [(1000001, .buf 39 4 0 fun _ => [])]) := by
 refine FSpec.ofRow (by decide) Tryz.call205 (fun G β w vs _ hl hd => ?_)
 match vs, hl with
 | [u, v], _ =>
   have hu := hd 0 _ _ rfl rfl
   have hv := hd 1 _ _ rfl rfl
   cases hu with | d _ _ hu => cases hu with | nilsl =>
   cases hv with | d _ _ hv => cases hv with | int _ _ =>
   by_cases h0 : n = 0
   · subst h0
     refine (Go.Proofs.Any8.slices_Grow_room Go.Proofs.Tryz.laysGrowE none 0 0 0 w (by decide) (by decide) (by decide) (by decide)).mono ?_
     rintro e w' ⟨rfl, rfl⟩
     exact ⟨Below.refl _ _, _, rfl, .inl rfl⟩
   · obtain ⟨_, inf, hi, hsz, hby, hz⟩ := hT.get (t := 39) (i := (T 39).get rfl) rfl
     have hg1 := grownCap_ge w (0 + n) 0 39
     have hg2 := grownCap_le_maxLen w (0 + n) 0 39 (by simp only [maxLen]; omega)
     refine (Go.Proofs.Any8.slices_Grow_grow Go.Proofs.Tryz.laysGrowE inf _ hi hz (by rw [hsz]; decide) none 0 0 n [] w (Nat.le_refl _) (by omega) (by rw [hby]; show (0 + n) * 48 ≤ _; omega) (by omega) (by simp) (fun _ => rfl) (fun a h => by cases h)).mono ?_
     rintro e w' ⟨rfl, rfl⟩
     refine ⟨⟨rfl, rfl, rfl, ?_, fun b hb => ?_⟩, _, rfl, .inr ⟨_, _, _, rfl, Nat.le_refl _, Array.getElem?_push_size, hg2, ?_⟩⟩
     · show w.heap.size ≤ (w.heap.push _).size
       rw [Array.size_push]; omega
     · show (w.heap.push _)[b]? = w.heap[b]?
       rw [Array.getElem?_push]; exact if_neg (by omega)
     · rw [Array.size_append, Array.size_append, size_zeroCells, size_zeroCells]
       show 0 + (0 + n - 0) * 4 + (grownCap w (0 + n) 0 39 - (0 + n)) * 4 = grownCap w (0 + n) 0 39 * 4
       omega
def oXDRdB64_16 : List (Nat × List Nat) := [(0, []), (1, []), (2, []), (3, []), (4, [3]), (5, [3]), (6, []), (7, []), (8, [3, 4, 5, 6, 7]), (9, []), (10, []), (11, []), (12, [])]
def oXDRdB198_4 : List (Nat × List Nat) := [(0, []), (1, [0]), (2, []), (3, []), (4, []), (5, [4]), (6, [4, 5]), (7, [4]), (8, [4]), (9, [4, 5, 6, 7, 8]), (10, [4, 5, 6, 7, 8, 9]), (11, [4, 5, 6, 7, 8, 9]), (12, [4, 5, 6, 7, 8]), (13, [4, 5, 6, 7, 8]), (14, []), (15, []), (16, [])]
def oXDRdB198_6 : List (Nat × List Nat) := [(0, []), (1, [0]), (2, [0, 1]), (3, [0, 1, 2]), (4, [0, 1, 2]), (5, [0, 1, 2, 3, 4]), (6, [0, 1, 2, 3, 4, 5]), (7, [0, 1, 2, 3, 4, 5]), (8, [0, 1, 2, 3, 4]), (9, [0, 1, 2, 3, 4]), (10, [0, 1, 2, 3, 4, 5, 6, 7, 8, 9]), (11, [0, 1, 2, 3, 4, 5, 6, 7, 8, 9, 10]), (12, [0, 1, 2, 3, 4, 5, 6, 7, 8, 9]), (13, [0, 1, 2, 3, 4, 5, 6, 7, 8, 9]), (14, [2, 3, 4]), (15, [2, 3, 4]), (16, []), (17, [])]
def oXDRdB160_6 : List (Nat × List Nat) := [(0, []), (1, [0]), (2, []), (3, []), (4, [0, 1, 2, 3]), (5, [0, 1, 2, 3, 4]), (6, [0, 1, 2, 3, 4]), (7, [0, 1, 2, 3]), (8, [0, 1, 2, 3]), (9, [])]
def oXDRdB160_11 : List (Nat × List Nat) := [(0, []), (1, [0]), (2, []), (3, []), (4, [0, 1, 2, 3]), (5, [0, 1, 2, 3, 4]), (6, [0, 1, 2, 3, 4]), (7, [0, 1, 2, 3]), (8, [0, 1, 2, 3]), (9, [])]
def esF : List Ent → List DV := fun l => [ents l]
abbrev entss (l : List (List Ent)) : DV := seqD 1 esF [] l
def lensE (l : List (List Ent)) : Nat := (l.map List.length).sum
theorem lensE_take {l : List (List Ent)} {i : Nat} (h : i < l.length) : lensE (l.take (i + 1)) = lensE (l.take i) + (l.getD i []).length := by
 unfold lensE; rw [take_snocD (d := []) h]; simp
theorem lensE_le {l : List (List Ent)} {i : Nat} : lensE (l.take i) ≤ lensE l := by
 have h := congrArg lensE (List.take_append_drop i l)
 have h2 : lensE (l.take i ++ l.drop i) = lensE (l.take i) + lensE (l.drop i) := by unfold lensE; rw [List.map_append, List.sum_append]
 omega
theorem flat_lenE (l : List (List Ent)) : l.flatten.length = lensE l := by
 unfold lensE; rw [List.length_flatten]
theorem sConcatE (l : List (List Ent)) (hl : l.length ≤ 2^20) (hn : lensE l ≤ 2^20) :
 FSpec Tryz.prog 156 [.d (entss l)] [] (fun y r => y = .buf 6 ∧ r = [(6, seqB 39 4 enF en0 l.flatten)]) := by
 refine spec_of hT (C := []) Tryz.func156 rfl Tryz.call156 rfl rfl rfl ?_
 conv => whnf
 refine LoopX.rule hT (C := []) (ι := Nat) (fun i => i ≤ l.length) (fun i => mkSt [(0, .d (entss l)), (3, .d (.int .i64 (lensE (l.take i)))), (9, .d (entss l)), (10, .d (.int .i64 l.length)), (11, .d (.int .i64 i))] []) (fun i => l.length - i) 0 (by omega) (by (refine Entails.mk' [] rfl rfl ?_ ?_ <;> repeat' (first | exact True.intro | exact lr | exact rr | exact SV.le_int (by omega) | exact SV.le_any _ | refine And.intro ?_ ?_)); done) ?_
 rintro i p1
 have e1 : (i : Int).toNat = i := Int.toNat_natCast i
 have hls : lensE (l.take i) ≤ lensE l := lensE_le
 have hls2 : i < l.length → lensE (l.take i) + (l.getD (i : Int).toNat []).length ≤ lensE l := fun h => by rw [e1, ← lensE_take h]; exact lensE_le
 conv => whnf
 repeat' (first | (refine br_intro ?_ ?_ <;> intro hb <;> (try simp only [brs] at hb) <;> conv => whnf) | omega | (refine And.intro ?_ ?_; ((try dsimp only); first | omega | (refine szA rfl ?_; omega) | (refine szB rfl ?_; omega) | (unfold inI64; omega) | exact rfl | (simp only [List.toList_toArray, List.length_cons, List.length_nil]; omega) | (simp only [lns] at *; omega) | decide | (unfold inI64; decide)); conv => whnf) | decide | assumption)
 · refine ⟨i + 1, by omega, by omega, Entails.mk' [] rfl rfl ⟨lr, SV.le_int ?_, lr, lr, lr, trivial⟩ trivial⟩
   rw [lensE_take (by omega), e1]; omega
 have hi : i = l.length := by omega
 subst hi
 rw [List.take_length] at *
 refine CallX.of (sGrowE (lensE l) hn) [(1000001, 24)] rfl ⟨lr, lr, trivial⟩ trivial rfl rfl ?_
 rintro x rout ⟨rfl, rfl⟩
 refine ⟨rfl, ?_⟩
 conv => whnf
 repeat' (first | (refine br_intro ?_ ?_ <;> intro hb <;> (try simp only [brs] at hb) <;> conv => whnf) | omega | (refine And.intro ?_ ?_; ((try dsimp only); first | omega | (refine szA rfl ?_; omega) | (refine szB rfl ?_; omega) | (unfold inI64; omega) | exact rfl | (simp only [List.toList_toArray, List.length_cons, List.length_nil]; omega) | (simp only [lns] at *; omega) | decide | (unfold inI64; decide)); conv => whnf) | decide | assumption)
 refine LoopX.rule hT (C := []) (ι := Nat) (fun i => i ≤ l.length) (fun i => mkSt [(6, .buf 6), (25, .d (entss l)), (26, .d (.int .i64 l.length)), (27, .d (.int .i64 i))] [(6, seqB 39 4 enF en0 (l.take i).flatten)]) (fun i => l.length - i) 0 (by omega) ?_ ?_
 · exact Entails.mk' [(6, 24)] rfl rfl ⟨lr, lr, lr, lr, trivial⟩ ⟨Res.le_buf rfl (fun i hi => absurd hi (by omega)), trivial⟩
 rintro i p1
 have e1 : (i : Int).toNat = i := Int.toNat_natCast i
 have hls : lensE (l.take i) ≤ lensE l := lensE_le
 have hf := flat_lenE (l.take i)
 have hls2 : (i : Int) < l.length → (l.take i).flatten.length + (l.getD (i : Int).toNat []).length ≤ 2^20 := fun h => by rw [e1, hf, ← lensE_take (by omega)]; exact Nat.le_trans lensE_le hn
 conv => whnf
 repeat' (first | (refine br_intro ?_ ?_ <;> intro hb <;> (try simp only [brs] at hb) <;> conv => whnf) | omega | (refine And.intro ?_ ?_; ((try dsimp only); first | omega | (refine szA rfl ?_; omega) | (refine szB rfl ?_; omega) | (unfold inI64; omega) | exact rfl | (simp only [List.toList_toArray, List.length_cons, List.length_nil]; omega) | (simp only [lns] at *; omega) | decide | (unfold inI64; decide)); conv => whnf) | decide | assumption)
 · have e2 : (l.take (i + 1)).flatten = (l.take i).flatten ++ l.getD (i : Int).toNat [] := by rw [take_snocD (d := []) (by omega), e1]; simp
   refine ⟨i + 1, by omega, by omega, Entails.mk' [(6, 33)] rfl rfl ⟨lr, lr, lr, lr, trivial⟩ ⟨?_, trivial⟩⟩
   rw [e2]; exact Res.le_appF
 · have hi : i = l.length := by omega
   subst hi
   refine .ret _ ?_
   conv => whnf
   refine ⟨_, ⟨rfl, rfl⟩, ?_, trivial⟩
   rw [List.take_length]; exact rr
def e1 : Ent := ⟨1, [100], 1, [120]⟩
theorem sPrinted1 : FSpec Tryz.prog 149 [.d (.str [120])] [] (fun x r => x = .d (.bool true) ∧ r = []) := by
 refine spec_of hT (C := []) Tryz.func149 rfl Tryz.call149 rfl rfl rfl ?_
 conv => whnf
 repeat' (first | (refine LoopX.run hT (C := []) 4 rfl [0, 5, 6] [] (fun _ _ h => h) (fun _ h => h) ?_; conv => whnf) | (refine br_intro ?_ ?_ <;> intro hb <;> (try simp only [brs] at hb) <;> conv => whnf) | omega | (refine And.intro ?_ ?_; ((try dsimp only); first | omega | (refine szA rfl ?_; omega) | (refine szB rfl ?_; omega) | (unfold inI64; omega) | exact rfl | (simp only [List.toList_toArray, List.length_cons, List.length_nil]; omega) | (simp only [lns] at *; omega) | decide | (unfold inI64; decide)); conv => whnf) | decide | assumption)
 refine .ret _ ?_
 conv => whnf
 refine ⟨[], ⟨?_, rfl⟩, trivial⟩
 conv => lhs; whnf
set_option maxHeartbeats 4000000 in
theorem sDChk1 : FSpec Tryz.prog 64 [.d (ents [e1])] [] (fun x r => x = .d (.int .i64 0) ∧ r = []) := by
 have h108 := s108 [100] (by simp)
 rw [show isKeyB [100] = true from by decide] at h108
 refine spec_of hT (C := []) Tryz.func64 rfl Tryz.call64 rfl rfl rfl ?_
 conv => whnf
 repeat' (first | (refine LoopX.run hT (C := []) 10 rfl [0, 3, 11, 12, 13] [] (fun _ _ h => h) (fun _ h => h) ?_; conv => whnf) | (refine CallX.exact (s154 1) rfl rfl ?_; rotate_right; conv => whnf) | (refine CallX.exact (h108) rfl rfl ?_; rotate_right; conv => whnf) | (refine CallX.exact (s119 1 1 1000000) rfl rfl ?_; rotate_right; conv => whnf) | (refine CallX.exact (sPrinted1) rfl rfl ?_; rotate_right; conv => whnf) | (refine br_intro ?_ ?_ <;> intro hb <;> (try simp only [brs] at hb) <;> conv => whnf) | (refine RegX.rule (id := 16) hT rfl [] oXDRdB64_16 (by decide +kernel) ?_; conv => whnf) | omega | (refine And.intro ?_ ?_; ((try dsimp only); first | omega | (refine szA rfl ?_; omega) | (refine szB rfl ?_; omega) | (unfold inI64; omega) | exact rfl | (simp only [List.toList_toArray, List.length_cons, List.length_nil]; omega) | (simp only [lns] at *; omega) | decide | (unfold inI64; decide)); conv => whnf) | decide | assumption)
 refine .ret _ ?_
 conv => whnf
 refine ⟨[], ⟨?_, rfl⟩, trivial⟩
 conv => lhs; whnf
theorem sDChk0 : FSpec Tryz.prog 64 [.d (ents [])] [] (fun x r => x = .d (.int .i64 0) ∧ r = []) := by
 refine spec_of hT (C := []) Tryz.func64 rfl Tryz.call64 rfl rfl rfl ?_
 conv => whnf
 repeat' (first | (refine LoopX.run hT (C := []) 10 rfl [0, 3, 11, 12, 13] [] (fun _ _ h => h) (fun _ h => h) ?_; conv => whnf) | (refine br_intro ?_ ?_ <;> intro hb <;> (try simp only [brs] at hb) <;> conv => whnf) | (refine RegX.rule (id := 16) hT rfl [] oXDRdB64_16 (by decide +kernel) ?_; conv => whnf) | omega | (refine And.intro ?_ ?_; ((try dsimp only); first | omega | (refine szA rfl ?_; omega) | (refine szB rfl ?_; omega) | (unfold inI64; omega) | exact rfl | (simp only [List.toList_toArray, List.length_cons, List.length_nil]; omega) | (simp only [lns] at *; omega) | decide | (unfold inI64; decide)); conv => whnf) | decide | assumption)
 refine .ret _ ?_
 conv => whnf
 refine ⟨[], ⟨?_, rfl⟩, trivial⟩
 conv => lhs; whnf
abbrev enB (l : List Ent) : Res := seqB 39 4 enF en0 l
theorem sIns1 : FSpec Tryz.prog 198 [.buf 1000001, .d (.int .i64 0), .d (.int .i64 1), .fn 157 []] [(1000001, enB [e1])] (fun y r => y = .tup [] ∧ r = [(1000001, enB [e1])]) := by
 refine spec_of hT (C := []) Tryz.func198 rfl Tryz.call198 rfl rfl rfl ?_
 conv => whnf
 repeat' (first | (refine LoopX.run hT (C := []) 2 rfl [0, 1, 2, 3, 8] [1000001] (fun _ _ h => h) (fun _ h => h) ?_; conv => whnf) | (refine LoopX.run hT (C := []) 8 rfl [0, 1, 2, 3, 8, 9] [1000001] (fun _ _ h => h) (fun _ h => h) ?_; conv => whnf) | (refine br_intro ?_ ?_ <;> intro hb <;> (try simp only [brs] at hb) <;> conv => whnf) | (refine RegX.rule (id := 4) hT rfl [] oXDRdB198_4 (by decide +kernel) ?_; conv => whnf) | (refine RegX.rule (id := 6) hT rfl [] oXDRdB198_6 (by decide +kernel) ?_; conv => whnf) | omega | (refine And.intro ?_ ?_; ((try dsimp only); first | omega | (refine szA rfl ?_; omega) | (refine szB rfl ?_; omega) | (unfold inI64; omega) | exact rfl | (simp only [List.toList_toArray, List.length_cons, List.length_nil]; omega) | (simp only [lns] at *; omega) | decide | (unfold inI64; decide)); conv => whnf) | decide | assumption)
 refine .ret _ ?_
 conv => whnf
 exact ⟨_, ⟨rfl, rfl⟩, rr, trivial⟩
theorem sStb1 : FSpec Tryz.prog 146 [.buf 1000001, .d (.int .i64 1), .fn 157 []] [(1000001, enB [e1])] (fun y r => y = .tup [] ∧ r = [(1000001, enB [e1])]) := by
 refine spec_of hT (C := []) Tryz.func146 rfl Tryz.call146 rfl rfl rfl ?_
 conv => whnf
 repeat' (first | (refine LoopX.run hT (C := []) 4 rfl [0, 1, 2, 6, 7, 8] [1000001] (fun _ _ h => h) (fun _ h => h) ?_; conv => whnf) | (refine LoopX.run hT (C := []) 14 rfl [0, 1, 2, 6] [1000001] (fun _ _ h => h) (fun _ h => h) ?_; conv => whnf) | (refine LoopX.run hT (C := []) 18 rfl [0, 1, 2, 6, 7, 8] [1000001] (fun _ _ h => h) (fun _ h => h) ?_; conv => whnf) | (refine CallX.of sIns1 [(1000001, 1000001)] rfl ⟨lr, lr, lr, lr, trivial⟩ ⟨rr, trivial⟩ rfl rfl ?_; rintro x rout ⟨rfl, rfl⟩; refine ⟨rfl, ?_⟩; conv => whnf) | (refine br_intro ?_ ?_ <;> intro hb <;> (try simp only [brs] at hb) <;> conv => whnf) | omega | (refine And.intro ?_ ?_; ((try dsimp only); first | omega | (refine szA rfl ?_; omega) | (refine szB rfl ?_; omega) | (unfold inI64; omega) | exact rfl | (simp only [List.toList_toArray, List.length_cons, List.length_nil]; omega) | (simp only [lns] at *; omega) | decide | (unfold inI64; decide)); conv => whnf) | decide | assumption)
 refine .ret _ ?_
 conv => whnf
 exact ⟨_, ⟨rfl, rfl⟩, rr, trivial⟩
theorem sSrt1 : FSpec Tryz.prog 62 [.buf 1000001, .fn 157 []] [(1000001, enB [e1])] (fun y r => y = .tup [] ∧ r = [(1000001, enB [e1])]) := by
 refine spec_of hT (C := []) Tryz.func62 rfl Tryz.call62 rfl rfl rfl ?_
 conv => whnf
 repeat' (first | (refine CallX.of sStb1 [(1000001, 1000001)] rfl ⟨lr, lr, lr, trivial⟩ ⟨rr, trivial⟩ rfl rfl ?_; rintro x rout ⟨rfl, rfl⟩; refine ⟨rfl, ?_⟩; conv => whnf) | (refine br_intro ?_ ?_ <;> intro hb <;> (try simp only [brs] at hb) <;> conv => whnf) | omega | (refine And.intro ?_ ?_; ((try dsimp only); first | omega | (refine szA rfl ?_; omega) | (refine szB rfl ?_; omega) | (unfold inI64; omega) | exact rfl | (simp only [List.toList_toArray, List.length_cons, List.length_nil]; omega) | (simp only [lns] at *; omega) | decide | (unfold inI64; decide)); conv => whnf) | decide | assumption)
 refine .ret _ ?_
 conv => whnf
 exact ⟨_, ⟨rfl, rfl⟩, rr, trivial⟩
theorem sCmp1 : FSpec Tryz.prog 160 [.buf 1000001] [(1000001, enB [e1])] (fun y r => y = .buf 1000001 ∧ r = [(1000001, enB [e1])]) := by
 refine spec_of hT (C := []) Tryz.func160 rfl Tryz.call160 rfl rfl rfl ?_
 conv => whnf
 repeat' (first | (refine br_intro ?_ ?_ <;> intro hb <;> (try simp only [brs] at hb) <;> conv => whnf) | (refine RegX.rule (id := 6) hT rfl [] oXDRdB160_6 (by decide +kernel) ?_; conv => whnf) | (refine RegX.rule (id := 11) hT rfl [] oXDRdB160_11 (by decide +kernel) ?_; conv => whnf) | omega | (refine And.intro ?_ ?_; ((try dsimp only); first | omega | (refine szA rfl ?_; omega) | (refine szB rfl ?_; omega) | (unfold inI64; omega) | exact rfl | (simp only [List.toList_toArray, List.length_cons, List.length_nil]; omega) | (simp only [lns] at *; omega) | decide | (unfold inI64; decide)); conv => whnf) | decide | assumption)
 refine .ret _ ?_
 conv => whnf
 exact ⟨_, ⟨rfl, rfl⟩, rr, trivial⟩
set_option maxHeartbeats 4000000 in
theorem sMerge1 : FSpec Tryz.prog 84 [.d (ents [e1]), .d (ents [])] [] (fun y r => y = .tup [.d (ents [e1]), .d (.int .i64 0)] ∧ r = []) := by
 have h105 := s105 [0, 0] (by simp)
 have hc := sConcatE [[e1], []] (by simp) (by decide)
 refine spec_of hT (C := []) Tryz.func84 rfl Tryz.call84 rfl rfl rfl ?_
 conv => whnf
 repeat' (first | (refine CallX.exact (sDChk1) rfl rfl ?_; rotate_right; conv => whnf) | (refine CallX.exact (sDChk0) rfl rfl ?_; rotate_right; conv => whnf) | (refine CallX.pure h105 ⟨SV.le_lit (by rfl) (by rfl), trivial⟩ rfl ?_; conv => whnf) | (refine br_intro ?_ ?_ <;> intro hb <;> (try simp only [brs] at hb) <;> conv => whnf) | omega | (refine And.intro ?_ ?_; ((try dsimp only); first | omega | (refine szA rfl ?_; omega) | (refine szB rfl ?_; omega) | (unfold inI64; omega) | exact rfl | (simp only [List.toList_toArray, List.length_cons, List.length_nil]; omega) | (simp only [lns] at *; omega) | decide | (unfold inI64; decide)); conv => whnf) | decide | assumption)
 refine CallX.of hc [(6, 24)] rfl ⟨SV.le_lit (by rfl) (by rfl), trivial⟩ trivial rfl rfl ?_
 rintro x rout ⟨rfl, rfl⟩
 refine ⟨rfl, ?_⟩
 conv => whnf
 repeat' (first | (refine CallX.of sSrt1 [(1000001, 24)] rfl ⟨lr, lr, trivial⟩ ⟨rr, trivial⟩ rfl rfl ?_; rintro x rout ⟨rfl, rfl⟩; refine ⟨rfl, ?_⟩; conv => whnf) | (refine CallX.of sCmp1 [(1000001, 24)] rfl ⟨lr, trivial⟩ ⟨rr, trivial⟩ rfl rfl ?_; rintro x rout ⟨rfl, rfl⟩; refine ⟨rfl, ?_⟩; conv => whnf) | (refine LoopX.run hT (C := []) 18 rfl [7, 8, 30, 31, 32] [24] (fun _ _ h => h) (fun _ h => h) ?_; conv => whnf) | (refine br_intro ?_ ?_ <;> intro hb <;> (try simp only [brs] at hb) <;> conv => whnf) | omega | (refine And.intro ?_ ?_; ((try dsimp only); first | omega | (refine szA rfl ?_; omega) | (refine szB rfl ?_; omega) | (unfold inI64; omega) | exact rfl | (simp only [List.toList_toArray, List.length_cons, List.length_nil]; omega) | (simp only [lns] at *; omega) | decide | (unfold inI64; decide)); conv => whnf) | decide | assumption)
 refine .freeze _ 24 39 4 _ _ rfl (.weak _ ?_)
 conv => whnf
 exact ⟨.tup [.d (ents [e1]), .d (.int .i64 0)], _, SV.le_tup ⟨lr, lr, trivial⟩, ⟨rfl, rfl⟩, trivial⟩
theorem dueE_1 : dueE ⟨0, 0, 1, 0⟩ ⟨[110], [65, 65], 0, 0, 7⟩ 0 = 0 := by decide +kernel
theorem dueV_1 : dueV ⟨0, 0, 1, 0⟩ ⟨[110], [65, 65], 0, 0, 7⟩ 0 = 7 := by decide +kernel
theorem dueW_1 : dueW ⟨0, 0, 1, 0⟩ ⟨[110], [65, 65], 0, 0, 7⟩ 0 = .tup [.d (.int .i64 7), .d (.int .i64 0)] := by unfold dueW; rw [if_pos dueE_1, dueV_1]
set_option maxHeartbeats 4000000 in
theorem sReady : FSpec Tryz.prog 30 [] [] (fun x r => x = .d (.bool true) ∧ r = []) := by
 have h35 := s35 3 [1, 1] (by simp)
 rw [splitF_31, if_pos rfl, splitG_31] at h35
 have hd := sDue ⟨0, 0, 1, 0⟩ ⟨[110], [65, 65], 0, 0, 7⟩ 0 ⟨by simp, by simp⟩
 rw [dueW_1] at hd
 refine spec_of hT (C := []) Tryz.func30 rfl Tryz.call30 rfl rfl rfl ?_
 conv => whnf
 repeat' (first | (refine CallX.pure h35 ⟨lr, SV.le_lit (by rfl) (by rfl), trivial⟩ rfl ?_; conv => whnf) | (refine CallX.exact (hd) rfl rfl ?_; rotate_right; conv => whnf) | (refine CallX.pure s27t ⟨SV.le_lit rfl rfl, SV.le_lit rfl rfl, trivial⟩ rfl ?_; conv => whnf) | (refine CallX.pure sMerge1 ⟨SV.le_lit rfl rfl, SV.le_nilS, trivial⟩ rfl ?_; conv => whnf) | (refine br_intro ?_ ?_ <;> intro hb <;> (try simp only [brs] at hb) <;> conv => whnf) | omega | (refine And.intro ?_ ?_; ((try dsimp only); first | omega | (refine szA rfl ?_; omega) | (refine szB rfl ?_; omega) | (unfold inI64; omega) | exact rfl | (simp only [List.toList_toArray, List.length_cons, List.length_nil]; omega) | (simp only [lns] at *; omega) | decide | (unfold inI64; decide)); conv => whnf) | decide | assumption)
 all_goals first
  | (exfalso; omega)
  | (refine .ret _ ?_
     conv => whnf
     refine ⟨[], ⟨?_, rfl⟩, trivial⟩
     conv => lhs; whnf
     all_goals rfl)
theorem lz53 (n : Nat) (L : Nat → Int) (hL : Rok n L) (a : Int) (h0 : 0 ≤ a) (ha : a ≤ 2^37) :
 FSpec Tryz.prog 53 [.ptr 1000000 0] [(1000000, strm n L a), (1000009, KX)] (fun y r => (∃ t : List UInt8, t.length ≤ 2^18 ∧ y = .d (.str t)) ∧ MovedK n L a 110 r) := by
 refine spec_of hT (C := []) Tryz.func53 rfl Tryz.call53 rfl rfl rfl ?_
 conv => whnf
 repeat' (first | (refine CallX.of (s64 n L hL _ ?_ ?_ 0 4 ?_ ?_ ?_ ?_) [(1000000, 1000000)] rfl ⟨lr, lr, lr, trivial⟩ ⟨rr, trivial⟩ rfl rfl ?_; rotate_right; rintro x rout ⟨⟨u0, hu1, hu2, rfl⟩, ⟨c, c1, c2, rfl⟩⟩; refine ⟨rfl, ?_⟩; conv => whnf) | (refine CallX.of (s96 n L hL _ (by omega) (by omega) u0 (by omega) (by omega)) [(1000000, 1000000)] rfl ⟨lr, lr, trivial⟩ ⟨rr, trivial⟩ rfl rfl ?_; rintro x rout ⟨⟨l, hl, rfl⟩, ⟨c1, hc11, hc12, rfl⟩⟩; refine ⟨rfl, ?_⟩; conv => whnf) | (refine br_intro ?_ ?_ <;> intro hb <;> (try simp only [brs] at hb) <;> conv => whnf) | omega | (refine And.intro ?_ ?_; ((try dsimp only); first | omega | (refine szA rfl ?_; omega) | (refine szB rfl ?_; omega) | (unfold inI64; omega) | exact rfl | (simp only [List.toList_toArray, List.length_cons, List.length_nil]; omega) | (simp only [lns] at *; omega) | decide | (unfold inI64; decide)); conv => whnf) | decide | assumption)
 have hf := s195 l (mkG_ok hl (by omega))
 by_cases E : mrksE l = 0
 · have hb := mrks_back E
   obtain ⟨q1, q2⟩ := mrkQ_of E
   have hm := lz52 l ⟨by omega, fun p hp => mrkQ_1 (q2 p hp)⟩
   rw [E] at hf
   generalize txF mrkP l = T at hm hb
   have hT3 := hb.2
   repeat' (first | (refine CallX.exact (hf) rfl rfl ?_; rotate_right; conv => whnf) | (refine CallX.kn hm rfl rfl rfl rfl ?_; conv => whnf) | (refine CallX.of (s33 n L hL _ ?_ ?_ [0, 0, 1, 2] ?_ ?_) [(1000000, 1000000)] rfl ⟨lr, SV.le_lit rfl rfl, trivial⟩ ⟨rr, trivial⟩ rfl rfl ?_; rotate_right; rintro x rout ⟨⟨u1, hu3, rfl⟩, ⟨c, c1, c2, rfl⟩⟩; refine ⟨rfl, ?_⟩; conv => whnf) | (refine br_intro ?_ ?_ <;> intro hb <;> (try simp only [brs] at hb) <;> conv => whnf) | omega | (refine And.intro ?_ ?_; ((try dsimp only); first | omega | (refine szA rfl ?_; omega) | (refine szB rfl ?_; omega) | (unfold inI64; omega) | exact rfl | (simp only [List.toList_toArray, List.length_cons, List.length_nil]; omega) | (simp only [lns] at *; omega) | decide | (unfold inI64; decide)); conv => whnf) | decide | assumption)
   have hu4 := pick4 hu3
   refine LoopX.rule hT (C := []) (ι := Int × List UInt8 × Nat) (fun (b, t, k) => (a ≤ b ∧ b ≤ a + 92 + 4 * k) ∧ ((k : Int) ≤ u1 ∧ t.length ≤ 2^17 + 20 * k))
    (fun (b, t, k) => mkSt [(0, .ptr 1000000 0), (3, .d (.str t)), (16, .d (.int .i64 u1)), (17, .d (.int .i64 k))] [(1000000, strm n L b), (1000009, KX)]) (fun (_, _, k) => 2 - k) (c, _, 0) ⟨⟨?_, ?_⟩, ?_, ?_⟩ (by (refine Entails.mk' [(1000000, 1000000), (1000009, 1000009)] rfl rfl ?_ ?_ <;> repeat' (first | exact True.intro | exact lr | exact rr | exact SV.le_int (by omega) | exact SV.le_any _ | refine And.intro ?_ ?_)); done) ?_
   · omega
   · simp <;> omega
   · simp <;> omega
   · simp <;> omega
   rintro ⟨b, t, k⟩ ⟨⟨p1, p2⟩, p3, p4⟩
   conv => whnf
   repeat' (first | (refine CallX.of (s74 n L hL _ ?_ ?_ t _ ?_ ?_) [(1000000, 1000000)] rfl ⟨lr, lr, lr, trivial⟩ ⟨rr, trivial⟩ rfl rfl ?_; rotate_right; rintro x rout ⟨⟨u, hu, rfl⟩, ⟨c, c1, c2, rfl⟩⟩; refine ⟨rfl, ?_⟩; conv => whnf) | (refine br_intro ?_ ?_ <;> intro hb <;> (try simp only [brs] at hb) <;> conv => whnf) | omega | (refine And.intro ?_ ?_; ((try dsimp only); first | omega | (refine szA rfl ?_; omega) | (refine szB rfl ?_; omega) | (unfold inI64; omega) | exact rfl | (simp only [List.toList_toArray, List.length_cons, List.length_nil]; omega) | (simp only [lns] at *; omega) | decide | (unfold inI64; decide)); conv => whnf) | decide | assumption)
   · simp only [List.toList_toArray, List.length_cons, List.length_nil] at hu
     exact ⟨(c, u, k + 1), ⟨⟨by omega, by omega⟩, by omega, by omega⟩, by show 2 - (k + 1) < 2 - k; omega, (by (refine Entails.mk' [(1000000, 1000000), (1000009, 1000009)] rfl rfl ?_ ?_ <;> repeat' (first | exact True.intro | exact lr | exact rr | exact SV.le_int (by omega) | exact SV.le_any _ | refine And.intro ?_ ?_)); done)⟩
   · refine .ret _ ?_
     conv => whnf
     exact ⟨[(1000000, strm n L b), (1000009, KX)], ⟨⟨t, by omega, rfl⟩, ⟨b, by omega, by omega, rfl⟩⟩, rr, rr, trivial⟩
 · generalize mrksE l = e at E hf
   repeat' (first | (refine CallX.exact (hf) rfl rfl ?_; rotate_right; conv => whnf) | (refine CallX.of (s33 n L hL _ ?_ ?_ [0, 0, 1, 2] ?_ ?_) [(1000000, 1000000)] rfl ⟨lr, SV.le_lit rfl rfl, trivial⟩ ⟨rr, trivial⟩ rfl rfl ?_; rotate_right; rintro x rout ⟨⟨u1, hu3, rfl⟩, ⟨c, c1, c2, rfl⟩⟩; refine ⟨rfl, ?_⟩; conv => whnf) | (refine br_intro ?_ ?_ <;> intro hb <;> (try simp only [brs] at hb) <;> conv => whnf) | omega | (refine And.intro ?_ ?_; ((try dsimp only); first | omega | (refine szA rfl ?_; omega) | (refine szB rfl ?_; omega) | (unfold inI64; omega) | exact rfl | (simp only [List.toList_toArray, List.length_cons, List.length_nil]; omega) | (simp only [lns] at *; omega) | decide | (unfold inI64; decide)); conv => whnf) | decide | assumption)
   have hu4 := pick4 hu3
   refine LoopX.rule hT (C := []) (ι := Int × List UInt8 × Nat) (fun (b, t, k) => (a ≤ b ∧ b ≤ a + 92 + 4 * k) ∧ ((k : Int) ≤ u1 ∧ t.length ≤ 2^17 + 20 * k))
    (fun (b, t, k) => mkSt [(0, .ptr 1000000 0), (3, .d (.str t)), (16, .d (.int .i64 u1)), (17, .d (.int .i64 k))] [(1000000, strm n L b), (1000009, KX)]) (fun (_, _, k) => 2 - k) (c, _, 0) ⟨⟨?_, ?_⟩, ?_, ?_⟩ (by (refine Entails.mk' [(1000000, 1000000), (1000009, 1000009)] rfl rfl ?_ ?_ <;> repeat' (first | exact True.intro | exact lr | exact rr | exact SV.le_int (by omega) | exact SV.le_any _ | refine And.intro ?_ ?_)); done) ?_
   · omega
   · simp <;> omega
   · simp <;> omega
   · simp <;> omega
   rintro ⟨b, t, k⟩ ⟨⟨p1, p2⟩, p3, p4⟩
   conv => whnf
   repeat' (first | (refine CallX.of (s74 n L hL _ ?_ ?_ t _ ?_ ?_) [(1000000, 1000000)] rfl ⟨lr, lr, lr, trivial⟩ ⟨rr, trivial⟩ rfl rfl ?_; rotate_right; rintro x rout ⟨⟨u, hu, rfl⟩, ⟨c, c1, c2, rfl⟩⟩; refine ⟨rfl, ?_⟩; conv => whnf) | (refine br_intro ?_ ?_ <;> intro hb <;> (try simp only [brs] at hb) <;> conv => whnf) | omega | (refine And.intro ?_ ?_; ((try dsimp only); first | omega | (refine szA rfl ?_; omega) | (refine szB rfl ?_; omega) | (unfold inI64; omega) | exact rfl | (simp only [List.toList_toArray, List.length_cons, List.length_nil]; omega) | (simp only [lns] at *; omega) | decide | (unfold inI64; decide)); conv => whnf) | decide | assumption)
   · simp only [List.toList_toArray, List.length_cons, List.length_nil] at hu
     exact ⟨(c, u, k + 1), ⟨⟨by omega, by omega⟩, by omega, by omega⟩, by show 2 - (k + 1) < 2 - k; omega, (by (refine Entails.mk' [(1000000, 1000000), (1000009, 1000009)] rfl rfl ?_ ?_ <;> repeat' (first | exact True.intro | exact lr | exact rr | exact SV.le_int (by omega) | exact SV.le_any _ | refine And.intro ?_ ?_)); done)⟩
   · refine .ret _ ?_
     conv => whnf
     exact ⟨[(1000000, strm n L b), (1000009, KX)], ⟨⟨t, by omega, rfl⟩, ⟨b, by omega, by omega, rfl⟩⟩, rr, rr, trivial⟩
theorem mrkQ_ok {l : List Mrk} (h : mrksE l = 0) : mkOk l :=
 ⟨by have := (mrkQ_of h).1; omega, fun p hp => by
   have := (key_no ((mrkQ_of h).2 p hp).1).2.2
   show p.pan.length ≤ 2^40
   omega⟩
theorem lz51g {l : List Mrk} (h : mrksE l = 0) : FSpec Tryz.prog 51 [.d (mrks l)] kx (fun x r => x = .tup [.d (.str (txF mrkP l)), .d (.int .i64 0)] ∧ r = kx) := by
 have := lz51 l (mrkQ_ok h) ⟨by have := (mrkQ_of h).1; omega, fun _ p hp => mrkQ_1 ((mrkQ_of h).2 p hp)⟩
 rw [if_pos h, h] at this
 exact this
theorem z8 (n : Nat) (L : Nat → Int) (hn : n ≤ maxLen) (hL : ∀ i, -2^63 ≤ L i ∧ L i < 2^63) :
 FSpec Tryz.prog 8 [.d (.ro 1 n fun i => [.int .i64 (L i)])] kx (fun x r => x = .d (.bool true) ∧ r = kx) := by
 have hR : Rok n L := ⟨hn, hL⟩
 refine spec_of hT (C := []) Tryz.func8 rfl Tryz.call8 rfl rfl rfl ?_
 conv => whnf
 repeat' (first | (refine CallX.of (s64 n L hR 0 (by omega) (by omega) 0 6 (by omega) (by omega) (by omega) (by omega)) [(1000000, 18)] rfl ⟨lr, lr, lr, trivial⟩ ⟨rr, trivial⟩ rfl rfl ?_; rintro x rout ⟨⟨u0, hu1, hu2, rfl⟩, ⟨c, c1, c2, rfl⟩⟩; refine ⟨rfl, ?_⟩; conv => whnf) | (refine CallX.of (s96 n L hR c (by omega) (by omega) u0 (by omega) (by omega)) [(1000000, 18)] rfl ⟨lr, lr, trivial⟩ ⟨rr, trivial⟩ rfl rfl ?_; rintro x rout ⟨⟨l, hl, rfl⟩, ⟨c, c1, c2, rfl⟩⟩; refine ⟨rfl, ?_⟩; conv => whnf) | (refine br_intro ?_ ?_ <;> intro hb <;> (try simp only [brs] at hb) <;> conv => whnf) | omega | (refine And.intro ?_ ?_; ((try dsimp only); first | omega | (refine szA rfl ?_; omega) | (refine szB rfl ?_; omega) | (unfold inI64; omega) | exact rfl | (simp only [List.toList_toArray, List.length_cons, List.length_nil]; omega) | (simp only [lns] at *; omega) | decide | (unfold inI64; decide)); conv => whnf) | decide | assumption)
 by_cases E : mrksE l = 0
 · have C51 := lz51g E
   obtain ⟨hb1, hb2⟩ := mrks_back E
   have C54 := lz54 (txF mrkP l) (by omega)
   rw [hb1] at C54
   have C56 := lz56 l l (by have := (mrkQ_of E).1; omega)
   rw [decide_eq_true (rfl : l = l)] at C56
   generalize txF mrkP l = T at C51 C54 hb2
   repeat' (first | (refine CallX.kn C51 rfl rfl rfl rfl ?_; conv => whnf) | (refine CallX.kn C54 rfl rfl rfl rfl ?_; conv => whnf) | (refine CallX.exact (C56) rfl rfl ?_; rotate_right; conv => whnf) | (refine br_intro ?_ ?_ <;> intro hb <;> (try simp only [brs] at hb) <;> conv => whnf) | omega | (refine And.intro ?_ ?_; ((try dsimp only); first | omega | (refine szA rfl ?_; omega) | (refine szB rfl ?_; omega) | (unfold inI64; omega) | exact rfl | (simp only [List.toList_toArray, List.length_cons, List.length_nil]; omega) | (simp only [lns] at *; omega) | decide | (unfold inI64; decide)); conv => whnf) | decide | assumption)
   have C53 := lz53 n L hR c (by omega) (by omega)
   repeat' (first | (refine CallX.of C53 [(1000000, 18), (1000009, 1000009)] rfl ⟨lr, trivial⟩ ⟨rr, rr, trivial⟩ rfl rfl ?_; rintro x rout ⟨⟨t, ht, rfl⟩, ⟨c, c1, c2, rfl⟩⟩; refine ⟨rfl, ?_⟩; conv => whnf) | (refine br_intro ?_ ?_ <;> intro hb <;> (try simp only [brs] at hb) <;> conv => whnf) | omega | (refine And.intro ?_ ?_; ((try dsimp only); first | omega | (refine szA rfl ?_; omega) | (refine szB rfl ?_; omega) | (unfold inI64; omega) | exact rfl | (simp only [List.toList_toArray, List.length_cons, List.length_nil]; omega) | (simp only [lns] at *; omega) | decide | (unfold inI64; decide)); conv => whnf) | decide | assumption)
   have D54 := lz54 t (by omega)
   have hw := mrks_fwd (t := t)
   generalize redF tkMrk mrksE t = R at D54 hw
   obtain ⟨ra, rb, rc⟩ := R
   by_cases hz : rc = 0
   · obtain ⟨f1, f2⟩ := hw hz
     have D51 := lz51g f1
     rw [f2] at D51
     subst hz
     repeat' (first | (refine CallX.kn D54 rfl rfl rfl rfl ?_; conv => whnf) | (refine CallX.kn D51 rfl rfl rfl rfl ?_; conv => whnf) | (refine CallX.exact (sReady) rfl rfl ?_; rotate_right; conv => whnf) | (refine br_intro ?_ ?_ <;> intro hb <;> (try simp only [brs] at hb) <;> conv => whnf) | omega | (refine And.intro ?_ ?_; ((try dsimp only); first | omega | (refine szA rfl ?_; omega) | (refine szB rfl ?_; omega) | (unfold inI64; omega) | exact rfl | (simp only [List.toList_toArray, List.length_cons, List.length_nil]; omega) | (simp only [lns] at *; omega) | decide | (unfold inI64; decide)); conv => whnf) | decide | assumption)
     refine .ret _ ?_
     conv => whnf
     refine ⟨kx, ⟨?_, rfl⟩, rr, trivial⟩
     conv => lhs; whnf
   · repeat' (first | (refine CallX.kn D54 rfl rfl rfl rfl ?_; conv => whnf) | (refine CallX.exact (sReady) rfl rfl ?_; rotate_right; conv => whnf) | (refine br_intro ?_ ?_ <;> intro hb <;> (try simp only [brs] at hb) <;> conv => whnf) | omega | (refine And.intro ?_ ?_; ((try dsimp only); first | omega | (refine szA rfl ?_; omega) | (refine szB rfl ?_; omega) | (unfold inI64; omega) | exact rfl | (simp only [List.toList_toArray, List.length_cons, List.length_nil]; omega) | (simp only [lns] at *; omega) | decide | (unfold inI64; decide)); conv => whnf) | decide | assumption)
     refine .ret _ ?_
     conv => whnf
     refine ⟨kx, ⟨?_, rfl⟩, rr, trivial⟩
     conv => lhs; whnf
 · have C51 := lz51 l (mkG_ok hl (by omega)) ⟨by have := hl.1; omega, fun h => absurd h E⟩
   rw [if_neg E] at C51
   generalize mrksE l = e at C51 E
   repeat' (first | (refine CallX.kn C51 rfl rfl rfl rfl ?_; conv => whnf) | (refine br_intro ?_ ?_ <;> intro hb <;> (try simp only [brs] at hb) <;> conv => whnf) | omega | (refine And.intro ?_ ?_; ((try dsimp only); first | omega | (refine szA rfl ?_; omega) | (refine szB rfl ?_; omega) | (unfold inI64; omega) | exact rfl | (simp only [List.toList_toArray, List.length_cons, List.length_nil]; omega) | (simp only [lns] at *; omega) | decide | (unfold inI64; decide)); conv => whnf) | decide | assumption)
   have C53 := lz53 n L hR c (by omega) (by omega)
   repeat' (first | (refine CallX.of C53 [(1000000, 18), (1000009, 1000009)] rfl ⟨lr, trivial⟩ ⟨rr, rr, trivial⟩ rfl rfl ?_; rintro x rout ⟨⟨t, ht, rfl⟩, ⟨c, c1, c2, rfl⟩⟩; refine ⟨rfl, ?_⟩; conv => whnf) | (refine br_intro ?_ ?_ <;> intro hb <;> (try simp only [brs] at hb) <;> conv => whnf) | omega | (refine And.intro ?_ ?_; ((try dsimp only); first | omega | (refine szA rfl ?_; omega) | (refine szB rfl ?_; omega) | (unfold inI64; omega) | exact rfl | (simp only [List.toList_toArray, List.length_cons, List.length_nil]; omega) | (simp only [lns] at *; omega) | decide | (unfold inI64; decide)); conv => whnf) | decide | assumption)
   have D54 := lz54 t (by omega)
   have hw := mrks_fwd (t := t)
   generalize redF tkMrk mrksE t = R at D54 hw
   obtain ⟨ra, rb, rc⟩ := R
   by_cases hz : rc = 0
   · obtain ⟨f1, f2⟩ := hw hz
     have D51 := lz51g f1
     rw [f2] at D51
     subst hz
     repeat' (first | (refine CallX.kn D54 rfl rfl rfl rfl ?_; conv => whnf) | (refine CallX.kn D51 rfl rfl rfl rfl ?_; conv => whnf) | (refine CallX.exact (sReady) rfl rfl ?_; rotate_right; conv => whnf) | (refine br_intro ?_ ?_ <;> intro hb <;> (try simp only [brs] at hb) <;> conv => whnf) | omega | (refine And.intro ?_ ?_; ((try dsimp only); first | omega | (refine szA rfl ?_; omega) | (refine szB rfl ?_; omega) | (unfold inI64; omega) | exact rfl | (simp only [List.toList_toArray, List.length_cons, List.length_nil]; omega) | (simp only [lns] at *; omega) | decide | (unfold inI64; decide)); conv => whnf) | decide | assumption)
     refine .ret _ ?_
     conv => whnf
     refine ⟨kx, ⟨?_, rfl⟩, rr, trivial⟩
     conv => lhs; whnf
   · repeat' (first | (refine CallX.kn D54 rfl rfl rfl rfl ?_; conv => whnf) | (refine CallX.exact (sReady) rfl rfl ?_; rotate_right; conv => whnf) | (refine br_intro ?_ ?_ <;> intro hb <;> (try simp only [brs] at hb) <;> conv => whnf) | omega | (refine And.intro ?_ ?_; ((try dsimp only); first | omega | (refine szA rfl ?_; omega) | (refine szB rfl ?_; omega) | (unfold inI64; omega) | exact rfl | (simp only [List.toList_toArray, List.length_cons, List.length_nil]; omega) | (simp only [lns] at *; omega) | decide | (unfold inI64; decide)); conv => whnf) | decide | assumption)
     refine .ret _ ?_
     conv => whnf
     refine ⟨kx, ⟨?_, rfl⟩, rr, trivial⟩
     conv => lhs; whnf
end Go.Proofs.YtgeakdcbpjmkbaaGreatDoor
