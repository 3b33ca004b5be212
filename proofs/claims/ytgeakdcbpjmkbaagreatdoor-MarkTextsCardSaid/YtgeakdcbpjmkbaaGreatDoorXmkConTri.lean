/- MarkTexts is proved: for every input the law returns true, and its argument reads afterwards as it read before. Conditions: those of the given row alone. -/
import Derived.Test.YtgeakdcbpjmkbaaGreatDoorXmkConTwo
import Derived.Test.YtgeakdcbpjmkbaaGreatDoorXmkConOne
set_option linter.unusedVariables false
set_option linter.unusedSimpArgs false
set_option maxRecDepth 20000
namespace Go.Proofs.YtgeakdcbpjmkbaaGreatDoor
open Go Go.Eng Go.Shelf Go.RowKit
def oXDwF7_2 : List (Nat × List Nat) := [(0, []), (4, [0]), (5, [0, 4]), (7, [0, 4, 5]), (8, [0, 4, 5, 7]), (11, [0, 4, 5, 7, 8]), (1, [4, 5, 7, 8, 11]), (2, [4, 5, 7, 8, 11]), (3, [4, 5, 7, 8, 11]), (6, [7, 8, 11, 2, 3]), (9, [7, 11, 2, 3]), (10, [11, 2, 3]), (12, []), (13, []), (14, [])]
theorem pickC {u : Int} (h : u ∈ ([10, 50, 100, 999, 5000, 9, 5001] : List Int)) : 9 ≤ u ∧ u ≤ 5001 := by
 simp only [List.mem_cons, List.not_mem_nil, or_false] at h; omega
theorem redF_lenK {text : List UInt8} (ht : text.length ≤ 2^20) : (redF tkMrk mrksE text).1.length ≤ 2^40 := by
 have h := (mkOk_rd text ht).1
 unfold redF
 cases decide (200000 < text.length) with
 | true => simp
 | false =>
   simp only [cond_false]
   cases (lnsF tkMrk (text.length + 1) 0 text []).1.2 with
   | false => simp
   | true =>
     simp only [cond_true]
     cases decide (mrksE (lnsF tkMrk (text.length + 1) 0 text []).2 = 0) with
     | false => simp
     | true => exact h
theorem z7 (n : Nat) (L : Nat → Int) (hn : n ≤ maxLen) (hL : ∀ i, -2^63 ≤ L i ∧ L i < 2^63) :
 FSpec Tryz.prog 7 [.d (.ro 1 n fun i => [.int .i64 (L i)])] kx (fun x r => x = .d (.bool true) ∧ r = kx) := by
 have hR : Rok n L := ⟨hn, hL⟩
 refine spec_of hT (C := []) Tryz.func7 rfl Tryz.call7 rfl rfl rfl ?_
 conv => whnf
 repeat' (first | (refine CallX.of (s95 n L hR 0 (by omega) (by omega)) [(1000000, 22)] rfl ⟨lr, trivial⟩ ⟨rr, trivial⟩ rfl rfl ?_; rintro x rout ⟨⟨lp, ⟨hlp, hlp1⟩, rfl⟩, ⟨c9, c91, c92, rfl⟩⟩; refine ⟨rfl, ?_⟩; conv => whnf) | (refine CallX.of (s33 n L hR _ (by omega) (by omega) [10, 50, 100, 999, 5000, 9, 5001] (by simp) (by simp)) [(1000000, 22)] rfl ⟨lr, SV.le_lit rfl rfl, trivial⟩ ⟨rr, trivial⟩ rfl rfl ?_; rintro x rout ⟨⟨u, hu, rfl⟩, ⟨c8, c81, c82, rfl⟩⟩; refine ⟨rfl, ?_⟩; have hcb := pickC hu; conv => whnf) | (refine CallX.of (s64 n L hR _ (by omega) (by omega) 0 12 (by omega) (by omega) (by omega) (by omega)) [(1000000, 22)] rfl ⟨lr, lr, lr, trivial⟩ ⟨rr, trivial⟩ rfl rfl ?_; rintro x rout ⟨⟨u0, hu1, hu2, rfl⟩, ⟨c7, c71, c72, rfl⟩⟩; refine ⟨rfl, ?_⟩; conv => whnf) | (refine CallX.of (s96 n L hR _ (by omega) (by omega) u0 (by omega) (by omega)) [(1000000, 22)] rfl ⟨lr, lr, trivial⟩ ⟨rr, trivial⟩ rfl rfl ?_; rintro x rout ⟨⟨ms, hms, rfl⟩, ⟨c, c1, c2, rfl⟩⟩; refine ⟨rfl, ?_⟩; conv => whnf) | (refine br_intro ?_ ?_ <;> intro hb <;> (try simp only [brs] at hb) <;> conv => whnf) | (refine RegX.rule (id := 2) hT rfl [] oXDwF7_2 (by decide +kernel) ?_; conv => whnf) | omega | (refine And.intro ?_ ?_; ((try dsimp only); first | omega | (refine szA rfl ?_; omega) | (refine szB rfl ?_; omega) | (unfold inI64; omega) | exact rfl | (simp only [List.toList_toArray, List.length_cons, List.length_nil]; omega) | (simp only [lns] at *; omega) | decide | (unfold inI64; decide)); conv => whnf) | decide | assumption)
 obtain ⟨p, hpp⟩ : ∃ p, lp.getD 0 pn0 = p := ⟨_, rfl⟩
 have hpk : pnK p := by
  have := hlp.2 _ (getD_mem (x := pn0) hlp1)
  rw [hpp] at this
  show p.key.length ≤ 2^40
  have h8 : p.key.length ≤ 8 := this
  omega
 have hmk := mkG_ok hms (by omega)
 have D45 := lz45 p u ms hpk hmk (by omega)
 have D47 := s99 [p] ⟨by simp, by simpa using hpk⟩
 have D49 := s195 ms hmk
 have C46 : ∀ b : Bool, b = !decide (10 ≤ u ∧ u ≤ 5000) → FSpec Tryz.prog 46 [.d (ints [pansE [p], if b = true then 1 else 0, mrksE ms])] [] (fun x r => x = .d (.int .i64 (dwE p u ms)) ∧ r = []) := fun b hb => by
  have := s17 [pansE [p], if b = true then 1 else 0, mrksE ms] (by simp)
  rw [show firstE [pansE [p], if b = true then 1 else 0, mrksE ms] = dwE p u ms from by unfold dwE; subst hb; congr 3; grind] at this
  exact this
 have hT1 : u < 10 → true = !decide (10 ≤ u ∧ u ≤ 5000) := fun h => by
  have : ¬ (10 ≤ u ∧ u ≤ 5000) := by omega
  simp only [this, decide_false, Bool.not_false]
 have hF1 : 10 ≤ u → decide (5000 < u) = !decide (10 ≤ u ∧ u ≤ 5000) := fun h => by
  by_cases q : 5000 < u
  · have : ¬ (10 ≤ u ∧ u ≤ 5000) := by omega
    simp only [this, q, decide_false, decide_true, Bool.not_false]
  · have : 10 ≤ u ∧ u ≤ 5000 := by omega
    simp only [this, q, decide_false, decide_true, Bool.not_true, and_self]
 have C53 := lz53 n L hR c (by omega) (by omega)
 rw [← hpp] at D45 D47 C46
 by_cases E : dwE (lp.getD 0 pn0) u ms = 0
 case neg =>
  have hO : dwOut (lp.getD 0 pn0) u ms = ([], dwE (lp.getD 0 pn0) u ms) := by unfold dwOut; rw [if_pos E]
  rw [hO] at D45
  by_cases hM : mrksE ms = 0
  · have C51 := lz51g hM
    have C52 := lz52 ms ⟨by have := (mrkQ_of hM).1; omega, fun q hq => mrkQ_1 ((mrkQ_of hM).2 q hq)⟩
    generalize txF mrkP ms = T at C51 C52
    have hG : ∀ z, z = mrksE ms → z = 0 := fun z h => h.trans hM
    generalize dwE (lp.getD 0 pn0) u ms = e at D45 C46 E
    generalize pansE [lp.getD 0 pn0] = pe at D47 C46
    rw [hM] at D49 C46
    repeat' (first | (refine CallX.pure D45 ⟨lr, lr, lr, trivial⟩ rfl ?_; conv => whnf) | (refine CallX.pure D47 ⟨SV.le_lit (l := [lp.getD 0 pn0]) rfl rfl, trivial⟩ rfl ?_; conv => whnf) | (refine CallX.exact (s20 _ 1) rfl rfl ?_; rotate_right; conv => whnf) | (refine CallX.exact (D49) rfl rfl ?_; rotate_right; conv => whnf) | (refine CallX.pure (C46 true (hT1 (by omega))) ⟨SV.le_lit rfl rfl, trivial⟩ rfl ?_; conv => whnf) | (refine CallX.pure (C46 (decide (5000 < u)) (hF1 (by omega))) ⟨SV.le_lit rfl rfl, trivial⟩ rfl ?_; conv => whnf) | (refine CallX.kn C51 rfl rfl rfl rfl ?_; conv => whnf) | (refine CallX.kn C52 rfl rfl rfl rfl ?_; conv => whnf) | (refine CallX.of C53 [(1000000, 22), (1000009, 1000009)] rfl ⟨lr, trivial⟩ ⟨rr, rr, trivial⟩ rfl rfl ?_; rintro x rout ⟨⟨t, ht, rfl⟩, ⟨c, c1, c2, rfl⟩⟩; refine ⟨rfl, ?_⟩; conv => whnf) | (refine br_intro ?_ ?_ <;> intro hb <;> (try simp only [brs] at hb) <;> conv => whnf) | (refine RegX.rule (id := 2) hT rfl [] oXDwF7_2 (by decide +kernel) ?_; conv => whnf) | omega | (refine And.intro ?_ ?_; ((try dsimp only); first | omega | (refine szA rfl ?_; omega) | (refine szB rfl ?_; omega) | (unfold inI64; omega) | exact rfl | (simp only [List.toList_toArray, List.length_cons, List.length_nil]; omega) | (simp only [lns] at *; omega) | decide | (unfold inI64; decide)); conv => whnf) | decide | assumption)
    · have hA := redF_lenK (text := t) (by omega)
      have C54 := lz54 t (by omega)
      have C55 := lz55 t (by omega)
      have C56 := lz56 (redF tkMrk mrksE t).1 (redF tkMrk mrksE t).1 hA
      generalize redF tkMrk mrksE t = RR at C54 C55 C56
      obtain ⟨ra, rb, rc⟩ := RR
      rw [decide_eq_true (rfl : ra = ra)] at C56
      repeat' (first | (refine CallX.kn C54 rfl rfl rfl rfl ?_; conv => whnf) | (refine CallX.kn C55 rfl rfl rfl rfl ?_; conv => whnf) | (refine CallX.exact (C56) rfl rfl ?_; rotate_right; conv => whnf) | (refine CallX.exact (s42) rfl rfl ?_; rotate_right; conv => whnf) | (refine br_intro ?_ ?_ <;> intro hb <;> (try simp only [brs] at hb) <;> conv => whnf) | (refine RegX.rule (id := 2) hT rfl [] oXDwF7_2 (by decide +kernel) ?_; conv => whnf) | omega | (refine And.intro ?_ ?_; ((try dsimp only); first | omega | (refine szA rfl ?_; omega) | (refine szB rfl ?_; omega) | (unfold inI64; omega) | exact rfl | (simp only [List.toList_toArray, List.length_cons, List.length_nil]; omega) | (simp only [lns] at *; omega) | decide | (unfold inI64; decide)); conv => whnf) | decide | assumption)
      refine .ret _ ?_
      conv => whnf
      refine ⟨kx, ⟨?_, rfl⟩, rr, trivial⟩
      conv => lhs; whnf
    · have hA := redF_lenK (text := t) (by omega)
      have C54 := lz54 t (by omega)
      have C55 := lz55 t (by omega)
      have C56 := lz56 (redF tkMrk mrksE t).1 (redF tkMrk mrksE t).1 hA
      generalize redF tkMrk mrksE t = RR at C54 C55 C56
      obtain ⟨ra, rb, rc⟩ := RR
      rw [decide_eq_true (rfl : ra = ra)] at C56
      repeat' (first | (refine CallX.kn C54 rfl rfl rfl rfl ?_; conv => whnf) | (refine CallX.kn C55 rfl rfl rfl rfl ?_; conv => whnf) | (refine CallX.exact (C56) rfl rfl ?_; rotate_right; conv => whnf) | (refine CallX.exact (s42) rfl rfl ?_; rotate_right; conv => whnf) | (refine br_intro ?_ ?_ <;> intro hb <;> (try simp only [brs] at hb) <;> conv => whnf) | (refine RegX.rule (id := 2) hT rfl [] oXDwF7_2 (by decide +kernel) ?_; conv => whnf) | omega | (refine And.intro ?_ ?_; ((try dsimp only); first | omega | (refine szA rfl ?_; omega) | (refine szB rfl ?_; omega) | (unfold inI64; omega) | exact rfl | (simp only [List.toList_toArray, List.length_cons, List.length_nil]; omega) | (simp only [lns] at *; omega) | decide | (unfold inI64; decide)); conv => whnf) | decide | assumption)
      refine .ret _ ?_
      conv => whnf
      refine ⟨kx, ⟨?_, rfl⟩, rr, trivial⟩
      conv => lhs; whnf
  · have C51 := lz51 ms hmk ⟨by have := hms.1; omega, fun h => absurd h hM⟩
    rw [if_neg hM] at C51
    generalize dwE (lp.getD 0 pn0) u ms = e at D45 C46 E
    generalize pansE [lp.getD 0 pn0] = pe at D47 C46
    generalize mrksE ms = me at D49 C46 C51 hM
    have C52 := C51
    repeat' (first | (refine CallX.pure D45 ⟨lr, lr, lr, trivial⟩ rfl ?_; conv => whnf) | (refine CallX.pure D47 ⟨SV.le_lit (l := [lp.getD 0 pn0]) rfl rfl, trivial⟩ rfl ?_; conv => whnf) | (refine CallX.exact (s20 _ 1) rfl rfl ?_; rotate_right; conv => whnf) | (refine CallX.exact (D49) rfl rfl ?_; rotate_right; conv => whnf) | (refine CallX.pure (C46 true (hT1 (by omega))) ⟨SV.le_lit rfl rfl, trivial⟩ rfl ?_; conv => whnf) | (refine CallX.pure (C46 (decide (5000 < u)) (hF1 (by omega))) ⟨SV.le_lit rfl rfl, trivial⟩ rfl ?_; conv => whnf) | (refine CallX.kn C51 rfl rfl rfl rfl ?_; conv => whnf) | (refine CallX.kn C52 rfl rfl rfl rfl ?_; conv => whnf) | (refine CallX.of C53 [(1000000, 22), (1000009, 1000009)] rfl ⟨lr, trivial⟩ ⟨rr, rr, trivial⟩ rfl rfl ?_; rintro x rout ⟨⟨t, ht, rfl⟩, ⟨c, c1, c2, rfl⟩⟩; refine ⟨rfl, ?_⟩; conv => whnf) | (refine br_intro ?_ ?_ <;> intro hb <;> (try simp only [brs] at hb) <;> conv => whnf) | (refine RegX.rule (id := 2) hT rfl [] oXDwF7_2 (by decide +kernel) ?_; conv => whnf) | omega | (refine And.intro ?_ ?_; ((try dsimp only); first | omega | (refine szA rfl ?_; omega) | (refine szB rfl ?_; omega) | (unfold inI64; omega) | exact rfl | (simp only [List.toList_toArray, List.length_cons, List.length_nil]; omega) | (simp only [lns] at *; omega) | decide | (unfold inI64; decide)); conv => whnf) | decide | assumption)
    · have hA := redF_lenK (text := t) (by omega)
      have C54 := lz54 t (by omega)
      have C55 := lz55 t (by omega)
      have C56 := lz56 (redF tkMrk mrksE t).1 (redF tkMrk mrksE t).1 hA
      generalize redF tkMrk mrksE t = RR at C54 C55 C56
      obtain ⟨ra, rb, rc⟩ := RR
      rw [decide_eq_true (rfl : ra = ra)] at C56
      repeat' (first | (refine CallX.kn C54 rfl rfl rfl rfl ?_; conv => whnf) | (refine CallX.kn C55 rfl rfl rfl rfl ?_; conv => whnf) | (refine CallX.exact (C56) rfl rfl ?_; rotate_right; conv => whnf) | (refine CallX.exact (s42) rfl rfl ?_; rotate_right; conv => whnf) | (refine br_intro ?_ ?_ <;> intro hb <;> (try simp only [brs] at hb) <;> conv => whnf) | (refine RegX.rule (id := 2) hT rfl [] oXDwF7_2 (by decide +kernel) ?_; conv => whnf) | omega | (refine And.intro ?_ ?_; ((try dsimp only); first | omega | (refine szA rfl ?_; omega) | (refine szB rfl ?_; omega) | (unfold inI64; omega) | exact rfl | (simp only [List.toList_toArray, List.length_cons, List.length_nil]; omega) | (simp only [lns] at *; omega) | decide | (unfold inI64; decide)); conv => whnf) | decide | assumption)
      refine .ret _ ?_
      conv => whnf
      refine ⟨kx, ⟨?_, rfl⟩, rr, trivial⟩
      conv => lhs; whnf
    · have hA := redF_lenK (text := t) (by omega)
      have C54 := lz54 t (by omega)
      have C55 := lz55 t (by omega)
      have C56 := lz56 (redF tkMrk mrksE t).1 (redF tkMrk mrksE t).1 hA
      generalize redF tkMrk mrksE t = RR at C54 C55 C56
      obtain ⟨ra, rb, rc⟩ := RR
      rw [decide_eq_true (rfl : ra = ra)] at C56
      repeat' (first | (refine CallX.kn C54 rfl rfl rfl rfl ?_; conv => whnf) | (refine CallX.kn C55 rfl rfl rfl rfl ?_; conv => whnf) | (refine CallX.exact (C56) rfl rfl ?_; rotate_right; conv => whnf) | (refine CallX.exact (s42) rfl rfl ?_; rotate_right; conv => whnf) | (refine br_intro ?_ ?_ <;> intro hb <;> (try simp only [brs] at hb) <;> conv => whnf) | (refine RegX.rule (id := 2) hT rfl [] oXDwF7_2 (by decide +kernel) ?_; conv => whnf) | omega | (refine And.intro ?_ ?_; ((try dsimp only); first | omega | (refine szA rfl ?_; omega) | (refine szB rfl ?_; omega) | (unfold inI64; omega) | exact rfl | (simp only [List.toList_toArray, List.length_cons, List.length_nil]; omega) | (simp only [lns] at *; omega) | decide | (unfold inI64; decide)); conv => whnf) | decide | assumption)
      refine .ret _ ?_
      conv => whnf
      refine ⟨kx, ⟨?_, rfl⟩, rr, trivial⟩
      conv => lhs; whnf
 obtain ⟨z1, z2, hM, _, _⟩ := dwE_zero E
 have C51 := lz51g hM
 have C52 := lz52 ms ⟨by have := (mrkQ_of hM).1; omega, fun q hq => mrkQ_1 ((mrkQ_of hM).2 q hq)⟩
 have D50 := lz50 (lp.getD 0 pn0) u ms E
 have hO : dwOut (lp.getD 0 pn0) u ms = if 200000 < dwR (lp.getD 0 pn0) u * (dwC (lp.getD 0 pn0) u + 1) then ([], 2) else (dwPic (lp.getD 0 pn0) u (dwC (lp.getD 0 pn0) u) (dwR (lp.getD 0 pn0) u) ms, 0) := by unfold dwOut; rw [if_neg (fun q => q E)]
 rw [hO] at D45
 generalize txF mrkP ms = T at C51 C52
 rw [z1] at D47 C46
 rw [hM] at D49 C46
 rw [E] at C46
 by_cases hbig : 200000 < dwR (lp.getD 0 pn0) u * (dwC (lp.getD 0 pn0) u + 1)
 · rw [if_pos hbig] at D45 D50
   rw [decide_eq_true hbig, Bool.not_true] at D50
   have C48 := s20 true 2
   rw [if_pos rfl] at C48
   repeat' (first | (refine CallX.pure D45 ⟨lr, lr, lr, trivial⟩ rfl ?_; conv => whnf) | (refine CallX.pure D47 ⟨SV.le_lit (l := [lp.getD 0 pn0]) rfl rfl, trivial⟩ rfl ?_; conv => whnf) | (refine CallX.exact (s20 _ 1) rfl rfl ?_; rotate_right; conv => whnf) | (refine CallX.exact (D49) rfl rfl ?_; rotate_right; conv => whnf) | (refine CallX.pure (C46 true (hT1 (by omega))) ⟨SV.le_lit rfl rfl, trivial⟩ rfl ?_; conv => whnf) | (refine CallX.pure (C46 (decide (5000 < u)) (hF1 (by omega))) ⟨SV.le_lit rfl rfl, trivial⟩ rfl ?_; conv => whnf) | (refine CallX.kn C51 rfl rfl rfl rfl ?_; conv => whnf) | (refine CallX.kn C52 rfl rfl rfl rfl ?_; conv => whnf) | (refine CallX.of C53 [(1000000, 22), (1000009, 1000009)] rfl ⟨lr, trivial⟩ ⟨rr, rr, trivial⟩ rfl rfl ?_; rintro x rout ⟨⟨t, ht, rfl⟩, ⟨c, c1, c2, rfl⟩⟩; refine ⟨rfl, ?_⟩; conv => whnf) | (refine CallX.pure D50 ⟨lr, lr, lr, trivial⟩ rfl ?_; conv => whnf) | (refine CallX.pure C48 ⟨lr, lr, trivial⟩ rfl ?_; conv => whnf) | (refine br_intro ?_ ?_ <;> intro hb <;> (try simp only [brs] at hb) <;> conv => whnf) | (refine RegX.rule (id := 2) hT rfl [] oXDwF7_2 (by decide +kernel) ?_; conv => whnf) | omega | (refine And.intro ?_ ?_; ((try dsimp only); first | omega | (refine szA rfl ?_; omega) | (refine szB rfl ?_; omega) | (unfold inI64; omega) | exact rfl | (simp only [List.toList_toArray, List.length_cons, List.length_nil]; omega) | (simp only [lns] at *; omega) | decide | (unfold inI64; decide)); conv => whnf) | decide | assumption)
   have hA := redF_lenK (text := t) (by omega)
   have C54 := lz54 t (by omega)
   have C55 := lz55 t (by omega)
   have C56 := lz56 (redF tkMrk mrksE t).1 (redF tkMrk mrksE t).1 hA
   generalize redF tkMrk mrksE t = RR at C54 C55 C56
   obtain ⟨ra, rb, rc⟩ := RR
   rw [decide_eq_true (rfl : ra = ra)] at C56
   repeat' (first | (refine CallX.kn C54 rfl rfl rfl rfl ?_; conv => whnf) | (refine CallX.kn C55 rfl rfl rfl rfl ?_; conv => whnf) | (refine CallX.exact (C56) rfl rfl ?_; rotate_right; conv => whnf) | (refine CallX.exact (s42) rfl rfl ?_; rotate_right; conv => whnf) | (refine br_intro ?_ ?_ <;> intro hb <;> (try simp only [brs] at hb) <;> conv => whnf) | (refine RegX.rule (id := 2) hT rfl [] oXDwF7_2 (by decide +kernel) ?_; conv => whnf) | omega | (refine And.intro ?_ ?_; ((try dsimp only); first | omega | (refine szA rfl ?_; omega) | (refine szB rfl ?_; omega) | (unfold inI64; omega) | exact rfl | (simp only [List.toList_toArray, List.length_cons, List.length_nil]; omega) | (simp only [lns] at *; omega) | decide | (unfold inI64; decide)); conv => whnf) | decide | assumption)
   refine .ret _ ?_
   conv => whnf
   refine ⟨kx, ⟨?_, rfl⟩, rr, trivial⟩
   conv => lhs; whnf
 · rw [if_neg hbig] at D45 D50
   rw [decide_eq_false hbig, Bool.not_false] at D50
   generalize dwPic (lp.getD 0 pn0) u (dwC (lp.getD 0 pn0) u) (dwR (lp.getD 0 pn0) u) ms = PP at D45 D50
   have C48 := s20 false 2
   rw [if_neg (by simp)] at C48
   repeat' (first | (refine CallX.pure D45 ⟨lr, lr, lr, trivial⟩ rfl ?_; conv => whnf) | (refine CallX.pure D47 ⟨SV.le_lit (l := [lp.getD 0 pn0]) rfl rfl, trivial⟩ rfl ?_; conv => whnf) | (refine CallX.exact (s20 _ 1) rfl rfl ?_; rotate_right; conv => whnf) | (refine CallX.exact (D49) rfl rfl ?_; rotate_right; conv => whnf) | (refine CallX.pure (C46 true (hT1 (by omega))) ⟨SV.le_lit rfl rfl, trivial⟩ rfl ?_; conv => whnf) | (refine CallX.pure (C46 (decide (5000 < u)) (hF1 (by omega))) ⟨SV.le_lit rfl rfl, trivial⟩ rfl ?_; conv => whnf) | (refine CallX.kn C51 rfl rfl rfl rfl ?_; conv => whnf) | (refine CallX.kn C52 rfl rfl rfl rfl ?_; conv => whnf) | (refine CallX.of C53 [(1000000, 22), (1000009, 1000009)] rfl ⟨lr, trivial⟩ ⟨rr, rr, trivial⟩ rfl rfl ?_; rintro x rout ⟨⟨t, ht, rfl⟩, ⟨c, c1, c2, rfl⟩⟩; refine ⟨rfl, ?_⟩; conv => whnf) | (refine CallX.pure D50 ⟨lr, lr, lr, trivial⟩ rfl ?_; conv => whnf) | (refine CallX.pure C48 ⟨lr, lr, trivial⟩ rfl ?_; conv => whnf) | (refine br_intro ?_ ?_ <;> intro hb <;> (try simp only [brs] at hb) <;> conv => whnf) | (refine RegX.rule (id := 2) hT rfl [] oXDwF7_2 (by decide +kernel) ?_; conv => whnf) | omega | (refine And.intro ?_ ?_; ((try dsimp only); first | omega | (refine szA rfl ?_; omega) | (refine szB rfl ?_; omega) | (unfold inI64; omega) | exact rfl | (simp only [List.toList_toArray, List.length_cons, List.length_nil]; omega) | (simp only [lns] at *; omega) | decide | (unfold inI64; decide)); conv => whnf) | decide | assumption)
   have hA := redF_lenK (text := t) (by omega)
   have C54 := lz54 t (by omega)
   have C55 := lz55 t (by omega)
   have C56 := lz56 (redF tkMrk mrksE t).1 (redF tkMrk mrksE t).1 hA
   generalize redF tkMrk mrksE t = RR at C54 C55 C56
   obtain ⟨ra, rb, rc⟩ := RR
   rw [decide_eq_true (rfl : ra = ra)] at C56
   repeat' (first | (refine CallX.kn C54 rfl rfl rfl rfl ?_; conv => whnf) | (refine CallX.kn C55 rfl rfl rfl rfl ?_; conv => whnf) | (refine CallX.exact (C56) rfl rfl ?_; rotate_right; conv => whnf) | (refine CallX.exact (s42) rfl rfl ?_; rotate_right; conv => whnf) | (refine br_intro ?_ ?_ <;> intro hb <;> (try simp only [brs] at hb) <;> conv => whnf) | (refine RegX.rule (id := 2) hT rfl [] oXDwF7_2 (by decide +kernel) ?_; conv => whnf) | omega | (refine And.intro ?_ ?_; ((try dsimp only); first | omega | (refine szA rfl ?_; omega) | (refine szB rfl ?_; omega) | (unfold inI64; omega) | exact rfl | (simp only [List.toList_toArray, List.length_cons, List.length_nil]; omega) | (simp only [lns] at *; omega) | decide | (unfold inI64; decide)); conv => whnf) | decide | assumption)
   refine .ret _ ?_
   conv => whnf
   refine ⟨kx, ⟨?_, rfl⟩, rr, trivial⟩
   conv => lhs; whnf
end Go.Proofs.YtgeakdcbpjmkbaaGreatDoor
