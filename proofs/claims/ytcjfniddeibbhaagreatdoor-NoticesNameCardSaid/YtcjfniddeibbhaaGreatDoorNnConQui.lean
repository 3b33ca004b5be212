/- NoticesName is proved: for every input the law returns true, and its argument reads afterwards as it read before. Conditions: those of the given row alone. -/
import Derived.Test.YtcjfniddeibbhaaGreatDoorNnConQua
import Derived.Test.YtcjfniddeibbhaaGreatDoorNnConOne
import Derived.Test.YtcjfniddeibbhaaGreatDoorNnConTri
set_option linter.unusedVariables false
set_option linter.unusedSimpArgs false
set_option maxRecDepth 20000
namespace Go.Proofs.YtcjfniddeibbhaaGreatDoor
open Go Go.Eng
def oTBlE36_17 : List (Nat × List Nat) := [(0, []), (1, [0]), (2, []), (3, []), (4, [0, 1, 2, 3]), (5, [0, 1, 2, 3, 4]), (6, [0, 1, 2, 3, 4]), (7, [0, 1, 2, 3]), (8, [0, 1, 2, 3]), (9, []), (10, [])]
def oTBlE36_23 : List (Nat × List Nat) := [(0, []), (1, []), (2, [0, 1]), (3, [0, 1, 2]), (4, [0, 1, 2, 3]), (5, [0, 1, 2, 3]), (6, [0, 1, 2]), (7, [0, 1, 2]), (8, []), (9, []), (10, []), (11, [10]), (12, [11]), (13, [])]
theorem Res.le_app2 {α : Type} {f : α → List DV} {d : α} {l : List α} {x y : α} {e k : Nat} {h : Nat → List DV} (h0 : h 0 = f x) (h1 : h 1 = f y) :
 Res.le (.buf e k (l.length + 2) (appGet l.length (rowF f d l) h)) (seqB e k f d (l ++ [x, y])) := Res.le_buf (by simp) (fun i hi => by
 rcases Nat.lt_or_ge i l.length with q | q
 · rw [appGet_lt q, rowF_lt q, rowF_lt (by simp; omega)]
   rw [List.getElem_append_left q]
 · rw [appGet_ge q, rowF_lt (by simp; omega), List.getElem_append_right q]
   by_cases q2 : i = l.length
   · subst q2; simp [h0]
   · have : i = l.length + 1 := by omega
     subst this; simp [h1])
theorem Res.le_mapBB {ag va : Bool} {ks : List KK} {zr : List DV} {has has' : List DV → Bool} {val val' : List DV → List DV} {clock : Nat} {kb : List (List DV × Nat)} (h : ∀ key, wk ks key = true → has key = has' key ∧ val key = val' key) :
 Res.le (.mapB ag va ks zr has val clock kb) (.mapB ag va ks zr has' val' clock kb) := ⟨rfl, fun G β w d hr => by
 obtain ⟨r, es, l, h1, h2, h3, h4, h5, h6, h7⟩ := hr
 refine ⟨r, es, l, h1, h2, h3, h4, h5, h6, fun key hk => ?_⟩
 have := h7 key hk
 rw [(h key hk).1, (h key hk).2] at this
 exact this⟩
def keyS : List DV → List UInt8
 | [.str s] => s
 | _ => []
theorem wk_str {K : List DV} (h : wk [.str] K = true) : ∃ s, K = [.str s] := by
 cases K with
 | nil => simp [wk] at h
 | cons x r =>
   cases r with
   | cons y r => simp [wk] at h
   | nil => cases x <;> simp [wk, wk1] at h; exact ⟨_, rfl⟩
abbrev mpW (g : List UInt8 → Int) : Res := .map false false [.str] [.int .i64 0] (fun K => decide (0 < g (keyS K))) (fun K => [.int .i64 (g (keyS K))])
theorem withK_one (v : List UInt8) (h : Hir) (t : Int) : withK v [h] t = if occ v h t = true then (h.key, true) else ([], false) := by
 unfold withK
 cases q : occ v h t with
 | true => rw [List.find?_cons_of_pos (by simpa using q)]; simp
 | false => rw [List.find?_cons_of_neg (by simp [q])]; simp
theorem keyB1_nil {k : List UInt8} : ([] : List (List UInt8)) = keyB1 k ↔ k = [] := by
 unfold keyB1; split <;> simp_all
theorem keyB1_one {k x : List UInt8} (hx : x ≠ []) : [x] = keyB1 k ↔ k = x := by
 unfold keyB1
 split
 · rename_i h; subst h; simp; exact hx
 · simp [eq_comm]
theorem mpW_up {g g' : List UInt8 → Int} {x : List UInt8} {n : Int} (hn : 0 < n) (h0 : ∀ k, 0 ≤ g k) (hg : ∀ k, g' k = g k + (if k = x then n else 0)) :
 Res.le (.map false false [.str] [.int .i64 0] (fun q => keyEq q [.str x] || decide (0 < g (keyS q))) (fun q => bif keyEq q [.str x] then [.int .i64 (g x + n)] else [.int .i64 (g (keyS q))])) (mpW g') := Res.le_map fun K hK => by
 obtain ⟨s, rfl⟩ := wk_str hK
 have e : keyEq [.str s] [.str x] = decide (s = x) := by
  rw [Bool.eq_iff_iff]; simp [keyEq, keyEq1]
 rw [e]
 show (decide (s = x) || decide (0 < g s)) = decide (0 < g' s) ∧ (bif decide (s = x) then [DV.int .i64 (g x + n)] else [.int .i64 (g s)]) = [.int .i64 (g' s)]
 rw [hg s]
 by_cases q : s = x
 · subst q
   have := h0 s
   simp; omega
 · simp [q]
theorem filt_take {v : List UInt8} {l : List Hir} {t : Int} {j : Nat} (hj : j < l.length) : ((l.take (j + 1)).filter fun h => occ v h t).map (·.key) = ((l.take j).filter fun h => occ v h t).map (·.key) ++ (if occ v (l.getD j hi0) t = true then [(l.getD j hi0).key] else []) := by
 rw [take_snocD (d := hi0) hj, List.filter_append, List.map_append]
 congr 1
 by_cases q : occ v (l.getD j hi0) t = true
 · rw [if_pos q, List.filter_cons_of_pos (by simpa using q)]; rfl
 · rw [if_neg q, List.filter_cons_of_neg (by simpa using q)]; rfl
theorem cutA_take {a b : Int} {l : List Hir} {i : Nat} (hi : i < l.length) : (l.take (i + 1)).flatMap (cutH a b) = (l.take i).flatMap (cutH a b) ++ cutH a b (l.getD i hi0) := by
 rw [take_snocD (d := hi0) hi, List.flatMap_append]; simp
theorem cutH_len {a b : Int} : ∀ ls : List Leg, (ls.flatMap (cutL a b)).length = 2 * ls.length := by
 intro ls
 induction ls with
 | nil => rfl
 | cons x r ih => rw [List.flatMap_cons, List.length_append, ih]; simp [cutL]; omega
theorem cutA_len {a b : Int} : ∀ l : List Hir, (∀ h ∈ l, h.legs.length ≤ 3) → (l.flatMap (cutH a b)).length ≤ 6 * l.length := by
 intro l
 induction l with
 | nil => intro _; simp
 | cons h l ih =>
   intro hl
   rw [List.flatMap_cons, List.length_append]
   have h1 := ih (fun k hk => hl k (by simp [hk]))
   have h2 := hl h (by simp)
   have h3 : (cutH a b h).length = 2 * h.legs.length := cutH_len h.legs
   rw [h3, List.length_cons]; omega
theorem KB_congr {ks : List KK} {has has' : List DV → Bool} {clock : Nat} {kb : List (List DV × Nat)} (h : ∀ K, wk ks K = true → has K = has' K) (hk : KB ks has clock kb) : KB ks has' clock kb :=
 ⟨hk.kw, fun key hw => by rw [← h key hw]; exact hk.kh key hw, hk.ki, hk.kl, hk.kd⟩
theorem KB_stamp {ks : List KK} {has : List DV → Bool} {clock : Nat} {kb : List (List DV × Nat)} (hk : KB ks has clock kb) {p q : List DV × Nat} (hp : p ∈ kb) (hq : q ∈ kb) : (p.2 = q.2 ↔ p.1 = q.1) := by
 obtain ⟨i, hi, rfl⟩ := List.getElem_of_mem hp
 obtain ⟨j, hj, rfl⟩ := List.getElem_of_mem hq
 have h1 : ∀ i j (hi : i < kb.length) (hj : j < kb.length), i < j → kb[i].2 < kb[j].2 := fun i j hi hj hij => by
  have := List.pairwise_iff_getElem.1 hk.ki i j (by simpa using hi) (by simpa using hj) hij
  simpa using this
 have h2 : ∀ i j (hi : i < kb.length) (hj : j < kb.length), i < j → kb[i].1 ≠ kb[j].1 := fun i j hi hj hij e => by
  have := List.pairwise_iff_getElem.1 hk.kd i j (by simpa using hi) (by simpa using hj) hij
  rw [List.getElem_map, List.getElem_map, ← e, keyEq_refl (hk.kw _ (List.getElem_mem hi))] at this
  cases this
 rcases Nat.lt_trichotomy i j with c | c | c
 · have := h1 i j hi hj c
   exact ⟨fun e => by omega, fun e => absurd e (h2 i j hi hj c)⟩
 · subst c; exact ⟨fun _ => rfl, fun _ => rfl⟩
 · have := h1 j i hj hi c
   exact ⟨fun e => by omega, fun e => absurd e.symm (h2 j i hj hi c)⟩
section
variable {v : List UInt8} {a b : Int} {l : List Hir}
theorem wtQ_key (hab : a ≤ b) (hne : ∀ g ∈ l, g.key ≠ []) {k : List UInt8} (h : 0 < wtQ v a b l k) : k ∈ ([] : List UInt8) :: l.map (·.key) := by
 unfold wtQ at h
 by_cases q : k = []
 · rw [q]; simp
 · by_cases hE : a = b
   · rw [if_pos hE, if_neg q] at h; omega
   · rw [if_neg hE] at h
     refine List.mem_cons_of_mem _ (Classical.byContradiction fun q2 => ?_)
     rw [wtK_other hne q (fun g hg e => q2 (List.mem_map.2 ⟨g, hg, e⟩)) b hab] at h
     omega
theorem ksQ_len (hab : a ≤ b) (hne : ∀ g ∈ l, g.key ≠ []) {ks : List (List UInt8)} (hn : ks.Nodup) (h : ∀ k ∈ ks, 0 < wtQ v a b l k) : ks.length ≤ l.length + 1 := by
 have := nodup_len (m := ([] : List UInt8) :: l.map (·.key)) hn (fun k hk => wtQ_key hab hne (h k hk))
 simpa using this
theorem kbQ_len (hab : a ≤ b) (hne : ∀ g ∈ l, g.key ≠ []) {has : List DV → Bool} {clock : Nat} {kb : List (List DV × Nat)} (hh : ∀ K, wk [.str] K = true → has K = decide (0 < wtQ v a b l (keyS K))) (hk : KB [.str] has clock kb) : kb.length ≤ l.length + 1 := by
 have hn : (kb.map fun p => keyS p.1).Nodup := by
  rw [List.Nodup, List.pairwise_map]
  have := hk.kd
  rw [List.pairwise_map] at this
  refine List.Pairwise.imp_of_mem (fun {p q} hp hq h e => ?_) this
  obtain ⟨s, hs⟩ := wk_str (hk.kw p hp)
  obtain ⟨t, ht⟩ := wk_str (hk.kw q hq)
  rw [hs, ht] at e h
  have e : s = t := e
  rw [e, keyEq_refl (ks := [.str]) (by simp [wk, wk1])] at h; cases h
 have := ksQ_len hab hne hn (fun k hkm => by
  obtain ⟨p, hp, rfl⟩ := List.mem_map.1 hkm
  have h1 := (hk.kh p.1 (hk.kw p hp)).2 ⟨p.2, hp⟩
  rw [hh p.1 (hk.kw p hp)] at h1
  simpa using h1)
 simpa using this
theorem wtsQ_len : (wtsQ v a b l).length ≤ l.length + 1 := by
 have := prts_len v a b l
 unfold wtsQ wtsP
 split
 · simp
 · split
   · simp; omega
   · omega
theorem wtsQ_pos (hab : a ≤ b) (hs : ∀ h ∈ l, lgSeq h.legs) (hn : ¬ clash v a b l) : ((wtsQ v a b l).map (·.2)).sum ≠ 0 := by
 have h0 := wtK_nonneg (v := v) (l := l) (a := a) [] b
 rw [wtK_nil hab hs hn] at h0
 unfold wtsQ wtsP
 split
 · simp
 · split
   · rw [List.map_cons, List.sum_cons, prts_sum]
     unfold offi at *; omega
   · rw [prts_sum]
     unfold offi at *; omega
theorem wtQ_le (hab : (0 ≤ a ∧ a ≤ b) ∧ b ≤ 5761440) (k : List UInt8) : 0 ≤ wtQ v a b l k ∧ wtQ v a b l k ≤ 5761440 := by
 have h1 := wtK_nonneg (v := v) (l := l) (a := a) k b
 have h2 := wtK_le (v := v) (l := l) (a := a) k hab.1.2
 unfold wtQ
 split
 · split <;> omega
 · omega
theorem ksQ_sort (hab : a ≤ b) (hs : ∀ h ∈ l, lgSeq h.legs) (hn : ¬ clash v a b l) (hne : ∀ g ∈ l, g.key ≠ []) (hks : l.Pairwise fun g h => Op.bytesLess g.key h.key = true) {ks : List (List UInt8)} (hnd : ks.Nodup)
 (hk : ∀ k, k ∈ ks ↔ 0 < wtQ v a b l k) : isort (fun p q : Pair => cmpS p.1 q.1) (ks.map fun k => (k, 0)) = (wtsQ v a b l).map fun p => (p.1, 0) := by
 have hmem := wtsQ_mem hab hs hn hne hks
 refine uniq_sorted (fun p q : Pair => Op.bytesLess p.1 q.1 = true) (fun p => by rw [less_irr]; simp) (fun p q r => less_trans) ?_ ?_ (fun p => ?_)
 · refine isort_pairwise (fun p q : Pair => cmpS p.1 q.1) (fun p q : Pair => Op.bytesLess p.1 q.1 = true) (fun p q r => less_trans) _ ?_
   rw [List.pairwise_map]
   refine hnd.imp (fun {x y} hxy => ?_)
   show (cmpS y x < 0 → Op.bytesLess y x = true) ∧ (¬ cmpS y x < 0 → Op.bytesLess x y = true)
   unfold cmpS
   cases q : Op.bytesLess y x with
   | true => simp
   | false =>
     have := less_tot q (Ne.symm hxy)
     rw [this]; simp
 · rw [List.pairwise_map]
   exact (wtsQ_sorted hne hks).imp fun h => h
 · rw [(isort_perm _ _).mem_iff, List.mem_map, List.mem_map]
   constructor
   · rintro ⟨k, hkm, rfl⟩
     exact ⟨(k, wtQ v a b l k), (hmem _).2 ⟨(hk k).1 hkm, rfl⟩, rfl⟩
   · rintro ⟨q, hq, rfl⟩
     exact ⟨q.1, (hk _).2 ((hmem q).1 hq).1, rfl⟩
end
set_option maxHeartbeats 8000000 in
theorem z36 (v : List UInt8) (a b : Int) (hab : (0 ≤ a ∧ a ≤ b) ∧ b ≤ 5761440) (l : List Hir) (hl : allK (hiB 3) 5 l) (hh : hirsE l = 0) (c : Int) :
 FSpec Tryz.prog 36 [.d (.str v), .agg [.d (.int .i64 a), .d (.int .i64 b)], .d (hirs l), .d (.int .i64 c)] []
  (fun y r => blPost (blmE v a b l c) y ∧ r = []) := by
 obtain ⟨⟨ha0, hab⟩, hb0⟩ := hab
 have hl5 := hl.1
 have hl3 : ∀ h ∈ l, h.legs.length ≤ 3 := fun h hh => (hl.2 h hh).2.2.1
 have hseq : ∀ g ∈ l, lgSeq g.legs := fun g hg => lgSeq_of ((hirs_seq hh).1 g hg)
 obtain ⟨hne, hks⟩ := key_sorted hh
 have hA := cutA_len (a := a) (b := b) l hl3
 have c75 := s109 c 0 1000000000
 refine spec_of hT (C := [35]) Tryz.func36 rfl Tryz.call36 rfl rfl rfl ?_
 conv => whnf
 repeat' (first | (refine br_intro ?_ ?_ <;> intro hb <;> (try simp only [brs] at hb) <;> conv => whnf) | (refine RegX.rule (id := 17) hT rfl [] oTBlE36_17 (by decide +kernel) ?_; conv => whnf) | (refine RegX.rule (id := 23) hT rfl [] oTBlE36_23 (by decide +kernel) ?_; conv => whnf) | omega | (refine And.intro ?_ ?_; ((try dsimp only); first | omega | (refine szA rfl ?_; omega) | (refine szB rfl ?_; omega) | (unfold inI64; omega) | exact rfl | (simp only [lns] at *; omega) | decide | (unfold inI64; decide)); conv => whnf) | decide | assumption)
 refine LoopX.rule hT (C := [35]) (ι := Nat) (fun i => i ≤ l.length)
  (fun i => mkSt [(0, .d (.str v)), (2, .d (hirs l)), (3, .d (.int .i64 c)), (5, .ptr 5 0), (10, .buf 10), (36, .d (hirs l)), (37, .d (.int .i64 l.length)), (38, .d (.int .i64 i))] [(5, vwC (a, b)), (10, seqB 3 1 iF 0 ([a, b] ++ (l.take i).flatMap (cutH a b)))])
  (fun i => l.length - i) 0 (by omega) (by (refine Entails.mk' [(5, 5), (10, 35)] rfl rfl ?_ ?_ <;> repeat' (first | exact True.intro | exact lr | exact rr | (exact Res.le_lit rfl rfl) | exact SV.le_int (by omega) | exact SV.le_any _ | refine And.intro ?_ ?_)); done) ?_
 rintro i p1
 have e1 : (i : Int).toNat = i := Int.toNat_natCast i
 by_cases hi : i < l.length
 · have hH : hiB 3 (l.getD (i : Int).toNat hi0) := hl.2 _ (getD_mem (by omega))
   have hHl := hH.2.2.1
   have hAi := cutA_len (a := a) (b := b) (l.take i) (fun h hh => hl3 h (List.mem_of_mem_take hh))
   have hAi : ((l.take i).flatMap (cutH a b)).length ≤ 30 := by rw [List.length_take] at hAi; omega
   conv => whnf
   repeat' (first | (refine br_intro ?_ ?_ <;> intro hb <;> (try simp only [brs] at hb) <;> conv => whnf) | (refine RegX.rule (id := 17) hT rfl [] oTBlE36_17 (by decide +kernel) ?_; conv => whnf) | (refine RegX.rule (id := 23) hT rfl [] oTBlE36_23 (by decide +kernel) ?_; conv => whnf) | omega | (refine And.intro ?_ ?_; ((try dsimp only); first | omega | (refine szA rfl ?_; omega) | (refine szB rfl ?_; omega) | (unfold inI64; omega) | exact rfl | (simp only [lns] at *; omega) | decide | (unfold inI64; decide)); conv => whnf) | decide | assumption)
   · refine LoopX.rule hT (C := [35]) (ι := Nat) (fun k => k ≤ (l.getD (i : Int).toNat hi0).legs.length)
      (fun k => mkSt [(0, .d (.str v)), (2, .d (hirs l)), (3, .d (.int .i64 c)), (5, .ptr 5 0), (10, .buf 10), (36, .d (hirs l)), (37, .d (.int .i64 l.length)), (38, .d (.int .i64 i)), (43, .d (legs (l.getD (i : Int).toNat hi0).legs)), (44, .d (.int .i64 (l.getD (i : Int).toNat hi0).legs.length)), (45, .d (.int .i64 k))] [(5, vwC (a, b)), (10, seqB 3 1 iF 0 ([a, b] ++ (l.take i).flatMap (cutH a b) ++ ((l.getD (i : Int).toNat hi0).legs.take k).flatMap (cutL a b)))])
      (fun k => (l.getD (i : Int).toNat hi0).legs.length - k) 0 (by omega) (by (refine Entails.mk' [(5, 5), (10, 10)] rfl rfl ?_ ?_ <;> repeat' (first | exact True.intro | exact lr | exact rr | (exact Res.le_buf (by simp) (fun i hi => by simp)) | exact SV.le_int (by omega) | exact SV.le_any _ | refine And.intro ?_ ?_)); done) ?_
     rintro k q1
     have f1 : (k : Int).toNat = k := Int.toNat_natCast k
     have hkl := cutH_len (a := a) (b := b) ((l.getD (i : Int).toNat hi0).legs.take k)
     have hlen : ([a, b] ++ (l.take i).flatMap (cutH a b) ++ ((l.getD (i : Int).toNat hi0).legs.take k).flatMap (cutL a b)).length ≤ 40 := by
      rw [List.length_append, List.length_append, hkl, List.length_take]
      simp only [List.length_cons, List.length_nil]
      omega
     by_cases hkk : k < (l.getD (i : Int).toNat hi0).legs.length
     all_goals have hkk' := hkk
     all_goals rw [e1] at hkk'
     · conv => whnf
       repeat' (first | (refine CallX.exact (z101 ((l.getD (i : Int).toNat hi0).legs.getD (k : Int).toNat lg0)) rfl rfl ?_; rotate_right; conv => whnf) | (refine br_intro ?_ ?_ <;> intro hb <;> (try simp only [brs] at hb) <;> conv => whnf) | (refine RegX.rule (id := 17) hT rfl [] oTBlE36_17 (by decide +kernel) ?_; conv => whnf) | (refine RegX.rule (id := 23) hT rfl [] oTBlE36_23 (by decide +kernel) ?_; conv => whnf) | omega | (refine And.intro ?_ ?_; ((try dsimp only); first | omega | (refine szA rfl ?_; omega) | (refine szB rfl ?_; omega) | (unfold inI64; omega) | exact rfl | (simp only [lns] at *; omega) | decide | (unfold inI64; decide)); conv => whnf) | decide | assumption)
       all_goals try (exfalso; omega)
       refine ⟨k + 1, by omega, by omega, ?_⟩
       rw [show (l.getD (i : Int).toNat hi0).legs.take (k + 1) = _ from take_snocD (d := lg0) hkk, List.flatMap_append, ← List.append_assoc]
       refine Entails.mk' [(5, 5), (10, 69)] rfl rfl ⟨lr, lr, lr, lr, lr, lr, lr, lr, lr, lr, SV.le_int (by omega), trivial⟩ ⟨rr, ?_, trivial⟩
       rw [show ([(l.getD (i : Int).toNat hi0).legs.getD k lg0].flatMap (cutL a b)) = [clp a b ((l.getD (i : Int).toNat hi0).legs.getD k lg0).out.tm, clp a b (lastE ((l.getD (i : Int).toNat hi0).legs.getD k lg0))] by simp [cutL]]
       rw [← f1]
       exact Res.le_app2 rfl rfl
     · have hke : k = (l.getD (i : Int).toNat hi0).legs.length := by omega
       conv => whnf
       repeat' (first | (refine CallX.exact (z101 ((l.getD (i : Int).toNat hi0).legs.getD (k : Int).toNat lg0)) rfl rfl ?_; rotate_right; conv => whnf) | (refine br_intro ?_ ?_ <;> intro hb <;> (try simp only [brs] at hb) <;> conv => whnf) | (refine RegX.rule (id := 17) hT rfl [] oTBlE36_17 (by decide +kernel) ?_; conv => whnf) | (refine RegX.rule (id := 23) hT rfl [] oTBlE36_23 (by decide +kernel) ?_; conv => whnf) | omega | (refine And.intro ?_ ?_; ((try dsimp only); first | omega | (refine szA rfl ?_; omega) | (refine szB rfl ?_; omega) | (unfold inI64; omega) | exact rfl | (simp only [lns] at *; omega) | decide | (unfold inI64; decide)); conv => whnf) | decide | assumption)
       all_goals try (exfalso; omega)
       refine ⟨i + 1, by omega, by omega, ?_⟩
       rw [cutA_take hi, ← List.append_assoc, hke, List.take_length, e1]
       exact (by (refine Entails.mk' [(5, 5), (10, 10)] rfl rfl ?_ ?_ <;> repeat' (first | exact True.intro | exact lr | exact rr | exact SV.le_int (by omega) | exact SV.le_any _ | refine And.intro ?_ ?_)); done)
 · have hie : i = l.length := by omega
   rw [hie, List.take_length]
   have hCd : [a, b] ++ l.flatMap (cutH a b) = cutsG a b l := rfl
   rw [hCd]
   have hCl : (cutsG a b l).length ≤ 32 := by
    unfold cutsG
    rw [List.length_append]
    simp only [List.length_cons, List.length_nil]
    omega
   have hC2 := cuts_pos (a := a) (b := b) (l := l)
   rw [sortI_length] at hC2
   have hf := cuts_first (l := l) hab
   have hla := cuts_last (l := l) hab
   conv => whnf
   repeat' (first | (refine CallX.of (z102 (cutsG a b l) (by omega) (by omega)) [(1000001, 10)] rfl ⟨lr, trivial⟩ ⟨rr, trivial⟩ rfl rfl ?_; rintro y rout ⟨rfl, rfl⟩; refine ⟨rfl, ?_⟩; conv => whnf) | (refine br_intro ?_ ?_ <;> intro hb <;> (try simp only [brs] at hb) <;> conv => whnf) | (refine RegX.rule (id := 17) hT rfl [] oTBlE36_17 (by decide +kernel) ?_; conv => whnf) | (refine RegX.rule (id := 23) hT rfl [] oTBlE36_23 (by decide +kernel) ?_; conv => whnf) | omega | (refine And.intro ?_ ?_; ((try dsimp only); first | omega | (refine szA rfl ?_; omega) | (refine szB rfl ?_; omega) | (unfold inI64; omega) | exact rfl | (simp only [lns] at *; omega) | decide | (unfold inI64; decide)); conv => whnf) | decide | assumption)
   all_goals try (exfalso; omega)
   obtain ⟨C, hC⟩ : ∃ C, C = sortI (cutsG a b l) := ⟨_, rfl⟩
   have hClen : C.length = (cutsG a b l).length := by rw [hC, sortI_length]
   rw [← hC] at hf hla ⊢
   have hbd : ∀ i, i < C.length → a ≤ C.getD i 0 ∧ C.getD i 0 ≤ b := fun i hi => by rw [hC] at hi ⊢; exact cuts_bd hab hi
   have hmono : ∀ i, 0 < i → i < C.length → C.getD (i - 1) 0 ≤ C.getD i 0 := fun i h0 hi => by rw [hC] at hi ⊢; exact sort_le (sortI_sorted _) (by omega) hi
   have hstep : ∀ i, 0 < i → i < C.length → ∀ k, wtK v l a k (C.getD i 0) = wtK v l a k (C.getD (i - 1) 0) + (if whoL v l (C.getD (i - 1) 0) = keyB1 k then C.getD i 0 - C.getD (i - 1) 0 else 0) := fun i h0 hi k => by rw [hC] at hi ⊢; exact wtK_step hab h0 hi k
   have hwho : ∀ i, 0 < i → i < C.length → ∀ t, C.getD (i - 1) 0 ≤ t → t < C.getD i 0 → whoL v l t = whoL v l (C.getD (i - 1) 0) := fun i h0 hi t => by rw [hC] at hi ⊢; exact who_const hab h0 hi
   refine LoopX.rule hT (C := [35]) (ι := Nat) (fun i => (1 ≤ i ∧ i ≤ C.length) ∧ ∀ t, a ≤ t → t < C.getD (i - 1) 0 → (whoL v l t).length < 2)
    (fun i => mkSt [(0, .d (.str v)), (2, .d (hirs l)), (3, .d (.int .i64 c)), (5, .ptr 5 0), (10, .buf 10), (16, .mp 16), (17, .d (.int .i64 i))] [(5, vwC (a, b)), (10, seqB 3 1 iF 0 C), (16, mpW fun k => wtK v l a k (C.getD (i - 1) 0))])
    (fun i => C.length - i) 1 ⟨⟨by omega, by omega⟩, fun t h1 h2 => by rw [hf] at h2; omega⟩ (by (refine Entails.mk' [(5, 5), (10, 10), (16, 74)] rfl rfl ?_ ?_ <;> repeat' (first | exact True.intro | exact lr | exact rr | (refine Res.le_map fun K hK => ?_; rw [hf]; exact ⟨by simp [wtK, sm, smN], by simp [wtK, sm, smN]; rfl⟩) | exact SV.le_int (by omega) | exact SV.le_any _ | refine And.intro ?_ ?_)); done) ?_
   rintro i ⟨⟨p1, p2⟩, hno⟩
   have e1 : (i : Int).toNat = i := Int.toNat_natCast i
   have e2 : ((i : Int) - 1).toNat = i - 1 := by omega
   by_cases hi : i < C.length
   · have hb1 := hbd i hi
     have hb2 := hbd (i - 1) (by omega)
     have hm := hmono i p1 hi
     have hst := hstep i p1 hi
     have hwh := hwho i p1 hi
     have hI : inI64 (C.getD (i : Int).toNat 0 - C.getD ((i : Int) - 1).toNat 0) := by rw [e1, e2]; unfold inI64; omega
     conv => whnf
     repeat' (first | (refine And.intro hI ?_; conv => whnf) | (refine br_intro ?_ ?_ <;> intro hb <;> (try simp only [brs] at hb) <;> conv => whnf) | (refine RegX.rule (id := 17) hT rfl [] oTBlE36_17 (by decide +kernel) ?_; conv => whnf) | (refine RegX.rule (id := 23) hT rfl [] oTBlE36_23 (by decide +kernel) ?_; conv => whnf) | omega | (refine And.intro ?_ ?_; ((try dsimp only); first | omega | (refine szA rfl ?_; omega) | (refine szB rfl ?_; omega) | (unfold inI64; omega) | exact rfl | (simp only [lns] at *; omega) | decide | (unfold inI64; decide)); conv => whnf) | decide | assumption)
     all_goals try (exfalso; omega)
     · have h00 : C.getD i 0 = C.getD (i - 1) 0 := by rw [e2] at hb; omega
       exact ⟨i + 1, ⟨⟨by omega, by omega⟩, fun t h1 h2 => hno t h1 (by rw [Nat.add_sub_cancel, h00] at h2; exact h2)⟩, by omega, (by (refine Entails.mk' [(5, 5), (10, 10), (16, 16)] rfl rfl ?_ ?_ <;> repeat' (first | exact True.intro | exact lr | exact rr | (rw [Nat.add_sub_cancel, h00]; exact rr) | exact SV.le_int (by omega) | exact SV.le_any _ | refine And.intro ?_ ?_)); done)⟩
     have hlg : C.getD i 0 - C.getD (i - 1) 0 ≠ 0 := by rw [e2] at hb; exact hb
     have hlt : C.getD (i - 1) 0 < C.getD i 0 := by omega
     refine LoopX.rule hT (C := [35]) (ι := Nat) (fun j => j ≤ l.length)
      (fun j => mkSt [(0, .d (.str v)), (2, .d (hirs l)), (3, .d (.int .i64 c)), (5, .ptr 5 0), (10, .buf 10), (16, .mp 16), (17, .d (.int .i64 i)), (18, .d (.int .i64 (C.getD i 0 - C.getD (i - 1) 0))), (19, .buf 19), (93, .d (hirs l)), (94, .d (.int .i64 l.length)), (95, .d (.int .i64 j))] [(5, vwC (a, b)), (10, seqB 3 1 iF 0 C), (16, mpW fun k => wtK v l a k (C.getD (i - 1) 0)), (19, seqB 9 1 sF [] (((l.take j).filter fun h => occ v h (C.getD (i - 1) 0)).map (·.key)))])
      (fun j => l.length - j) 0 (by omega) ?_ ?_
     · exact (Entails.nil 19 19 9 1 (rowF sF [] []) rfl rfl (by decide)).trans (by (refine Entails.mk' [(5, 5), (10, 10), (16, 16), (19, 19)] rfl rfl ?_ ?_ <;> repeat' (first | exact True.intro | exact lr | exact rr | (exact SV.le_int (by rw [e1, e2])) | exact SV.le_int (by omega) | exact SV.le_any _ | refine And.intro ?_ ?_)); done)
     rintro j q1
     have f1 : (j : Int).toNat = j := Int.toNat_natCast j
     have hwl : (((l.take j).filter fun h => occ v h (C.getD (i - 1) 0)).map (·.key)).length ≤ 5 := by
      rw [List.length_map]
      have := List.length_filter_le (fun h => occ v h (C.getD (i - 1) 0)) (l.take j)
      rw [List.length_take] at this; omega
     by_cases hj : j < l.length
     · have hg : l.getD (j : Int).toNat hi0 ∈ l := getD_mem (by omega)
       have hgl := hl3 _ hg
       have cw := z103 [l.getD (j : Int).toNat hi0] (by simp) (fun h hh => by simp at hh; rw [hh]; exact hseq _ hg) (fun h hh => by rw [List.mem_singleton.1 hh]; omega) v (C.getD ((i : Int) - 1).toNat 0)
       rw [withK_one] at cw
       have hft := filt_take (v := v) (t := C.getD (i - 1) 0) hj
       cases ho : occ v (l.getD j hi0) (C.getD (i - 1) 0) with
       | true =>
         rw [f1, e2, ho, if_pos rfl] at cw
         rw [ho, if_pos rfl] at hft
         rw [← f1, ← e2] at cw
         conv => whnf
         repeat' (first | (refine CallX.pure cw ⟨SV.le_lit rfl rfl, lr, lr, trivial⟩ rfl ?_; conv => whnf) | (refine br_intro ?_ ?_ <;> intro hb <;> (try simp only [brs] at hb) <;> conv => whnf) | (refine RegX.rule (id := 17) hT rfl [] oTBlE36_17 (by decide +kernel) ?_; conv => whnf) | (refine RegX.rule (id := 23) hT rfl [] oTBlE36_23 (by decide +kernel) ?_; conv => whnf) | omega | (refine And.intro ?_ ?_; ((try dsimp only); first | omega | (refine szA rfl ?_; omega) | (refine szB rfl ?_; omega) | (unfold inI64; omega) | exact rfl | (simp only [lns] at *; omega) | decide | (unfold inI64; decide)); conv => whnf) | decide | assumption)
         all_goals try (exfalso; omega)
         refine ⟨j + 1, by omega, by omega, ?_⟩
         rw [hft]
         exact Entails.mk' [(5, 5), (10, 10), (16, 16), (19, 116)] rfl rfl ⟨lr, lr, lr, lr, lr, lr, lr, lr, lr, lr, lr, SV.le_int (by omega), trivial⟩ ⟨rr, rr, rr, Res.le_snocF (by rw [show l.getD j hi0 = l.getD (j : Int).toNat hi0 by rw [f1]]; rfl), trivial⟩
       | false =>
         rw [f1, e2, ho, if_neg (by simp)] at cw
         rw [ho, if_neg (by simp), List.append_nil] at hft
         rw [← f1, ← e2] at cw
         conv => whnf
         repeat' (first | (refine CallX.pure cw ⟨SV.le_lit rfl rfl, lr, lr, trivial⟩ rfl ?_; conv => whnf) | (refine br_intro ?_ ?_ <;> intro hb <;> (try simp only [brs] at hb) <;> conv => whnf) | (refine RegX.rule (id := 17) hT rfl [] oTBlE36_17 (by decide +kernel) ?_; conv => whnf) | (refine RegX.rule (id := 23) hT rfl [] oTBlE36_23 (by decide +kernel) ?_; conv => whnf) | omega | (refine And.intro ?_ ?_; ((try dsimp only); first | omega | (refine szA rfl ?_; omega) | (refine szB rfl ?_; omega) | (unfold inI64; omega) | exact rfl | (simp only [lns] at *; omega) | decide | (unfold inI64; decide)); conv => whnf) | decide | assumption)
         all_goals try (exfalso; omega)
         refine ⟨j + 1, by omega, by omega, ?_⟩
         rw [hft]
         exact (by (refine Entails.mk' [(5, 5), (10, 10), (16, 16), (19, 19)] rfl rfl ?_ ?_ <;> repeat' (first | exact True.intro | exact lr | exact rr | exact SV.le_int (by omega) | exact SV.le_any _ | refine And.intro ?_ ?_)); done)
     · have hje : j = l.length := by omega
       have hSd : ((l.take j).filter fun h => occ v h (C.getD (i - 1) 0)).map (·.key) = whoL v l (C.getD (i - 1) 0) := by rw [hje, List.take_length]; rfl
       have hin : ∀ x ∈ whoL v l (C.getD (i - 1) 0), x ≠ [] := fun x hx => by
        obtain ⟨g, hg, rfl⟩ := List.mem_map.1 hx
        exact hne g (List.mem_filter.1 hg).1
       have hw0 := fun k => wtK_nonneg (v := v) (a := a) (l := l) k (C.getD (i - 1) 0)
       have hw1 := fun k => wtK_le (v := v) (a := a) (l := l) k (t := C.getD (i - 1) 0) hb2.1
       have hI2 : ∀ k, inI64 (wtK v l a k (C.getD (i - 1) 0) + (C.getD i 0 - C.getD (i - 1) 0)) := fun k => by
        have := hw0 k
        have := hw1 k
        unfold inI64; omega
       have hclash : 2 ≤ (whoL v l (C.getD (i - 1) 0)).length → clash v a b l := fun q => ⟨_, hb2.1, by omega, q⟩
       have hno2 : (whoL v l (C.getD (i - 1) 0)).length < 2 → ∀ t, a ≤ t → t < C.getD (i + 1 - 1) 0 → (whoL v l t).length < 2 := fun q t h1 h2 => by
        rw [Nat.add_sub_cancel] at h2
        rcases Int.lt_or_le t (C.getD (i - 1) 0) with c | c
        · exact hno t h1 c
        · rw [hwh t c h2]; exact q
       rw [hSd]
       rw [hSd] at hwl
       generalize hS : whoL v l (C.getD (i - 1) 0) = S at hst hwl hin hclash hno2 ⊢
       match S, hst, hwl, hin, hclash, hno2 with
       | [], hst, hwl, hin, hclash, hno2 =>
         conv => whnf
         repeat' (first | (refine And.intro (hI2 _) ?_; conv => whnf) | (refine br_intro ?_ ?_ <;> intro hb <;> (try simp only [brs] at hb) <;> conv => whnf) | (refine RegX.rule (id := 17) hT rfl [] oTBlE36_17 (by decide +kernel) ?_; conv => whnf) | (refine RegX.rule (id := 23) hT rfl [] oTBlE36_23 (by decide +kernel) ?_; conv => whnf) | omega | (refine And.intro ?_ ?_; ((try dsimp only); first | omega | (refine szA rfl ?_; omega) | (refine szB rfl ?_; omega) | (unfold inI64; omega) | exact rfl | (simp only [lns] at *; omega) | decide | (unfold inI64; decide)); conv => whnf) | decide | assumption)
         all_goals try (exfalso; first | omega | (simp at hb; done))
         refine ⟨i + 1, ⟨⟨by omega, by omega⟩, hno2 (by simp)⟩, by omega, ?_⟩
         refine Entails.mk' [(5, 5), (10, 10), (16, 16)] rfl rfl ⟨lr, lr, lr, lr, lr, lr, SV.le_int (by omega), trivial⟩ ⟨rr, rr, ?_, trivial⟩
         rw [Nat.add_sub_cancel]
         exact mpW_up (g := fun k => wtK v l a k (C.getD (i - 1) 0)) (g' := fun k => wtK v l a k (C.getD i 0)) (x := []) (n := C.getD i 0 - C.getD (i - 1) 0) (by omega) hw0 (fun k => by show wtK v l a k (C.getD i 0) = wtK v l a k (C.getD (i - 1) 0) + _; rw [hst k]; congr 1; simp only [keyB1_nil])
       | [x], hst, hwl, hin, hclash, hno2 =>
         conv => whnf
         repeat' (first | (refine And.intro (hI2 _) ?_; conv => whnf) | (refine br_intro ?_ ?_ <;> intro hb <;> (try simp only [brs] at hb) <;> conv => whnf) | (refine RegX.rule (id := 17) hT rfl [] oTBlE36_17 (by decide +kernel) ?_; conv => whnf) | (refine RegX.rule (id := 23) hT rfl [] oTBlE36_23 (by decide +kernel) ?_; conv => whnf) | omega | (refine And.intro ?_ ?_; ((try dsimp only); first | omega | (refine szA rfl ?_; omega) | (refine szB rfl ?_; omega) | (unfold inI64; omega) | exact rfl | (simp only [lns] at *; omega) | decide | (unfold inI64; decide)); conv => whnf) | decide | assumption)
         all_goals try (exfalso; first | omega | (simp at hb; done))
         refine ⟨i + 1, ⟨⟨by omega, by omega⟩, hno2 (by simp)⟩, by omega, ?_⟩
         refine Entails.mk' [(5, 5), (10, 10), (16, 16)] rfl rfl ⟨lr, lr, lr, lr, lr, lr, SV.le_int (by omega), trivial⟩ ⟨rr, rr, ?_, trivial⟩
         rw [Nat.add_sub_cancel]
         exact mpW_up (g := fun k => wtK v l a k (C.getD (i - 1) 0)) (g' := fun k => wtK v l a k (C.getD i 0)) (x := x) (n := C.getD i 0 - C.getD (i - 1) 0) (by omega) hw0 (fun k => by show wtK v l a k (C.getD i 0) = wtK v l a k (C.getD (i - 1) 0) + _; rw [hst k]; congr 1; simp only [keyB1_one (hin x (by simp))])
       | x :: y :: r, hst, hwl, hin, hclash, hno2 =>
         conv => whnf
         repeat' (first | (refine And.intro (hI2 _) ?_; conv => whnf) | (refine br_intro ?_ ?_ <;> intro hb <;> (try simp only [brs] at hb) <;> conv => whnf) | (refine RegX.rule (id := 17) hT rfl [] oTBlE36_17 (by decide +kernel) ?_; conv => whnf) | (refine RegX.rule (id := 23) hT rfl [] oTBlE36_23 (by decide +kernel) ?_; conv => whnf) | omega | (refine And.intro ?_ ?_; ((try dsimp only); first | omega | (refine szA rfl ?_; omega) | (refine szB rfl ?_; omega) | (unfold inI64; omega) | exact rfl | (simp only [lns] at *; omega) | decide | (unfold inI64; decide)); conv => whnf) | decide | assumption)
         all_goals try (exfalso; first | omega | (simp at hb; done) | (simp at hb; omega))
         refine .weak _ ?_
         conv => whnf
         refine ⟨.tup [.d (pairs []), .d (.int .i64 13)], [], SV.le_tup ⟨SV.le_nilS, lr, trivial⟩, ⟨?_, rfl⟩, trivial⟩
         unfold blPost blmE
         rw [if_pos (hclash (by simp))]
   · have hie : i = C.length := by omega
     rw [hie, hla] at hno
     rw [hie, hla]
     have hnc : ¬ clash v a b l := fun ⟨t, h1, h2, h3⟩ => by have := hno t h1 h2; omega
     have hmq := wtsQ_mem hab hseq hnc hne hks
     have hE0 : a = b → ∀ k, wtK v l a k b = 0 := fun q k => by subst q; simp [wtK, sm, smN]
     have hM1 : a = b → ∀ K, wk [.str] K = true → (keyEq K [.str []] || decide (0 < wtK v l a (keyS K) b)) = decide (0 < wtQ v a b l (keyS K)) ∧ (bif keyEq K [.str []] then [DV.int .i64 1] else [.int .i64 (wtK v l a (keyS K) b)]) = [.int .i64 (wtQ v a b l (keyS K))] := fun q K hK => by
      obtain ⟨s, rfl⟩ := wk_str hK
      have e : keyEq [.str s] [.str []] = decide (s = []) := by rw [Bool.eq_iff_iff]; simp [keyEq, keyEq1]
      rw [e]
      show (decide (s = []) || decide (0 < wtK v l a s b)) = decide (0 < wtQ v a b l s) ∧ (bif decide (s = []) then [DV.int .i64 1] else [.int .i64 (wtK v l a s b)]) = [.int .i64 (wtQ v a b l s)]
      rw [hE0 q]
      unfold wtQ
      rw [if_pos q]
      by_cases q2 : s = []
      · rw [if_pos q2, decide_eq_true q2]; simp
      · rw [if_neg q2, decide_eq_false q2]; simp
     have hM2 : a ≠ b → ∀ K, wk [.str] K = true → decide (0 < wtK v l a (keyS K) b) = decide (0 < wtQ v a b l (keyS K)) ∧ [DV.int .i64 (wtK v l a (keyS K) b)] = [.int .i64 (wtQ v a b l (keyS K))] := fun q K hK => by
      unfold wtQ; rw [if_neg q]; exact ⟨rfl, rfl⟩
     by_cases hc : 0 ≤ c ∧ c ≤ 1000000000
     · rw [decide_eq_true hc] at c75
       have hres := mkS_wtsQ hc hnc
       by_cases hE : a = b
       all_goals
        first
         | have hMB := hM1 hE
         | have hMB := hM2 hE
        clear hM1 hM2
        conv => whnf
        repeat' (first | (refine CallX.exact (c75) rfl rfl ?_; rotate_right; conv => whnf) | (intro clock kb hkb; have hkl := kbQ_len hab hne (fun K hK => (hMB K hK).1) hkb; conv => whnf) | (refine br_intro ?_ ?_ <;> intro hb <;> (try simp only [brs] at hb) <;> conv => whnf) | (refine RegX.rule (id := 17) hT rfl [] oTBlE36_17 (by decide +kernel) ?_; conv => whnf) | (refine RegX.rule (id := 23) hT rfl [] oTBlE36_23 (by decide +kernel) ?_; conv => whnf) | omega | (refine And.intro ?_ ?_; ((try dsimp only); first | omega | (refine szA rfl ?_; omega) | (refine szB rfl ?_; omega) | (unfold inI64; omega) | exact rfl | (simp only [lns] at *; omega) | decide | (unfold inI64; decide)); conv => whnf) | decide | assumption)
        all_goals try (exfalso; omega)
        have hkq := KB_congr (fun K hK => (hMB K hK).1) hkb
        refine LoopX.rule hT (C := [35]) (ι := List Nat × List (List UInt8)) (fun (seen, ks) => ks.Nodup ∧ (∀ k b', ([DV.str k], b') ∈ kb → (b' ∈ seen ↔ k ∈ ks)) ∧ ∀ k ∈ ks, 0 < wtQ v a b l k)
         (fun (seen, ks) => mkSt [(3, .d (.int .i64 c)), (16, .mp 16), (24, .buf 24), (25, .d .nilsl), (148, .ptr 148 0)] [(16, .mapB false false [.str] [.int .i64 0] (fun K => decide (0 < wtQ v a b l (keyS K))) (fun K => [.int .i64 (wtQ v a b l (keyS K))]) clock kb), (24, shB (ks.map fun k => (k, 0))), (148, .iter 16 clock seen)])
         (fun (seen, _) => (kb.filter fun p => !seen.contains p.2).length) ([], []) ⟨by simp, by simp, by simp⟩ ?_ ?_
        · exact (Entails.nil 24 24 74 2 (rowF pF ([], 0) []) rfl rfl (by decide)).trans (by (refine Entails.mk' [(16, 16), (24, 24), (148, 148)] rfl rfl ?_ ?_ <;> repeat' (first | exact True.intro | exact lr | exact rr | (exact Res.le_mapBB hMB) | exact SV.le_int (by omega) | exact SV.le_any _ | refine And.intro ?_ ?_)); done)
        rintro ⟨seen, ks⟩ ⟨g1, g2, g3⟩
        have g1 : ks.Nodup := g1
        have g2 : ∀ k b', ([DV.str k], b') ∈ kb → (b' ∈ seen ↔ k ∈ ks) := g2
        have g3 : ∀ k ∈ ks, 0 < wtQ v a b l k := g3
        have hkl2 := ksQ_len hab hne g1 g3
        have hml : (ks.map fun k => ((k, 0) : Pair)).length = ks.length := by simp
        conv => whnf
        repeat' (first | (refine br_intro ?_ ?_ <;> intro hb <;> (try simp only [brs] at hb) <;> conv => whnf) | (refine RegX.rule (id := 17) hT rfl [] oTBlE36_17 (by decide +kernel) ?_; conv => whnf) | (refine RegX.rule (id := 23) hT rfl [] oTBlE36_23 (by decide +kernel) ?_; conv => whnf) | omega | (refine And.intro ?_ ?_; ((try dsimp only); first | omega | (refine szA rfl ?_; omega) | (refine szB rfl ?_; omega) | (unfold inI64; omega) | exact rfl | (simp only [lns] at *; omega) | decide | (unfold inI64; decide)); conv => whnf) | decide | assumption)
        refine ⟨rfl, fun key b' hkb1 hseen => ?_, fun hall => ?_⟩
        · obtain ⟨s, rfl⟩ := wk_str (hkb.kw _ hkb1)
          have hs0 : 0 < wtQ v a b l s := by
           have := (hkq.kh _ (hkq.kw _ hkb1)).2 ⟨_, hkb1⟩
           exact of_decide_eq_true (this : decide (0 < wtQ v a b l s) = true)
          have hsn : s ∉ ks := fun q => hseen ((g2 s b' hkb1).2 q)
          conv => whnf
          repeat' (first | (refine ⟨rfl, _, hkb1, ?_⟩; conv => whnf) | (refine br_intro ?_ ?_ <;> intro hb <;> (try simp only [brs] at hb) <;> conv => whnf) | (refine RegX.rule (id := 17) hT rfl [] oTBlE36_17 (by decide +kernel) ?_; conv => whnf) | (refine RegX.rule (id := 23) hT rfl [] oTBlE36_23 (by decide +kernel) ?_; conv => whnf) | omega | (refine And.intro ?_ ?_; ((try dsimp only); first | omega | (refine szA rfl ?_; omega) | (refine szB rfl ?_; omega) | (unfold inI64; omega) | exact rfl | (simp only [lns] at *; omega) | decide | (unfold inI64; decide)); conv => whnf) | decide | assumption)
          refine ⟨(b' :: seen, ks ++ [s]), ⟨?_, fun k b2 hk2 => ?_, fun k hk => ?_⟩, ?_, ?_⟩
          · rw [List.nodup_append]
            exact ⟨g1, by simp, fun x hx y hy => by simp at hy; subst hy; exact fun e => hsn (by rw [← e]; exact hx)⟩
          · have hst := KB_stamp hkb hk2 hkb1
            simp only [List.mem_cons, List.mem_append, List.not_mem_nil, or_false]
            rw [g2 k b2 hk2]
            have : b2 = b' ↔ k = s := by rw [show (b2 = b') = ((([DV.str k], b2) : List DV × Nat).2 = (([DV.str s], b') : List DV × Nat).2) from rfl, hst]; simp
            rw [this]
            exact or_comm
          · rcases List.mem_append.1 hk with q | q
            · exact g3 k q
            · simp at q; subst q; exact hs0
          · show (kb.filter fun p => !(b' :: seen).contains p.2).length < (kb.filter fun p => !seen.contains p.2).length
            have e : kb.filter (fun p => !(b' :: seen).contains p.2) = (kb.filter fun p => !seen.contains p.2).filter fun p => !(p.2 == b') := by
             rw [List.filter_filter]
             refine List.filter_congr fun p _ => ?_
             simp [List.contains_cons, Bool.and_comm]
             rfl
            rw [e]
            refine Nat.lt_of_le_of_ne (List.length_filter_le _ _) (fun q => ?_)
            have := (List.length_filter_eq_length_iff.1 q) ([.str s], b') (List.mem_filter.2 ⟨hkb1, by simpa using hseen⟩)
            simp at this
          · show Entails _ (mkSt _ [_, (24, shB ((ks ++ [s]).map fun k => (k, 0))), _])
            rw [List.map_append]
            exact Entails.mk' [(16, 16), (24, 157), (148, 148)] rfl rfl ⟨lr, lr, lr, lr, lr, trivial⟩ ⟨rr, Res.le_snocF (f := pF) (d := (([], 0) : Pair)) (l := ks.map fun k => ((k, 0) : Pair)) (x := ((s, 0) : Pair)) rfl, rr, trivial⟩
        · have hiff : ∀ k, k ∈ ks ↔ 0 < wtQ v a b l k := fun k => ⟨g3 k, fun q => by
           obtain ⟨b', hb'⟩ := (hkq.kh [.str k] (by simp [wk, wk1])).1 (decide_eq_true (show 0 < wtQ v a b l (keyS [.str k]) from q))
           exact (g2 k b' hb').1 (hall _ hb')⟩
          have hsrt := ksQ_sort hab hseq hnc hne hks g1 hiff
          have cS := sSortSh 105 (fun p q : Pair => cmpS p.1 q.1) (ks.map fun k => (k, 0)) (by simp; omega) (fun p q _ _ => z105 p q)
          rw [hsrt] at cS
          have hWl := wtsQ_len (v := v) (a := a) (b := b) (l := l)
          obtain ⟨W, hW⟩ : ∃ W, W = wtsQ v a b l := ⟨_, rfl⟩
          have hWs := wtsQ_pos hab hseq hnc
          rw [← hW] at cS hmq hWl hres hWs
          conv => whnf
          repeat' (first | (refine CallX.of cS [(1000001, 24)] rfl ⟨lr, lr, trivial⟩ ⟨rr, trivial⟩ rfl rfl ?_; rintro y rout ⟨rfl, rfl⟩; refine ⟨rfl, ?_⟩; conv => whnf) | (refine br_intro ?_ ?_ <;> intro hb <;> (try simp only [brs] at hb) <;> conv => whnf) | (refine RegX.rule (id := 17) hT rfl [] oTBlE36_17 (by decide +kernel) ?_; conv => whnf) | (refine RegX.rule (id := 23) hT rfl [] oTBlE36_23 (by decide +kernel) ?_; conv => whnf) | omega | (refine And.intro ?_ ?_; ((try dsimp only); first | omega | (refine szA rfl ?_; omega) | (refine szB rfl ?_; omega) | (unfold inI64; omega) | exact rfl | (simp only [lns] at *; omega) | decide | (unfold inI64; decide)); conv => whnf) | decide | assumption)
          refine LoopX.rule hT (C := [35]) (ι := Nat) (fun i => i ≤ W.length)
           (fun i => mkSt [(3, .d (.int .i64 c)), (16, .mp 16), (24, .buf 24), (25, .buf 25), (160, .buf 24), (161, .d (.int .i64 W.length)), (162, .d (.int .i64 i))] [(16, mpW fun k => wtQ v a b l k), (24, shB (W.map fun p => (p.1, 0))), (25, seqB 3 1 iF 0 ((W.take i).map (·.2)))])
           (fun i => W.length - i) 0 (by omega) ?_ ?_
          · exact (Entails.nil 25 25 3 1 (rowF iF 0 []) rfl rfl (by decide)).trans (by (refine Entails.mk' [(16, 16), (24, 24), (25, 25)] rfl rfl ?_ ?_ <;> repeat' (first | exact True.intro | exact lr | exact rr | (exact Res.le_mapB (fun K _ => ⟨rfl, rfl⟩)) | (exact SV.le_int (by simp)) | exact SV.le_int (by omega) | exact SV.le_any _ | refine And.intro ?_ ?_)); done)
          rintro i i1
          have e1 : (i : Int).toNat = i := Int.toNat_natCast i
          have hmap : (W.map fun p => ((p.1, 0) : Pair)).length = W.length := by simp
          have hml2 : ((W.take i).map (·.2)).length = i := by simp; omega
          by_cases hi : i < W.length
          · have hWi : W.getD i ([], 0) ∈ W := getD_mem hi
            have hq := ((hmq _).1 hWi).2
            have hkey : ((W.map fun p => ((p.1, 0) : Pair)).getD (i : Int).toNat ([], 0)).1 = (W.getD i ([], 0)).1 := by
             rw [e1, List.getD_eq_getElem?_getD, List.getElem?_map, List.getD_eq_getElem?_getD, List.getElem?_eq_getElem hi]; rfl
            conv => whnf
            repeat' (first | (refine br_intro ?_ ?_ <;> intro hb <;> (try simp only [brs] at hb) <;> conv => whnf) | (refine RegX.rule (id := 17) hT rfl [] oTBlE36_17 (by decide +kernel) ?_; conv => whnf) | (refine RegX.rule (id := 23) hT rfl [] oTBlE36_23 (by decide +kernel) ?_; conv => whnf) | omega | (refine And.intro ?_ ?_; ((try dsimp only); first | omega | (refine szA rfl ?_; omega) | (refine szB rfl ?_; omega) | (unfold inI64; omega) | exact rfl | (simp only [lns] at *; omega) | decide | (unfold inI64; decide)); conv => whnf) | decide | assumption)
            all_goals try (exfalso; simp at hb; omega)
            refine ⟨i + 1, by omega, by omega, ?_⟩
            rw [take_snocD (d := (([], 0) : Pair)) hi, List.map_append]
            refine Entails.mk' [(16, 16), (24, 24), (25, 172)] rfl rfl ⟨lr, lr, lr, lr, lr, lr, SV.le_int (by omega), trivial⟩ ⟨rr, rr, ?_, trivial⟩
            refine Res.le_snocF (x := (W.getD i ([], 0)).2) ?_
            rw [hq, ← hkey]; rfl
          · have hie2 : i = W.length := by omega
            rw [hie2, List.take_length]
            have hwb : ∀ x ∈ W.map (·.2), 0 ≤ x ∧ x ≤ 5761440 := fun x hx => by
             obtain ⟨p, hp, rfl⟩ := List.mem_map.1 hx
             rw [((hmq p).1 hp).2]; exact wtQ_le ⟨⟨ha0, hab⟩, hb0⟩ _
            have hnn := sum_nonneg fun x hx => (hwb x hx).1
            have hlb := left_bound c (W.map (·.2)) hc.1 (fun x hx => (hwb x hx).1) (by omega)
            have c38 := s38 c (W.map (·.2)) hc hwb (by simp; omega) hWs
            rw [← splitG_eq c _ hlb] at c38
            have hPl : (splitG c (W.map (·.2))).length = W.length := by rw [splitG_eq c _ hlb, rngL_length]; simp
            obtain ⟨P1, hP1⟩ : ∃ P1, P1 = splitG c (W.map (·.2)) := ⟨_, rfl⟩
            rw [← hP1] at c38 hPl
            conv => whnf
            repeat' (first | (refine CallX.freeze _ _ _ _ 25 3 1 _ _ rfl rfl ?_; refine CallX.pure c38 ⟨lr, lr, trivial⟩ rfl ?_; conv => whnf) | (refine br_intro ?_ ?_ <;> intro hb <;> (try simp only [brs] at hb) <;> conv => whnf) | (refine RegX.rule (id := 17) hT rfl [] oTBlE36_17 (by decide +kernel) ?_; conv => whnf) | (refine RegX.rule (id := 23) hT rfl [] oTBlE36_23 (by decide +kernel) ?_; conv => whnf) | omega | (refine And.intro ?_ ?_; ((try dsimp only); first | omega | (refine szA rfl ?_; omega) | (refine szB rfl ?_; omega) | (unfold inI64; omega) | exact rfl | (simp only [lns] at *; omega) | decide | (unfold inI64; decide)); conv => whnf) | decide | assumption)
            all_goals try (exfalso; simp at hb; omega)
            refine LoopX.rule hT (C := [35]) (ι := List Pair × Nat) (fun (Q, i) => (i ≤ P1.length ∧ Q.length = W.length) ∧ (∀ j, j < i → (Q.getD j ([], 0)).2 = P1.getD j 0) ∧ ∀ j, (Q.getD j ([], 0)).1 = ((W.map fun p => ((p.1, 0) : Pair)).getD j ([], 0)).1)
             (fun (Q, i) => mkSt [(24, .buf 24), (176, .d (ints P1)), (177, .d (.int .i64 P1.length)), (178, .d (.int .i64 i))] [(24, shB Q)]) (fun (_, i) => P1.length - i) (W.map fun p => (p.1, 0), 0) ⟨⟨by simp, by simp⟩, by simp, fun _ => rfl⟩ (by (refine Entails.mk' [(24, 24)] rfl rfl ?_ ?_ <;> repeat' (first | exact True.intro | exact lr | exact rr | exact SV.le_int (by omega) | exact SV.le_any _ | refine And.intro ?_ ?_)); done) ?_
            rintro ⟨Q, i⟩ ⟨⟨g1, g2⟩, g3, g4⟩
            have g1 : i ≤ P1.length := g1
            have g2 : Q.length = W.length := g2
            have e1 : (i : Int).toNat = i := Int.toNat_natCast i
            conv => whnf
            repeat' (first | (refine br_intro ?_ ?_ <;> intro hb <;> (try simp only [brs] at hb) <;> conv => whnf) | (refine RegX.rule (id := 17) hT rfl [] oTBlE36_17 (by decide +kernel) ?_; conv => whnf) | (refine RegX.rule (id := 23) hT rfl [] oTBlE36_23 (by decide +kernel) ?_; conv => whnf) | omega | (refine And.intro ?_ ?_; ((try dsimp only); first | omega | (refine szA rfl ?_; omega) | (refine szB rfl ?_; omega) | (unfold inI64; omega) | exact rfl | (simp only [lns] at *; omega) | decide | (unfold inI64; decide)); conv => whnf) | decide | assumption)
            · refine ⟨(Q.set (i : Int).toNat ((Q.getD (i : Int).toNat ([], 0)).1, P1.getD (i : Int).toNat 0), i + 1), ⟨⟨by omega, by simpa using g2⟩, fun j hj => ?_, fun j => ?_⟩, (show P1.length - (i + 1) < P1.length - i by omega), Entails.mk' [(24, 24)] rfl rfl ⟨lr, lr, lr, lr, trivial⟩ ⟨Res.le_upd (f := pF) (fun p : Pair => (p.1, P1.getD (i : Int).toNat 0)) (fun _ => rfl), trivial⟩⟩
              · show ((Q.set (i : Int).toNat _).getD j ([], 0)).2 = _
                rw [e1]
                by_cases q : j = i
                · subst q; rw [getD_set_eq (by omega)]
                · rw [getD_set_ne (by omega)]; exact g3 j (by have : j < i + 1 := hj; omega)
              · exact getD_set_fst.trans (g4 j)
            · have hi : i = P1.length := by omega
              refine .freeze _ 24 74 2 _ _ rfl (.weak _ ?_)
              conv => whnf
              refine ⟨.tup [.d (pairs Q), .d (.int .i64 0)], [], SV.le_tup ⟨lr, lr, trivial⟩, ⟨?_, rfl⟩, trivial⟩
              unfold blPost
              rw [hres]
              have : Q = mkS c W := by
               refine mkS_eq g2 (by rw [← hP1]; exact hPl) (fun j hj => ?_) (fun j hj => ?_)
               · rw [g4, List.getD_eq_getElem?_getD, List.getElem?_map, List.getD_eq_getElem?_getD, List.getElem?_eq_getElem hj]; rfl
               · rw [← hP1]; exact g3 j (by omega)
              rw [← this]
     · rw [decide_eq_false hc] at c75
       have hres : blmE v a b l c = ([], 1) := by
        unfold blmE
        rw [if_neg hnc, if_pos hc]
       by_cases hE : a = b
       all_goals
        first
         | have hMB := hM1 hE
         | have hMB := hM2 hE
        clear hM1 hM2
        conv => whnf
        repeat' (first | (refine CallX.exact (c75) rfl rfl ?_; rotate_right; conv => whnf) | (intro clock kb hkb; have hkl := kbQ_len hab hne (fun K hK => (hMB K hK).1) hkb; conv => whnf) | (refine br_intro ?_ ?_ <;> intro hb <;> (try simp only [brs] at hb) <;> conv => whnf) | (refine RegX.rule (id := 17) hT rfl [] oTBlE36_17 (by decide +kernel) ?_; conv => whnf) | (refine RegX.rule (id := 23) hT rfl [] oTBlE36_23 (by decide +kernel) ?_; conv => whnf) | omega | (refine And.intro ?_ ?_; ((try dsimp only); first | omega | (refine szA rfl ?_; omega) | (refine szB rfl ?_; omega) | (unfold inI64; omega) | exact rfl | (simp only [lns] at *; omega) | decide | (unfold inI64; decide)); conv => whnf) | decide | assumption)
        all_goals try (exfalso; omega)
        refine .weak _ ?_
        conv => whnf
        refine ⟨.tup [.d (pairs []), .d (.int .i64 1)], [], SV.le_tup ⟨SV.le_nilS, lr, trivial⟩, ⟨?_, rfl⟩, trivial⟩
        unfold blPost
        rw [hres]
def oTBlF4_4 : List (Nat × List Nat) := [(0, []), (4, [0]), (6, [0, 4]), (1, [4, 6]), (2, [4, 6]), (3, [4, 6]), (5, [6]), (7, []), (8, []), (9, []), (10, [])]
theorem blmE_len (v : List UInt8) (a b : Int) (l : List Hir) (c : Int) : (blmE v a b l c).1.length ≤ l.length + 1 := by
 unfold blmE
 split
 · simp
 · split
   · simp
   · split
     · simp
     · show (mkS c (wtsP v a b l)).length ≤ _
       unfold mkS
       rw [List.length_zipWith]
       have := prts_len v a b l
       unfold wtsP
       split
       · simp; omega
       · omega
theorem blmF_len (v : List UInt8) (a b : Int) (l : List Hir) (c : Int) : (blmF v a b l c).1.length ≤ l.length + 1 := by
 unfold blmF
 split
 · exact blmE_len v a b l c
 · simp
set_option maxHeartbeats 4000000 in
theorem z4 (n : Nat) (L : Nat → Int) (hn : n ≤ maxLen) (hl : ∀ i, -2^63 ≤ L i ∧ L i < 2^63) : FSpec Tryz.prog 4 [.d (.ro 1 n fun i => [.int .i64 (L i)])] [] (fun x r => x = .d (.bool true) ∧ r = []) := by
 have hL : Rok n L := ⟨hn, hl⟩
 refine spec_of hT (C := []) Tryz.func4 rfl Tryz.call4 rfl rfl rfl ?_
 conv => whnf
 repeat' (first | (refine CallX.of (s15 n L hL _ ?_ ?_ [[118, 49], [118, 49], [118, 50], []] (by simp) (by simp)) [(1000000, 14)] rfl ⟨lr, SV.le_lit rfl rfl, trivial⟩ ⟨rr, trivial⟩ rfl rfl ?_; rotate_right; rintro x rout ⟨⟨v, hv, rfl⟩, ⟨c, c1, c2, rfl⟩⟩; have hv8 := mem_len hv rfl; refine ⟨rfl, ?_⟩; conv => whnf) | (refine CallX.of (sWin n L hL _ ?_ ?_) [(1000000, 14)] rfl ⟨lr, trivial⟩ ⟨rr, trivial⟩ rfl rfl ?_; rotate_right; rintro x rout ⟨⟨a, b, rfl⟩, ⟨c, c3, c4, rfl⟩⟩; refine ⟨rfl, ?_⟩; conv => whnf) | (refine CallX.of (s64 n L hL _ ?_ ?_ 0 3 ?_ ?_ ?_ ?_) [(1000000, 14)] rfl ⟨lr, lr, lr, trivial⟩ ⟨rr, trivial⟩ rfl rfl ?_; rotate_right; rintro x rout ⟨⟨m, hm0, hm1, rfl⟩, ⟨c, c1, c2, rfl⟩⟩; refine ⟨rfl, ?_⟩; conv => whnf) | (refine CallX.of (sHirs n L hL _ ?_ ?_ m ?_ ?_) [(1000000, 14)] rfl ⟨lr, lr, trivial⟩ ⟨rr, trivial⟩ rfl rfl ?_; rotate_right; rintro x rout ⟨⟨l, hl5, rfl⟩, ⟨c, c5, c6, rfl⟩⟩; refine ⟨rfl, ?_⟩; conv => whnf) | (refine CallX.of (s33 n L hL _ ?_ ?_ [0, 100, 1000, 99999, -1] ?_ ?_) [(1000000, 14)] rfl ⟨lr, SV.le_lit rfl rfl, trivial⟩ ⟨rr, trivial⟩ rfl rfl ?_; rotate_right; rintro x rout ⟨⟨ce, hce, rfl⟩, ⟨c, c1, c2, rfl⟩⟩; refine ⟨rfl, ?_⟩; conv => whnf) | (refine br_intro ?_ ?_ <;> intro hb <;> (try simp only [brs] at hb) <;> conv => whnf) | (refine RegX.rule (id := 4) hT rfl [] oTBlF4_4 (by decide +kernel) ?_; conv => whnf) | omega | (refine And.intro ?_ ?_; ((try dsimp only); first | omega | (refine szA rfl ?_; omega) | (refine szB rfl ?_; omega) | (unfold inI64; omega) | exact rfl | (simp only [lns] at *; omega) | decide | (unfold inI64; decide)); conv => whnf) | decide | assumption)
 have hvl : v.length ≤ 2^40 := by omega
 have hok : hiOk l := ⟨by have := hl5.1; omega, fun h hh => hiB_K (hl5.2 h hh) (by omega)⟩
 have c33 := z33 v hvl a b l hl5 ce
 have c21 := s21 v hvl
 have c80 := z80 a b
 have c81 := z81 l hok
 have cE := s17 [if (!isKeyB v) = true then 5 else 0, winE a b, hirsE l] (by simp)
 rw [show firstE [if (!isKeyB v) = true then 5 else 0, winE a b, hirsE l] = blE0 v a b l from rfl] at cE
 have hlen := blmF_len v a b l ce
 have hl1 := hl5.1
 by_cases hE : blE0 v a b l = 0
 · have hw : winE a b = 0 := by
    unfold blE0 at hE
    simp only [firstE] at hE
    grind
   have hh0 : hirsE l = 0 := by
    unfold blE0 at hE
    simp only [firstE] at hE
    grind
   have hab : (0 ≤ a ∧ a ≤ b) ∧ b ≤ 5761440 := by unfold winE at hw; grind
   have c36 := z36 v a b hab l hl5 hh0 ce
   have hF : blmF v a b l ce = blmE v a b l ce := by unfold blmF; rw [if_pos hE]
   rw [hF] at c33 hlen
   rw [hE] at cE
   generalize blmE v a b l ce = Q at c33 c36 hlen
   have c44 := s44 Q.1 Q.1 (by omega)
   repeat' (first | (refine CallX.of c33 [] rfl ⟨lr, lr, lr, lr, trivial⟩ trivial rfl rfl ?_; rintro y rout ⟨hy, rfl⟩; unfold blPost at hy; subst hy; refine ⟨rfl, ?_⟩; conv => whnf) | (refine CallX.exact (c21) rfl rfl ?_; rotate_right; conv => whnf) | (refine CallX.exact (s20 _ _) rfl rfl ?_; rotate_right; conv => whnf) | (refine CallX.exact (c80) rfl rfl ?_; rotate_right; conv => whnf) | (refine CallX.exact (c81) rfl rfl ?_; rotate_right; conv => whnf) | (refine CallX.pure cE ⟨SV.le_lit (by rfl) (by rfl), trivial⟩ rfl ?_; conv => whnf) | (refine CallX.of c36 [] rfl ⟨lr, lr, lr, lr, trivial⟩ trivial rfl rfl ?_; rintro y rout ⟨hy, rfl⟩; unfold blPost at hy; subst hy; refine ⟨rfl, ?_⟩; conv => whnf) | (refine CallX.exact (c44) rfl rfl ?_; rotate_right; conv => whnf) | (refine CallX.exact (s42) rfl rfl ?_; rotate_right; conv => whnf) | (refine br_intro ?_ ?_ <;> intro hb <;> (try simp only [brs] at hb) <;> conv => whnf) | (refine RegX.rule (id := 4) hT rfl [] oTBlF4_4 (by decide +kernel) ?_; conv => whnf) | omega | (refine And.intro ?_ ?_; ((try dsimp only); first | omega | (refine szA rfl ?_; omega) | (refine szB rfl ?_; omega) | (unfold inI64; omega) | exact rfl | (simp only [lns] at *; omega) | decide | (unfold inI64; decide)); conv => whnf) | decide | assumption)
   all_goals first
    | (refine .ret _ ?_
       conv => whnf
       refine ⟨[], ⟨?_, rfl⟩, trivial⟩
       conv => lhs; whnf
       done)
    | (refine .ret _ ?_
       conv => whnf
       refine ⟨[], ⟨?_, rfl⟩, trivial⟩
       conv => lhs; whnf
       simp)
    | (exfalso; simp at hb)
 · have hF : blmF v a b l ce = ([], blE0 v a b l) := by unfold blmF; rw [if_neg hE]
   rw [hF] at c33
   generalize blE0 v a b l = E at c33 cE hE
   have c44 := s44 [] [] (by simp)
   repeat' (first | (refine CallX.of c33 [] rfl ⟨lr, lr, lr, lr, trivial⟩ trivial rfl rfl ?_; rintro y rout ⟨hy, rfl⟩; unfold blPost at hy; subst hy; refine ⟨rfl, ?_⟩; conv => whnf) | (refine CallX.exact (c21) rfl rfl ?_; rotate_right; conv => whnf) | (refine CallX.exact (s20 _ _) rfl rfl ?_; rotate_right; conv => whnf) | (refine CallX.exact (c80) rfl rfl ?_; rotate_right; conv => whnf) | (refine CallX.exact (c81) rfl rfl ?_; rotate_right; conv => whnf) | (refine CallX.pure cE ⟨SV.le_lit (by rfl) (by rfl), trivial⟩ rfl ?_; conv => whnf) | (refine CallX.pure c44 ⟨lr, SV.le_nilS, trivial⟩ rfl ?_; conv => whnf) | (refine CallX.exact (s42) rfl rfl ?_; rotate_right; conv => whnf) | (refine br_intro ?_ ?_ <;> intro hb <;> (try simp only [brs] at hb) <;> conv => whnf) | (refine RegX.rule (id := 4) hT rfl [] oTBlF4_4 (by decide +kernel) ?_; conv => whnf) | omega | (refine And.intro ?_ ?_; ((try dsimp only); first | omega | (refine szA rfl ?_; omega) | (refine szB rfl ?_; omega) | (unfold inI64; omega) | exact rfl | (simp only [lns] at *; omega) | decide | (unfold inI64; decide)); conv => whnf) | decide | assumption)
   all_goals first
    | (exfalso; omega)
    | (refine .ret _ ?_
       conv => whnf
       refine ⟨[], ⟨?_, rfl⟩, trivial⟩
       conv => lhs; whnf
       done)
    | (refine .ret _ ?_
       conv => whnf
       refine ⟨[], ⟨?_, rfl⟩, trivial⟩
       conv => lhs; whnf
       simp)
    | (exfalso; simp at hb)
def oTNtU3_4 : List (Nat × List Nat) := [(0, []), (2, [0]), (1, [2]), (3, []), (4, []), (5, [])]
def oTNtU3_16 : List (Nat × List Nat) := [(0, []), (1, []), (2, [0, 1]), (3, [0, 1, 2]), (4, [0, 1]), (5, []), (6, [])]
def oTNtU3_18 : List (Nat × List Nat) := [(0, []), (1, [0]), (2, [0]), (4, [0, 1, 2]), (6, [0, 1, 2, 4]), (7, [0, 1, 2, 4, 6]), (8, [0, 1, 2, 4, 6]), (9, [0, 1, 2, 4]), (3, [0, 4, 6, 7, 8, 9]), (5, [0, 6, 7, 8, 9]), (10, [0]), (11, []), (12, []), (13, [])]
theorem z27 (t : Int) : FSpec Tryz.prog 27 [.d (.int .i64 t)] [] (fun x r => x = .d (.int .i64 (if 0 ≤ t ∧ t ≤ 5761439 then 0 else 1)) ∧ r = []) := by
 refine spec_of hT (C := []) Tryz.func27 rfl Tryz.call27 rfl rfl rfl ?_
 conv => whnf
 repeat' (first | (refine CallX.exact (s133 _) rfl rfl ?_; rotate_right; conv => whnf) | (refine CallX.exact (s20 _ _) rfl rfl ?_; rotate_right; conv => whnf) | (refine br_intro ?_ ?_ <;> intro hb <;> (try simp only [brs] at hb) <;> conv => whnf) | omega | (refine And.intro ?_ ?_; ((try dsimp only); first | omega | (refine szA rfl ?_; omega) | (refine szB rfl ?_; omega) | (unfold inI64; omega) | exact rfl | (simp only [lns] at *; omega) | decide | (unfold inI64; decide)); conv => whnf) | decide | assumption)
 refine .ret _ ?_
 conv => whnf
 refine ⟨[], ⟨?_, rfl⟩, trivial⟩
 conv => lhs; whnf
 congr 2
 grind
theorem nameE0_eq (f : Flt) (h : List Hir) (r : Ntr) (l : List Ntc) : firstE [fltE f, hirsE h, ntrE r, ntcsE l] = nameE0 f h r l := by
 unfold nameE0 offE
 simp only [firstE]
 grind
theorem nameE0_zero {f : Flt} {h : List Hir} {r : Ntr} {l : List Ntc} (q : nameE0 f h r l = 0) : fltE f = 0 ∧ hirsE h = 0 ∧ ntrE r = 0 ∧ ntcsE l = 0 := by
 rw [← nameE0_eq] at q
 simp only [firstE] at q
 grind
theorem hirs_lgSeq {l : List Hir} (h : hirsE l = 0) : ∀ x ∈ l, lgSeq x.legs := fun x hx => lgSeq_of ((hirs_seq h).1 x hx)
theorem dueE_eq (r : Ntr) (n : Ntc) (t : Int) : firstE [ntrE r, ntcsE [n], if 0 ≤ t ∧ t ≤ 5761439 then 0 else 1, if decide (t < n.came) = true then 11 else 0] = dueE r n t := by
 unfold dueE; simp only [decide_eq_true_eq]
theorem pk6 {x : Int} (h : x ∈ [0, 1440, 20160, 21600, 57600, -1]) : -1 ≤ x ∧ x ≤ 57600 := by
 simp at h; omega
set_option maxHeartbeats 8000000 in
theorem z3 (n : Nat) (L : Nat → Int) (hn : n ≤ maxLen) (hl : ∀ i, -2^63 ≤ L i ∧ L i < 2^63) : FSpec Tryz.prog 3 [.d (.ro 1 n fun i => [.int .i64 (L i)])] [] (fun x r => x = .d (.bool true) ∧ r = []) := by
 have hL : Rok n L := ⟨hn, hl⟩
 refine spec_of hT (C := []) Tryz.func3 rfl Tryz.call3 rfl rfl rfl ?_
 conv => whnf
 repeat' (first | (refine CallX.of (sFlt n L hL _ ?_ ?_) [(1000000, 22)] rfl ⟨lr, trivial⟩ ⟨rr, trivial⟩ rfl rfl ?_; rotate_right; rintro xx rout ⟨⟨f, hf, rfl⟩, ⟨c, c1, c2, rfl⟩⟩; refine ⟨rfl, ?_⟩; conv => whnf) | (refine CallX.of (s64 n L hL _ ?_ ?_ 0 3 ?_ ?_ ?_ ?_) [(1000000, 22)] rfl ⟨lr, lr, lr, trivial⟩ ⟨rr, trivial⟩ rfl rfl ?_; rotate_right; rintro x rout ⟨⟨m, hm0, hm1, rfl⟩, ⟨c, c1, c2, rfl⟩⟩; refine ⟨rfl, ?_⟩; conv => whnf) | (refine CallX.of (sHirs n L hL _ ?_ ?_ m ?_ ?_) [(1000000, 22)] rfl ⟨lr, lr, trivial⟩ ⟨rr, trivial⟩ rfl rfl ?_; rotate_right; rintro xx rout ⟨⟨h, hl5, rfl⟩, ⟨c, c5, c6, rfl⟩⟩; refine ⟨rfl, ?_⟩; conv => whnf) | (refine CallX.of (sNrl n L hL _ ?_ ?_) [(1000000, 22)] rfl ⟨lr, trivial⟩ ⟨rr, trivial⟩ rfl rfl ?_; rotate_right; rintro xx rout ⟨⟨r, rfl⟩, ⟨c, c7, c8, rfl⟩⟩; refine ⟨rfl, ?_⟩; conv => whnf) | (refine CallX.of (sNts n L hL _ ?_ ?_) [(1000000, 22)] rfl ⟨lr, trivial⟩ ⟨rr, trivial⟩ rfl rfl ?_; rotate_right; rintro xx rout ⟨⟨x, hx3, rfl⟩, ⟨c, c9, c10, rfl⟩⟩; refine ⟨rfl, ?_⟩; conv => whnf) | (refine br_intro ?_ ?_ <;> intro hb <;> (try simp only [brs] at hb) <;> conv => whnf) | (refine RegX.rule (id := 4) hT rfl [] oTNtU3_4 (by decide +kernel) ?_; conv => whnf) | (refine RegX.rule (id := 16) hT rfl [] oTNtU3_16 (by decide +kernel) ?_; conv => whnf) | (refine RegX.rule (id := 18) hT rfl [] oTNtU3_18 (by decide +kernel) ?_; conv => whnf) | omega | (refine And.intro ?_ ?_; ((try dsimp only); first | omega | (refine szA rfl ?_; omega) | (refine szB rfl ?_; omega) | (unfold inI64; omega) | exact rfl | (simp only [lns] at *; omega) | decide | (unfold inI64; decide)); conv => whnf) | decide | assumption)
 have hok : hiOk h := ⟨by have := hl5.1; omega, fun y hy => hiB_K (hl5.2 y hy) (by omega)⟩
 have hlg : ∀ y ∈ h, y.legs.length ≤ 2^40 := fun y hy => (hok.2 y hy).2.2.1
 have hx0 := hx3.1
 have hxk : ntOk x := ⟨by omega, fun y hy => ⟨by have := (hx3.2 y hy).1; omega, by have := (hx3.2 y hy).2.1; omega⟩⟩
 have C15 := z15n f hf.ok h hok hlg r x hxk
 have C21 := z21 f hf.ok
 have C22 := z81 h hok
 have CE := s17 [fltE f, hirsE h, ntrE r, ntcsE x] (by simp)
 rw [nameE0_eq] at CE
 by_cases E : nameE0 f h r x = 0
 · obtain ⟨E1, E2, E3, E4⟩ := nameE0_zero E
   have C23 := z23 f E1 h hok.1 (hirs_lgSeq E2) hlg E2 r E3 x E4
   have hN := namL_eq E1 E2 r E4
   rw [hN, if_neg (by omega)] at C15
   rw [E] at CE
   have hnl := nmdL_len f.plt h r x
   rw [if_neg (by omega)] at C15 C23
   have C24 := z24 (nmdL f.plt h r x) (nmdL f.plt h r x) (by omega)
   repeat' (first | (refine CallX.exact (C15) rfl rfl ?_; rotate_right; conv => whnf) | (refine CallX.exact (z16 x hxk) rfl rfl ?_; rotate_right; conv => whnf) | (refine CallX.exact (z17r r) rfl rfl ?_; rotate_right; conv => whnf) | (refine CallX.exact (sNotices x hxk) rfl rfl ?_; rotate_right; conv => whnf) | (refine CallX.exact (sNtRules r) rfl rfl ?_; rotate_right; conv => whnf) | (refine CallX.exact (C21) rfl rfl ?_; rotate_right; conv => whnf) | (refine CallX.exact (C22) rfl rfl ?_; rotate_right; conv => whnf) | (refine CallX.pure CE ⟨SV.le_lit (by rfl) (by rfl), trivial⟩ rfl ?_; conv => whnf) | (refine CallX.exact (C23) rfl rfl ?_; rotate_right; conv => whnf) | (refine CallX.exact (C24) rfl rfl ?_; rotate_right; conv => whnf) | (refine br_intro ?_ ?_ <;> intro hb <;> (try simp only [brs] at hb) <;> conv => whnf) | (refine RegX.rule (id := 4) hT rfl [] oTNtU3_4 (by decide +kernel) ?_; conv => whnf) | (refine RegX.rule (id := 16) hT rfl [] oTNtU3_16 (by decide +kernel) ?_; conv => whnf) | (refine RegX.rule (id := 18) hT rfl [] oTNtU3_18 (by decide +kernel) ?_; conv => whnf) | omega | (refine And.intro ?_ ?_; ((try dsimp only); first | omega | (refine szA rfl ?_; omega) | (refine szB rfl ?_; omega) | (unfold inI64; omega) | exact rfl | (simp only [lns] at *; omega) | decide | (unfold inI64; decide)); conv => whnf) | decide | assumption)
   refine LoopX.rule hT (C := []) (ι := Int × Nat) (fun (b, i) => (c ≤ b ∧ b ≤ c + 40 * i) ∧ i ≤ x.length) (fun (b, i) => mkSt [(3, .ptr 22 0), (6, .ptr 6 0), (11, .d (.int .i64 (ntrE r))), (82, .d (ntcs x)), (83, .d (.int .i64 x.length)), (84, .d (.int .i64 i))] [(22, strm n L b), (6, .cells 37 ((ntrF r).map .d))]) (fun (_, i) => x.length - i) (c, 0) ⟨⟨Int.le_refl _, by omega⟩, by omega⟩ (by (refine Entails.mk' [(22, 22), (6, 6)] rfl rfl ?_ ?_ <;> repeat' (first | exact True.intro | exact lr | exact rr | exact SV.le_int (by omega) | exact SV.le_any _ | refine And.intro ?_ ?_)); done) ?_
   rintro ⟨b, i⟩ ⟨⟨b1, b2⟩, p1⟩
   have b1 : c ≤ b := b1
   have b2 : b ≤ c + 40 * i := b2
   have p1 : i ≤ x.length := p1
   have e1 : (i : Int).toNat = i := Int.toNat_natCast i
   rcases Nat.lt_or_ge i x.length with hi | hi
   · have hn := hx3.2 (x.getD (i : Int).toNat ntc0) (getD_mem (by omega))
     have hnK : ntK (x.getD (i : Int).toNat ntc0) := ⟨by have := hn.1; omega, by have := hn.2.1; omega⟩
     have hcm := hn.2.2
     conv => whnf
     repeat' (first | (refine CallX.of (s33 n L hL _ ?_ ?_ [0, 1440, 20160, 21600, 57600, -1] ?_ ?_) [(1000000, 22)] rfl ⟨lr, SV.le_lit rfl rfl, trivial⟩ ⟨rr, trivial⟩ rfl rfl ?_; rotate_right; rintro x rout ⟨⟨d, hd, rfl⟩, ⟨c, c1, c2, rfl⟩⟩; have hd2 := pk6 hd; refine ⟨rfl, ?_⟩; conv => whnf) | (refine br_intro ?_ ?_ <;> intro hb <;> (try simp only [brs] at hb) <;> conv => whnf) | (refine RegX.rule (id := 4) hT rfl [] oTNtU3_4 (by decide +kernel) ?_; conv => whnf) | (refine RegX.rule (id := 16) hT rfl [] oTNtU3_16 (by decide +kernel) ?_; conv => whnf) | (refine RegX.rule (id := 18) hT rfl [] oTNtU3_18 (by decide +kernel) ?_; conv => whnf) | omega | (refine And.intro ?_ ?_; ((try dsimp only); first | omega | (refine szA rfl ?_; omega) | (refine szB rfl ?_; omega) | (unfold inI64; omega) | exact rfl | (simp only [lns] at *; omega) | decide | (unfold inI64; decide)); conv => whnf) | decide | assumption)
     have hD := sDue r (x.getD (i : Int).toNat ntc0) ((x.getD (i : Int).toNat ntc0).came + d) hnK
     unfold dueW at hD
     have hE := s17 [ntrE r, ntcsE [x.getD (i : Int).toNat ntc0], if 0 ≤ (x.getD (i : Int).toNat ntc0).came + d ∧ (x.getD (i : Int).toNat ntc0).came + d ≤ 5761439 then 0 else 1, if decide ((x.getD (i : Int).toNat ntc0).came + d < (x.getD (i : Int).toNat ntc0).came) = true then 11 else 0] (by simp)
     rw [dueE_eq] at hE
     by_cases hz : dueE r (x.getD (i : Int).toNat ntc0) ((x.getD (i : Int).toNat ntc0).came + d) = 0
     · rw [if_pos hz] at hD
       rw [hz] at hE
       have h29 := z29 r (x.getD (i : Int).toNat ntc0) ((x.getD (i : Int).toNat ntc0).came + d) hz
       repeat' (first | (refine CallX.exact (hD) rfl rfl ?_; rotate_right; conv => whnf) | (refine CallX.pure (z16 [x.getD (i : Int).toNat ntc0] (ntOk_one hnK)) ⟨SV.le_lit (by rfl) (by rfl), trivial⟩ rfl ?_; conv => whnf) | (refine CallX.exact (z27 _) rfl rfl ?_; rotate_right; conv => whnf) | (refine CallX.exact (s20 _ _) rfl rfl ?_; rotate_right; conv => whnf) | (refine CallX.pure hE ⟨SV.le_lit (by rfl) (by rfl), trivial⟩ rfl ?_; conv => whnf) | (refine CallX.exact (h29) rfl rfl ?_; rotate_right; conv => whnf) | (refine br_intro ?_ ?_ <;> intro hb <;> (try simp only [brs] at hb) <;> conv => whnf) | (refine RegX.rule (id := 4) hT rfl [] oTNtU3_4 (by decide +kernel) ?_; conv => whnf) | (refine RegX.rule (id := 16) hT rfl [] oTNtU3_16 (by decide +kernel) ?_; conv => whnf) | (refine RegX.rule (id := 18) hT rfl [] oTNtU3_18 (by decide +kernel) ?_; conv => whnf) | omega | (refine And.intro ?_ ?_; ((try dsimp only); first | omega | (refine szA rfl ?_; omega) | (refine szB rfl ?_; omega) | (unfold inI64; omega) | exact rfl | (simp only [lns] at *; omega) | decide | (unfold inI64; decide)); conv => whnf) | decide | assumption)
       exact ⟨(c, i + 1), ⟨⟨by omega, by push_cast; omega⟩, by omega⟩, (show x.length - (i + 1) < x.length - i by omega), (by (refine Entails.mk' [(22, 22), (6, 6)] rfl rfl ?_ ?_ <;> repeat' (first | exact True.intro | exact lr | exact rr | exact SV.le_int (by omega) | exact SV.le_any _ | refine And.intro ?_ ?_)); done)⟩
     · rw [if_neg hz] at hD
       generalize dueE r (x.getD (i : Int).toNat ntc0) ((x.getD (i : Int).toNat ntc0).came + d) = e at hD hE hz
       repeat' (first | (refine CallX.exact (hD) rfl rfl ?_; rotate_right; conv => whnf) | (refine CallX.pure (z16 [x.getD (i : Int).toNat ntc0] (ntOk_one hnK)) ⟨SV.le_lit (by rfl) (by rfl), trivial⟩ rfl ?_; conv => whnf) | (refine CallX.exact (z27 _) rfl rfl ?_; rotate_right; conv => whnf) | (refine CallX.exact (s20 _ _) rfl rfl ?_; rotate_right; conv => whnf) | (refine CallX.pure hE ⟨SV.le_lit (by rfl) (by rfl), trivial⟩ rfl ?_; conv => whnf) | (refine br_intro ?_ ?_ <;> intro hb <;> (try simp only [brs] at hb) <;> conv => whnf) | (refine RegX.rule (id := 4) hT rfl [] oTNtU3_4 (by decide +kernel) ?_; conv => whnf) | (refine RegX.rule (id := 16) hT rfl [] oTNtU3_16 (by decide +kernel) ?_; conv => whnf) | (refine RegX.rule (id := 18) hT rfl [] oTNtU3_18 (by decide +kernel) ?_; conv => whnf) | omega | (refine And.intro ?_ ?_; ((try dsimp only); first | omega | (refine szA rfl ?_; omega) | (refine szB rfl ?_; omega) | (unfold inI64; omega) | exact rfl | (simp only [lns] at *; omega) | decide | (unfold inI64; decide)); conv => whnf) | decide | assumption)
       exact ⟨(c, i + 1), ⟨⟨by omega, by push_cast; omega⟩, by omega⟩, (show x.length - (i + 1) < x.length - i by omega), (by (refine Entails.mk' [(22, 22), (6, 6)] rfl rfl ?_ ?_ <;> repeat' (first | exact True.intro | exact lr | exact rr | exact SV.le_int (by omega) | exact SV.le_any _ | refine And.intro ?_ ?_)); done)⟩
   · conv => whnf
     repeat' (first | (refine CallX.exact (s24) rfl rfl ?_; rotate_right; conv => whnf) | (refine br_intro ?_ ?_ <;> intro hb <;> (try simp only [brs] at hb) <;> conv => whnf) | (refine RegX.rule (id := 4) hT rfl [] oTNtU3_4 (by decide +kernel) ?_; conv => whnf) | (refine RegX.rule (id := 16) hT rfl [] oTNtU3_16 (by decide +kernel) ?_; conv => whnf) | (refine RegX.rule (id := 18) hT rfl [] oTNtU3_18 (by decide +kernel) ?_; conv => whnf) | omega | (refine And.intro ?_ ?_; ((try dsimp only); first | omega | (refine szA rfl ?_; omega) | (refine szB rfl ?_; omega) | (unfold inI64; omega) | exact rfl | (simp only [lns] at *; omega) | decide | (unfold inI64; decide)); conv => whnf) | decide | assumption)
     refine .ret _ ?_
     conv => whnf
     refine ⟨[], ⟨?_, rfl⟩, trivial⟩
     conv => lhs; whnf
 · rw [if_pos E] at C15
   have C24 := z24 [] [] (by simp)
   generalize nameE0 f h r x = e at C15 CE E
   repeat' (first | (refine CallX.exact (C15) rfl rfl ?_; rotate_right; conv => whnf) | (refine CallX.exact (z16 x hxk) rfl rfl ?_; rotate_right; conv => whnf) | (refine CallX.exact (z17r r) rfl rfl ?_; rotate_right; conv => whnf) | (refine CallX.exact (sNotices x hxk) rfl rfl ?_; rotate_right; conv => whnf) | (refine CallX.exact (sNtRules r) rfl rfl ?_; rotate_right; conv => whnf) | (refine CallX.exact (C21) rfl rfl ?_; rotate_right; conv => whnf) | (refine CallX.exact (C22) rfl rfl ?_; rotate_right; conv => whnf) | (refine CallX.pure CE ⟨SV.le_lit (by rfl) (by rfl), trivial⟩ rfl ?_; conv => whnf) | (refine CallX.pure C24 ⟨SV.le_nilS, SV.le_nilS, trivial⟩ rfl ?_; conv => whnf) | (refine br_intro ?_ ?_ <;> intro hb <;> (try simp only [brs] at hb) <;> conv => whnf) | (refine RegX.rule (id := 4) hT rfl [] oTNtU3_4 (by decide +kernel) ?_; conv => whnf) | (refine RegX.rule (id := 16) hT rfl [] oTNtU3_16 (by decide +kernel) ?_; conv => whnf) | (refine RegX.rule (id := 18) hT rfl [] oTNtU3_18 (by decide +kernel) ?_; conv => whnf) | omega | (refine And.intro ?_ ?_; ((try dsimp only); first | omega | (refine szA rfl ?_; omega) | (refine szB rfl ?_; omega) | (unfold inI64; omega) | exact rfl | (simp only [lns] at *; omega) | decide | (unfold inI64; decide)); conv => whnf) | decide | assumption)
   refine LoopX.rule hT (C := []) (ι := Int × Nat) (fun (b, i) => (c ≤ b ∧ b ≤ c + 40 * i) ∧ i ≤ x.length) (fun (b, i) => mkSt [(3, .ptr 22 0), (6, .ptr 6 0), (11, .d (.int .i64 (ntrE r))), (82, .d (ntcs x)), (83, .d (.int .i64 x.length)), (84, .d (.int .i64 i))] [(22, strm n L b), (6, .cells 37 ((ntrF r).map .d))]) (fun (_, i) => x.length - i) (c, 0) ⟨⟨Int.le_refl _, by omega⟩, by omega⟩ (by (refine Entails.mk' [(22, 22), (6, 6)] rfl rfl ?_ ?_ <;> repeat' (first | exact True.intro | exact lr | exact rr | exact SV.le_int (by omega) | exact SV.le_any _ | refine And.intro ?_ ?_)); done) ?_
   rintro ⟨b, i⟩ ⟨⟨b1, b2⟩, p1⟩
   have b1 : c ≤ b := b1
   have b2 : b ≤ c + 40 * i := b2
   have p1 : i ≤ x.length := p1
   have e1 : (i : Int).toNat = i := Int.toNat_natCast i
   rcases Nat.lt_or_ge i x.length with hi | hi
   · have hn := hx3.2 (x.getD (i : Int).toNat ntc0) (getD_mem (by omega))
     have hnK : ntK (x.getD (i : Int).toNat ntc0) := ⟨by have := hn.1; omega, by have := hn.2.1; omega⟩
     have hcm := hn.2.2
     conv => whnf
     repeat' (first | (refine CallX.of (s33 n L hL _ ?_ ?_ [0, 1440, 20160, 21600, 57600, -1] ?_ ?_) [(1000000, 22)] rfl ⟨lr, SV.le_lit rfl rfl, trivial⟩ ⟨rr, trivial⟩ rfl rfl ?_; rotate_right; rintro x rout ⟨⟨d, hd, rfl⟩, ⟨c, c1, c2, rfl⟩⟩; have hd2 := pk6 hd; refine ⟨rfl, ?_⟩; conv => whnf) | (refine br_intro ?_ ?_ <;> intro hb <;> (try simp only [brs] at hb) <;> conv => whnf) | (refine RegX.rule (id := 4) hT rfl [] oTNtU3_4 (by decide +kernel) ?_; conv => whnf) | (refine RegX.rule (id := 16) hT rfl [] oTNtU3_16 (by decide +kernel) ?_; conv => whnf) | (refine RegX.rule (id := 18) hT rfl [] oTNtU3_18 (by decide +kernel) ?_; conv => whnf) | omega | (refine And.intro ?_ ?_; ((try dsimp only); first | omega | (refine szA rfl ?_; omega) | (refine szB rfl ?_; omega) | (unfold inI64; omega) | exact rfl | (simp only [lns] at *; omega) | decide | (unfold inI64; decide)); conv => whnf) | decide | assumption)
     have hD := sDue r (x.getD (i : Int).toNat ntc0) ((x.getD (i : Int).toNat ntc0).came + d) hnK
     unfold dueW at hD
     have hE := s17 [ntrE r, ntcsE [x.getD (i : Int).toNat ntc0], if 0 ≤ (x.getD (i : Int).toNat ntc0).came + d ∧ (x.getD (i : Int).toNat ntc0).came + d ≤ 5761439 then 0 else 1, if decide ((x.getD (i : Int).toNat ntc0).came + d < (x.getD (i : Int).toNat ntc0).came) = true then 11 else 0] (by simp)
     rw [dueE_eq] at hE
     by_cases hz : dueE r (x.getD (i : Int).toNat ntc0) ((x.getD (i : Int).toNat ntc0).came + d) = 0
     · rw [if_pos hz] at hD
       rw [hz] at hE
       have h29 := z29 r (x.getD (i : Int).toNat ntc0) ((x.getD (i : Int).toNat ntc0).came + d) hz
       repeat' (first | (refine CallX.exact (hD) rfl rfl ?_; rotate_right; conv => whnf) | (refine CallX.pure (z16 [x.getD (i : Int).toNat ntc0] (ntOk_one hnK)) ⟨SV.le_lit (by rfl) (by rfl), trivial⟩ rfl ?_; conv => whnf) | (refine CallX.exact (z27 _) rfl rfl ?_; rotate_right; conv => whnf) | (refine CallX.exact (s20 _ _) rfl rfl ?_; rotate_right; conv => whnf) | (refine CallX.pure hE ⟨SV.le_lit (by rfl) (by rfl), trivial⟩ rfl ?_; conv => whnf) | (refine CallX.exact (h29) rfl rfl ?_; rotate_right; conv => whnf) | (refine br_intro ?_ ?_ <;> intro hb <;> (try simp only [brs] at hb) <;> conv => whnf) | (refine RegX.rule (id := 4) hT rfl [] oTNtU3_4 (by decide +kernel) ?_; conv => whnf) | (refine RegX.rule (id := 16) hT rfl [] oTNtU3_16 (by decide +kernel) ?_; conv => whnf) | (refine RegX.rule (id := 18) hT rfl [] oTNtU3_18 (by decide +kernel) ?_; conv => whnf) | omega | (refine And.intro ?_ ?_; ((try dsimp only); first | omega | (refine szA rfl ?_; omega) | (refine szB rfl ?_; omega) | (unfold inI64; omega) | exact rfl | (simp only [lns] at *; omega) | decide | (unfold inI64; decide)); conv => whnf) | decide | assumption)
       exact ⟨(c, i + 1), ⟨⟨by omega, by push_cast; omega⟩, by omega⟩, (show x.length - (i + 1) < x.length - i by omega), (by (refine Entails.mk' [(22, 22), (6, 6)] rfl rfl ?_ ?_ <;> repeat' (first | exact True.intro | exact lr | exact rr | exact SV.le_int (by omega) | exact SV.le_any _ | refine And.intro ?_ ?_)); done)⟩
     · rw [if_neg hz] at hD
       generalize dueE r (x.getD (i : Int).toNat ntc0) ((x.getD (i : Int).toNat ntc0).came + d) = e at hD hE hz
       repeat' (first | (refine CallX.exact (hD) rfl rfl ?_; rotate_right; conv => whnf) | (refine CallX.pure (z16 [x.getD (i : Int).toNat ntc0] (ntOk_one hnK)) ⟨SV.le_lit (by rfl) (by rfl), trivial⟩ rfl ?_; conv => whnf) | (refine CallX.exact (z27 _) rfl rfl ?_; rotate_right; conv => whnf) | (refine CallX.exact (s20 _ _) rfl rfl ?_; rotate_right; conv => whnf) | (refine CallX.pure hE ⟨SV.le_lit (by rfl) (by rfl), trivial⟩ rfl ?_; conv => whnf) | (refine br_intro ?_ ?_ <;> intro hb <;> (try simp only [brs] at hb) <;> conv => whnf) | (refine RegX.rule (id := 4) hT rfl [] oTNtU3_4 (by decide +kernel) ?_; conv => whnf) | (refine RegX.rule (id := 16) hT rfl [] oTNtU3_16 (by decide +kernel) ?_; conv => whnf) | (refine RegX.rule (id := 18) hT rfl [] oTNtU3_18 (by decide +kernel) ?_; conv => whnf) | omega | (refine And.intro ?_ ?_; ((try dsimp only); first | omega | (refine szA rfl ?_; omega) | (refine szB rfl ?_; omega) | (unfold inI64; omega) | exact rfl | (simp only [lns] at *; omega) | decide | (unfold inI64; decide)); conv => whnf) | decide | assumption)
       exact ⟨(c, i + 1), ⟨⟨by omega, by push_cast; omega⟩, by omega⟩, (show x.length - (i + 1) < x.length - i by omega), (by (refine Entails.mk' [(22, 22), (6, 6)] rfl rfl ?_ ?_ <;> repeat' (first | exact True.intro | exact lr | exact rr | exact SV.le_int (by omega) | exact SV.le_any _ | refine And.intro ?_ ?_)); done)⟩
   · conv => whnf
     repeat' (first | (refine CallX.exact (s24) rfl rfl ?_; rotate_right; conv => whnf) | (refine br_intro ?_ ?_ <;> intro hb <;> (try simp only [brs] at hb) <;> conv => whnf) | (refine RegX.rule (id := 4) hT rfl [] oTNtU3_4 (by decide +kernel) ?_; conv => whnf) | (refine RegX.rule (id := 16) hT rfl [] oTNtU3_16 (by decide +kernel) ?_; conv => whnf) | (refine RegX.rule (id := 18) hT rfl [] oTNtU3_18 (by decide +kernel) ?_; conv => whnf) | omega | (refine And.intro ?_ ?_; ((try dsimp only); first | omega | (refine szA rfl ?_; omega) | (refine szB rfl ?_; omega) | (unfold inI64; omega) | exact rfl | (simp only [lns] at *; omega) | decide | (unfold inI64; decide)); conv => whnf) | decide | assumption)
     refine .ret _ ?_
     conv => whnf
     refine ⟨[], ⟨?_, rfl⟩, trivial⟩
     conv => lhs; whnf
end Go.Proofs.YtcjfniddeibbhaaGreatDoor
