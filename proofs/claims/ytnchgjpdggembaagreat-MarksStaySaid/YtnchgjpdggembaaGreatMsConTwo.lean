/- MarksStay is proved: for every input the law returns true, and its argument reads afterwards as it read before. Conditions: those of the given row alone. -/
import Derived.Test.YtnchgjpdggembaaGreatMsConOne
set_option linter.unusedVariables false
set_option linter.unusedSimpArgs false
set_option maxRecDepth 20000
namespace Go.Proofs.YtnchgjpdggembaaGreat
open Go Go.Eng
theorem foldM_ok {r : Rul} {a b : List Mrk} {d i : Nat} {now st : MSt} (k : Nat) : (List.range (k + 1)).foldl (stepM r a b d i now) st = stepM r a b d i now ((List.range k).foldl (stepM r a b d i now) st) k := foldl_range_succ _ _ _
-- look
set_option maxHeartbeats 16000000 in
theorem z233 (r : Rul) (a b : List Mrk) (fr to : Nat) (hr : rBd r) (ha : a.length ≤ 60 ∧ ∀ i, i < a.length → mBd (a.getD i mk0)) (hb2 : b.length ≤ 60 ∧ ∀ i, i < b.length → mBd (b.getD i mk0)) (hto : to ≤ a.length) :
    ∀ (d i : Nat) (now st : MSt) (f : Bool), i + d = to → nowOk i now → (now.1 = [] → now.2 = 0) → fOk f st → st.1.length ≤ 60 →
    FSpec Tryz.prog 59 [.ptr 1000000 0, .d (.int .i64 i)] (mtR r a b fr to 1000002 now st f) (fun y r' => y = .tup [] ∧ ∃ nm, (nm = 1000002 ∨ nm = 60) ∧ r' = mtR r a b fr to nm now (mtch r a b d i now st) true) := by
  intro d
  induction d with
  | zero =>
    intro i now st f hd hn hz hf hst
    obtain rfl : i = to := by omega
    exact z233z r a b fr i now st f (by omega) hf hz hn.1 hst
  | succ d ih =>
    intro i now st f hd hn hz hf hst
    have hn1 := hn.1
    have hn2 := hn.2
    have hai := ha.2 i (by omega)
    have hb60 := hb2.1
    have hul := usedL_len b.length now.1
    have main : ∀ f, fOk f st → (f = true → st.1.length ≤ now.1.length + (d + 1)) → FSpec Tryz.prog 59 [.ptr 1000000 0, .d (.int .i64 i)] (mtR r a b fr to 1000002 now st f) (fun y r' => y = .tup [] ∧ ∃ nm, (nm = 1000002 ∨ nm = 60) ∧ r' = mtR r a b fr to nm now (mtch r a b (d + 1) i now st) true) := by
      intro f hf hp
      rw [mtch_succ]
      cases f
      all_goals
        try have hp := hp rfl
        refine spec_of hT (C := []) Tryz.func59 rfl Tryz.call59 rfl rfl rfl ?_
        conv => whnf
        repeat' (first
          | (refine br_intro (fun hb => ?_) (fun hb => ?_) <;> (try simp only [decide_eq_true_eq, decide_eq_false_iff_not, Bool.not_eq_true', Bool.not_eq_false', Bool.and_eq_true, Bool.or_eq_true, beq_iff_eq, not_and, Int.not_le, Int.not_lt, Int.toNat_natCast, beq_eq_false_iff_ne, ne_eq, eq_self, not_true_eq_false, not_false_eq_true] at hb) <;> (conv => whnf))
          | (refine RegX.rule (id := 0) hT rfl [] [(0, []), (1, []), (2, []), (3, []), (4, []), (5, []), (6, []), (7, []), (8, []), (9, []), (10, [5, 6, 7, 8, 9]), (11, [5, 6, 7, 8, 9]), (12, [5, 6, 7, 8, 9]), (13, [5, 6, 7, 8, 9]), (14, []), (15, [5, 6, 7, 8, 9, 10, 11, 12, 13, 14]), (16, []), (17, [5, 6, 7, 8, 9, 10, 11, 12, 13, 14, 15, 16]), (18, [5, 6, 7, 8, 9, 10, 11, 12, 13, 14, 15, 16]), (19, [5, 6, 7, 8, 9, 10, 11, 12, 13, 14, 15, 16]), (20, [5, 6, 7, 8, 9, 10, 11, 12, 13, 14, 15, 16]), (21, [5, 6, 7, 8, 9, 10, 11, 12, 13, 14, 15, 16]), (22, []), (23, [])] (by decide +kernel) ?_; conv => whnf)
          | (refine RegX.rule (id := 2) hT rfl [] [(0, []), (1, []), (2, []), (3, []), (4, []), (5, [0, 1, 2, 3, 4]), (6, [0, 1, 2, 3, 4]), (7, [0, 1, 2, 3, 4]), (8, [0, 1, 2, 3, 4]), (9, [0, 1, 2, 3, 4]), (11, [0, 1, 2, 3, 4, 5, 6, 7, 8, 9]), (12, [0, 1, 2, 3, 4, 5, 6, 7, 8, 9]), (13, [0, 1, 2, 3, 4, 5, 6, 7, 8, 9]), (14, [0, 1, 2, 3, 4, 5, 6, 7, 8, 9]), (15, [0, 1, 2, 3, 4, 5, 6, 7, 8, 9, 11, 12, 13, 14]), (16, [0, 1, 2, 3, 4, 5, 6, 7, 8, 9, 11, 12, 13, 14]), (17, [0, 1, 2, 3, 4, 5, 6, 7, 8, 9, 11, 12, 13, 14]), (18, [0, 1, 2, 3, 4, 5, 6, 7, 8, 9, 11, 12, 13, 14]), (20, [0, 1, 2, 3, 4, 5, 6, 7, 8, 9, 11, 12, 13, 14, 15, 16, 17, 18]), (21, [0, 1, 2, 3, 4, 5, 6, 7, 8, 9, 11, 12, 13, 14, 15, 16, 17, 18]), (22, [0, 1, 2, 3, 4, 5, 6, 7, 8, 9, 11, 12, 13, 14, 15, 16, 17, 18]), (23, [0, 1, 2, 3, 4, 5, 6, 7, 8, 9, 11, 12, 13, 14, 15, 16, 17, 18]), (24, [0, 1, 2, 3, 4, 5, 6, 7, 8, 9, 11, 12, 13, 14, 15, 16, 17, 18, 20, 21, 22, 23]), (25, [0, 1, 2, 3, 4, 5, 6, 7, 8, 9, 11, 12, 13, 14, 15, 16, 17, 18, 20, 21, 22, 23]), (26, [0, 1, 2, 3, 4, 5, 6, 7, 8, 9, 11, 12, 13, 14, 15, 16, 17, 18, 20, 21, 22, 23]), (27, [0, 1, 2, 3, 4, 5, 6, 7, 8, 9, 11, 12, 13, 14, 15, 16, 17, 18, 20, 21, 22, 23]), (10, [11, 12, 13, 14, 15, 16, 17, 18, 20, 21, 22, 23, 24, 25, 26, 27]), (19, [20, 21, 22, 23, 24, 25, 26, 27]), (28, []), (29, []), (30, []), (31, [])] (by decide +kernel) ?_; conv => whnf)
          | (refine RegX.rule (id := 4) hT rfl [] [(0, []), (1, [0]), (2, [0, 1]), (3, [0, 1, 2]), (4, [0, 1, 2]), (5, [0, 1, 2]), (6, [0, 1, 2]), (8, [0, 1, 2, 3, 4, 5, 6]), (9, [0, 1, 2, 3, 4, 5, 6]), (10, [0, 1, 2, 3, 4, 5, 6]), (11, [0, 1, 2, 3, 4, 5, 6]), (7, [0, 1, 2, 8, 9, 10, 11]), (12, [1, 2]), (13, [1, 2]), (14, [1, 2]), (15, [2]), (16, [2]), (17, [2]), (18, []), (19, []), (20, [])] (by decide +kernel) ?_; conv => whnf)
          | (refine RegX.rule (id := 8) hT rfl [] [(0, []), (1, []), (2, []), (3, []), (4, [0, 1, 2, 3]), (5, []), (6, []), (7, []), (8, []), (9, []), (10, []), (11, []), (12, [8, 9, 10, 11]), (13, [8, 9, 10, 11]), (14, [8, 9, 10, 11]), (15, [8, 9, 10, 11]), (16, [8, 9, 10, 11, 12, 13, 14, 15]), (17, [8, 9, 10, 11]), (18, [8, 9, 10, 11]), (19, [8, 9, 10, 11, 12, 13, 14, 15, 16, 17, 18]), (20, []), (21, []), (22, [])] (by decide +kernel) ?_; conv => whnf)
          | (refine RegX.rule (id := 9) hT rfl [] [(0, []), (1, []), (2, []), (3, []), (4, [0, 1, 2, 3]), (5, []), (6, []), (7, [0, 1, 2, 3, 4, 5, 6]), (8, []), (9, [])] (by decide +kernel) ?_; conv => whnf)
          | (refine RegX.rule (id := 10) hT rfl [] [(0, []), (1, []), (2, []), (3, []), (4, [0, 1, 2, 3]), (5, [0, 1, 2, 3, 4]), (6, [0, 1, 2, 3, 4, 5]), (7, [0, 1, 2, 3, 4, 5, 6]), (8, [0, 1, 2, 3, 4, 5, 6]), (9, [0, 1, 2, 3, 4, 5, 6]), (10, [0, 1, 2, 3, 4, 5, 6]), (11, [0, 1, 2, 3, 4, 5, 6, 7, 8, 9, 10]), (12, [0, 1, 2, 3, 4, 5, 6]), (13, [0, 1, 2, 3, 4, 5, 6, 7, 8, 9, 10, 11, 12]), (14, [0, 1, 2, 3, 4, 5, 6, 7, 8, 9, 10, 11, 12]), (15, [0, 1, 2, 3, 4, 5, 6, 7, 8, 9, 10, 11, 12]), (16, [0, 1, 2, 3, 4, 5, 6, 7, 8, 9, 10, 11, 12]), (17, [0, 1, 2, 3, 4, 5, 6, 7, 8, 9, 10, 11, 12, 13, 14, 15, 16]), (18, [0, 1, 2, 3, 4, 5, 6, 7, 8, 9, 10, 11, 12, 13, 14, 15, 16, 17]), (19, [0, 1, 2, 3, 4, 5, 6, 7, 8, 9, 10, 11, 12, 13, 14, 15, 16]), (20, [0, 1, 2, 3, 4, 5, 6, 7, 8, 9, 10, 11, 12, 13, 14, 15, 16]), (21, [0, 1, 2, 3, 4, 5, 6, 7, 8, 9, 10, 11, 12]), (22, [5, 6, 11, 12]), (23, [5, 6, 11, 12]), (24, [6]), (25, [6]), (26, [6]), (27, []), (28, []), (29, [])] (by decide +kernel) ?_; conv => whnf)
          | (refine RegX.rule (id := 12) hT rfl [] [(0, []), (1, []), (2, []), (3, []), (4, [0, 1, 2, 3]), (5, [0, 1, 2, 3, 4]), (6, [0, 1, 2, 3, 4, 5]), (7, [0, 1, 2, 3, 4, 5, 6]), (8, [0, 1, 2, 3, 4, 5, 6]), (9, [0, 1, 2, 3, 4, 5, 6]), (10, [0, 1, 2, 3, 4, 5, 6]), (11, [0, 1, 2, 3, 4, 5, 6, 7, 8, 9, 10]), (12, [0, 1, 2, 3, 4, 5, 6]), (13, [0, 1, 2, 3, 4, 5, 6, 7, 8, 9, 10, 11, 12]), (14, [0, 1, 2, 3, 4, 5, 6, 7, 8, 9, 10, 11, 12]), (15, [0, 1, 2, 3, 4, 5, 6, 7, 8, 9, 10, 11, 12]), (16, [0, 1, 2, 3, 4, 5, 6, 7, 8, 9, 10, 11, 12]), (17, [0, 1, 2, 3, 4, 5, 6, 7, 8, 9, 10, 11, 12, 13, 14, 15, 16]), (18, [0, 1, 2, 3, 4, 5, 6, 7, 8, 9, 10, 11, 12, 13, 14, 15, 16]), (19, [0, 1, 2, 3, 4, 5, 6, 7, 8, 9, 10, 11, 12, 13, 14, 15, 16]), (20, [0, 1, 2, 3, 4, 5, 6, 7, 8, 9, 10, 11, 12, 13, 14, 15, 16]), (21, [0, 1, 2, 3, 4, 5, 6, 7, 8, 9, 10, 11, 12, 13, 14, 15, 16]), (22, [0, 1, 2, 3, 4, 5, 6, 7, 8, 9, 10, 11, 12, 13, 14, 15, 16]), (23, [0, 1, 2, 3, 4, 5, 6, 7, 8, 9, 10, 11, 12]), (24, [5, 6, 11, 12, 21, 22, 23]), (25, [5, 6, 11, 12, 21, 22, 23]), (26, [6, 21, 22, 23]), (27, [6, 21, 22, 23]), (28, [6, 21, 22, 23]), (29, []), (30, []), (31, [])] (by decide +kernel) ?_; conv => whnf)
          | omega
          | (refine And.intro ?_ ?_; ((try dsimp only); first | omega | (refine ⟨by omega, by omega, Int.le_trans (Int.mul_le_mul_of_nonneg_right (Int.ofNat_le.2 (Nat.le_of_ble_eq_true (rfl : Nat.ble _ 1024 = true))) (by omega)) (by omega), by omega⟩) | (refine Nat.le_trans (Nat.mul_le_mul_left _ (Nat.le_of_ble_eq_true (rfl : Nat.ble _ 1024 = true))) ?_; omega) | (unfold inI64; omega) | (constructor <;> omega) | (simp only [inI64, List.length_cons, List.length_append, List.length_nil, List.length_set] at *; omega) | decide | (unfold inI64; decide)); conv => whnf)
          | omega | decide | assumption)
        refine LoopX.rule hT (C := []) (ι := Bool × Bool × Nat) (fun (_, f', k) => k ≤ b.length ∧ fOk f' ((List.range k).foldl (stepM r a b d i now) st)) (fun (c, f', k) => mkSt [(0, .ptr 1000000 0), (1, .d (.int .i64 i)), (99, .d (mrks b)), (100, .d (.int .i64 b.length)), (101, .d (.int .i64 k))]
          (mtR r a b fr to (bif c then 60 else 1000002) now ((List.range k).foldl (stepM r a b d i now) st) f')) (fun (_, _, k) => b.length - k) (false, _, 0) ⟨by simp, by simpa using hf⟩ (by (refine Entails.mk' [(1000000, 1000000), (1000002, 1000002), (1000001, 1000001)] rfl rfl ?_ ?_ <;> repeat' (first | exact True.intro | exact SV.le_refl _ | exact Res.le_refl _ | exact SV.le_int (by omega) | exact SV.le_any _ | refine And.intro ?_ ?_)); done) ?_
        rintro ⟨c, f', k⟩ ⟨p1, p2⟩
        have p1 : k ≤ b.length := p1
        have e1 : (k : Int).toNat = k := Int.toNat_natCast k
        have e2 : (i : Int).toNat = i := Int.toNat_natCast i
        have hfl := foldM_len (r := r) (a := a) (b := b) (i := i) (now := now) (st := st) (n := 60) (d := d) (by omega) hst (List.range k)
        have hstep := foldM_ok (r := r) (a := a) (b := b) (d := d) (i := i) (now := now) (st := st) k
        obtain ⟨q, hq⟩ : ∃ q, q = (List.range k).foldl (stepM r a b d i now) st := ⟨_, rfl⟩
        show wpx _ _ _ _ _ (mkSt _ (mtR r a b fr to _ now ((List.range k).foldl (stepM r a b d i now) st) f'))
        change fOk f' ((List.range k).foldl (stepM r a b d i now) st) at p2
        rw [← hq] at hfl hstep p2 ⊢
        by_cases hk : k < b.length
        · have hbk := hb2.2 k hk
          have h148 := z148 r (a.getD i mk0) (b.getD k mk0) hr hai hbk
          have h149 := z149 (a.getD i mk0) (b.getD k mk0) hai hbk
          have hdb := distM_bd (a := a.getD i mk0) (b := b.getD k mk0) (by unfold mBd at hai; omega) (by unfold mBd at hbk; omega)
          have hug := usedL_get now.1 hk
          obtain ⟨m, hm⟩ : ∃ m : MSt, m = (now.1 ++ [⟨i, k⟩], now.2 + distM (a.getD i mk0) (b.getD k mk0)) := ⟨_, rfl⟩
          have hm1 : nowOk (i + 1) m := by rw [hm]; exact nowOk_snoc hn hdb.1 hdb.2
          have hml : m.1.length = now.1.length + 1 := by rw [hm]; simp
          have hm2 : m.2 = now.2 + distM (a.getD i mk0) (b.getD k mk0) := by rw [hm]
          have hmz : m.1 = [] → m.2 = 0 := fun h => by rw [h] at hml; simp at hml
          have hum := usedL_len b.length m.1
          have ihm := ih (i + 1) m q f' (by omega) hm1 hmz p2 hfl
          have hsnoc : usedM now.1 k = false → Res.le (.buf 4 1 (usedL b.length now.1).length fun j => bif Nat.beq j k then setAtD (rowF bF false (usedL b.length now.1) j) 0 [.bool true] else rowF bF false (usedL b.length now.1) j) (seqB 4 1 bF false (usedL b.length m.1)) := fun _ => by
            rw [hm, ← usedL_snoc (i := i) hk]; exact Res.le_upd (fun _ => true) (fun _ => rfl)
          have hback : usedM now.1 k = false → Res.le (.buf 4 1 (usedL b.length m.1).length fun j => bif Nat.beq j k then setAtD (rowF bF false (usedL b.length m.1) j) 0 [.bool false] else rowF bF false (usedL b.length m.1) j) (seqB 4 1 bF false (usedL b.length now.1)) := fun hu => by
            have h := Res.le_upd (f := bF) (d := false) (l := usedL b.length m.1) (e := 4) (k := 1) (j := k) (off := 0) (ds := [.bool false]) (fun _ => false) (fun _ => rfl)
            have h2 := usedL_back (i := i) (l := now.1) hk hu
            rw [hm] at h ⊢
            rwa [h2] at h
          have hstep : (List.range (k + 1)).foldl (stepM r a b d i now) st = if okM r a b i now.1 k = true then mtch r a b d (i + 1) m q else q := by
            rw [hstep, hm]; rfl
          cases c
          all_goals
            conv => whnf
            repeat' (first
              | (refine CallX.exact (h148) rfl rfl ?_; rotate_right; conv => whnf)
              | (refine CallX.exact (h149) rfl rfl ?_; rotate_right; conv => whnf)
              | (refine CallX.of ihm [(1000000, 1000000), (1000002, 159), (1000001, 1000001), (60, 900)] rfl ⟨SV.le_refl _, SV.le_int (by omega), trivial⟩ ⟨by rw [hm]; exact Res.le_refl _, by rw [hm]; exact Res.le_snocF (l := now.1) (x := (⟨i, k⟩ : Prg)) rfl, hsnoc (by rw [← hug]; simpa using ‹_ = false›), trivial⟩ rfl rfl ?_; rintro x rout ⟨rfl, nm, (rfl | rfl), rfl⟩ <;> (refine ⟨rfl, ?_⟩; conv => whnf); conv => whnf)
              | (refine br_intro (fun hb => ?_) (fun hb => ?_) <;> (try simp only [decide_eq_true_eq, decide_eq_false_iff_not, Bool.not_eq_true', Bool.not_eq_false', Bool.and_eq_true, Bool.or_eq_true, beq_iff_eq, not_and, Int.not_le, Int.not_lt, Int.toNat_natCast, beq_eq_false_iff_ne, ne_eq, eq_self, not_true_eq_false, not_false_eq_true] at hb) <;> (conv => whnf))
              | (refine RegX.rule (id := 0) hT rfl [] [(0, []), (1, []), (2, []), (3, []), (4, []), (5, []), (6, []), (7, []), (8, []), (9, []), (10, [5, 6, 7, 8, 9]), (11, [5, 6, 7, 8, 9]), (12, [5, 6, 7, 8, 9]), (13, [5, 6, 7, 8, 9]), (14, []), (15, [5, 6, 7, 8, 9, 10, 11, 12, 13, 14]), (16, []), (17, [5, 6, 7, 8, 9, 10, 11, 12, 13, 14, 15, 16]), (18, [5, 6, 7, 8, 9, 10, 11, 12, 13, 14, 15, 16]), (19, [5, 6, 7, 8, 9, 10, 11, 12, 13, 14, 15, 16]), (20, [5, 6, 7, 8, 9, 10, 11, 12, 13, 14, 15, 16]), (21, [5, 6, 7, 8, 9, 10, 11, 12, 13, 14, 15, 16]), (22, []), (23, [])] (by decide +kernel) ?_; conv => whnf)
              | (refine RegX.rule (id := 2) hT rfl [] [(0, []), (1, []), (2, []), (3, []), (4, []), (5, [0, 1, 2, 3, 4]), (6, [0, 1, 2, 3, 4]), (7, [0, 1, 2, 3, 4]), (8, [0, 1, 2, 3, 4]), (9, [0, 1, 2, 3, 4]), (11, [0, 1, 2, 3, 4, 5, 6, 7, 8, 9]), (12, [0, 1, 2, 3, 4, 5, 6, 7, 8, 9]), (13, [0, 1, 2, 3, 4, 5, 6, 7, 8, 9]), (14, [0, 1, 2, 3, 4, 5, 6, 7, 8, 9]), (15, [0, 1, 2, 3, 4, 5, 6, 7, 8, 9, 11, 12, 13, 14]), (16, [0, 1, 2, 3, 4, 5, 6, 7, 8, 9, 11, 12, 13, 14]), (17, [0, 1, 2, 3, 4, 5, 6, 7, 8, 9, 11, 12, 13, 14]), (18, [0, 1, 2, 3, 4, 5, 6, 7, 8, 9, 11, 12, 13, 14]), (20, [0, 1, 2, 3, 4, 5, 6, 7, 8, 9, 11, 12, 13, 14, 15, 16, 17, 18]), (21, [0, 1, 2, 3, 4, 5, 6, 7, 8, 9, 11, 12, 13, 14, 15, 16, 17, 18]), (22, [0, 1, 2, 3, 4, 5, 6, 7, 8, 9, 11, 12, 13, 14, 15, 16, 17, 18]), (23, [0, 1, 2, 3, 4, 5, 6, 7, 8, 9, 11, 12, 13, 14, 15, 16, 17, 18]), (24, [0, 1, 2, 3, 4, 5, 6, 7, 8, 9, 11, 12, 13, 14, 15, 16, 17, 18, 20, 21, 22, 23]), (25, [0, 1, 2, 3, 4, 5, 6, 7, 8, 9, 11, 12, 13, 14, 15, 16, 17, 18, 20, 21, 22, 23]), (26, [0, 1, 2, 3, 4, 5, 6, 7, 8, 9, 11, 12, 13, 14, 15, 16, 17, 18, 20, 21, 22, 23]), (27, [0, 1, 2, 3, 4, 5, 6, 7, 8, 9, 11, 12, 13, 14, 15, 16, 17, 18, 20, 21, 22, 23]), (10, [11, 12, 13, 14, 15, 16, 17, 18, 20, 21, 22, 23, 24, 25, 26, 27]), (19, [20, 21, 22, 23, 24, 25, 26, 27]), (28, []), (29, []), (30, []), (31, [])] (by decide +kernel) ?_; conv => whnf)
              | (refine RegX.rule (id := 4) hT rfl [] [(0, []), (1, [0]), (2, [0, 1]), (3, [0, 1, 2]), (4, [0, 1, 2]), (5, [0, 1, 2]), (6, [0, 1, 2]), (8, [0, 1, 2, 3, 4, 5, 6]), (9, [0, 1, 2, 3, 4, 5, 6]), (10, [0, 1, 2, 3, 4, 5, 6]), (11, [0, 1, 2, 3, 4, 5, 6]), (7, [0, 1, 2, 8, 9, 10, 11]), (12, [1, 2]), (13, [1, 2]), (14, [1, 2]), (15, [2]), (16, [2]), (17, [2]), (18, []), (19, []), (20, [])] (by decide +kernel) ?_; conv => whnf)
              | (refine RegX.rule (id := 8) hT rfl [] [(0, []), (1, []), (2, []), (3, []), (4, [0, 1, 2, 3]), (5, []), (6, []), (7, []), (8, []), (9, []), (10, []), (11, []), (12, [8, 9, 10, 11]), (13, [8, 9, 10, 11]), (14, [8, 9, 10, 11]), (15, [8, 9, 10, 11]), (16, [8, 9, 10, 11, 12, 13, 14, 15]), (17, [8, 9, 10, 11]), (18, [8, 9, 10, 11]), (19, [8, 9, 10, 11, 12, 13, 14, 15, 16, 17, 18]), (20, []), (21, []), (22, [])] (by decide +kernel) ?_; conv => whnf)
              | (refine RegX.rule (id := 9) hT rfl [] [(0, []), (1, []), (2, []), (3, []), (4, [0, 1, 2, 3]), (5, []), (6, []), (7, [0, 1, 2, 3, 4, 5, 6]), (8, []), (9, [])] (by decide +kernel) ?_; conv => whnf)
              | (refine RegX.rule (id := 10) hT rfl [] [(0, []), (1, []), (2, []), (3, []), (4, [0, 1, 2, 3]), (5, [0, 1, 2, 3, 4]), (6, [0, 1, 2, 3, 4, 5]), (7, [0, 1, 2, 3, 4, 5, 6]), (8, [0, 1, 2, 3, 4, 5, 6]), (9, [0, 1, 2, 3, 4, 5, 6]), (10, [0, 1, 2, 3, 4, 5, 6]), (11, [0, 1, 2, 3, 4, 5, 6, 7, 8, 9, 10]), (12, [0, 1, 2, 3, 4, 5, 6]), (13, [0, 1, 2, 3, 4, 5, 6, 7, 8, 9, 10, 11, 12]), (14, [0, 1, 2, 3, 4, 5, 6, 7, 8, 9, 10, 11, 12]), (15, [0, 1, 2, 3, 4, 5, 6, 7, 8, 9, 10, 11, 12]), (16, [0, 1, 2, 3, 4, 5, 6, 7, 8, 9, 10, 11, 12]), (17, [0, 1, 2, 3, 4, 5, 6, 7, 8, 9, 10, 11, 12, 13, 14, 15, 16]), (18, [0, 1, 2, 3, 4, 5, 6, 7, 8, 9, 10, 11, 12, 13, 14, 15, 16, 17]), (19, [0, 1, 2, 3, 4, 5, 6, 7, 8, 9, 10, 11, 12, 13, 14, 15, 16]), (20, [0, 1, 2, 3, 4, 5, 6, 7, 8, 9, 10, 11, 12, 13, 14, 15, 16]), (21, [0, 1, 2, 3, 4, 5, 6, 7, 8, 9, 10, 11, 12]), (22, [5, 6, 11, 12]), (23, [5, 6, 11, 12]), (24, [6]), (25, [6]), (26, [6]), (27, []), (28, []), (29, [])] (by decide +kernel) ?_; conv => whnf)
              | (refine RegX.rule (id := 12) hT rfl [] [(0, []), (1, []), (2, []), (3, []), (4, [0, 1, 2, 3]), (5, [0, 1, 2, 3, 4]), (6, [0, 1, 2, 3, 4, 5]), (7, [0, 1, 2, 3, 4, 5, 6]), (8, [0, 1, 2, 3, 4, 5, 6]), (9, [0, 1, 2, 3, 4, 5, 6]), (10, [0, 1, 2, 3, 4, 5, 6]), (11, [0, 1, 2, 3, 4, 5, 6, 7, 8, 9, 10]), (12, [0, 1, 2, 3, 4, 5, 6]), (13, [0, 1, 2, 3, 4, 5, 6, 7, 8, 9, 10, 11, 12]), (14, [0, 1, 2, 3, 4, 5, 6, 7, 8, 9, 10, 11, 12]), (15, [0, 1, 2, 3, 4, 5, 6, 7, 8, 9, 10, 11, 12]), (16, [0, 1, 2, 3, 4, 5, 6, 7, 8, 9, 10, 11, 12]), (17, [0, 1, 2, 3, 4, 5, 6, 7, 8, 9, 10, 11, 12, 13, 14, 15, 16]), (18, [0, 1, 2, 3, 4, 5, 6, 7, 8, 9, 10, 11, 12, 13, 14, 15, 16]), (19, [0, 1, 2, 3, 4, 5, 6, 7, 8, 9, 10, 11, 12, 13, 14, 15, 16]), (20, [0, 1, 2, 3, 4, 5, 6, 7, 8, 9, 10, 11, 12, 13, 14, 15, 16]), (21, [0, 1, 2, 3, 4, 5, 6, 7, 8, 9, 10, 11, 12, 13, 14, 15, 16]), (22, [0, 1, 2, 3, 4, 5, 6, 7, 8, 9, 10, 11, 12, 13, 14, 15, 16]), (23, [0, 1, 2, 3, 4, 5, 6, 7, 8, 9, 10, 11, 12]), (24, [5, 6, 11, 12, 21, 22, 23]), (25, [5, 6, 11, 12, 21, 22, 23]), (26, [6, 21, 22, 23]), (27, [6, 21, 22, 23]), (28, [6, 21, 22, 23]), (29, []), (30, []), (31, [])] (by decide +kernel) ?_; conv => whnf)
              | omega
              | (refine And.intro ?_ ?_; ((try dsimp only); first | omega | (refine ⟨by omega, by omega, Int.le_trans (Int.mul_le_mul_of_nonneg_right (Int.ofNat_le.2 (Nat.le_of_ble_eq_true (rfl : Nat.ble _ 1024 = true))) (by omega)) (by omega), by omega⟩) | (refine Nat.le_trans (Nat.mul_le_mul_left _ (Nat.le_of_ble_eq_true (rfl : Nat.ble _ 1024 = true))) ?_; omega) | (unfold inI64; omega) | (constructor <;> omega) | (simp only [inI64, List.length_cons, List.length_append, List.length_nil, List.length_set] at *; omega) | decide | (unfold inI64; decide)); conv => whnf)
              | omega | decide | assumption)
          all_goals first
            | (have hno : ¬ okM r a b i now.1 k = true := by
                 unfold okM
                 clear hsnoc hback ihm hstep
                 grind
               first
                 | (refine ⟨(false, f', k + 1), ⟨by omega, by rw [hstep, if_neg hno]; exact p2⟩, (show b.length - (k + 1) < b.length - k by omega), ?_⟩
                    show Entails _ (mkSt _ (mtR r a b fr to _ now ((List.range (k + 1)).foldl (stepM r a b d i now) st) f'))
                    rw [hstep, if_neg hno]
                    exact Entails.mk' [(1000000, 1000000), (1000002, 1000002), (1000001, 1000001)] rfl rfl ⟨SV.le_refl _, SV.le_refl _, SV.le_refl _, SV.le_refl _, SV.le_refl _, trivial⟩ ⟨Res.le_refl _, Res.le_refl _, Res.le_refl _, trivial⟩)
                 | (refine ⟨(true, f', k + 1), ⟨by omega, by rw [hstep, if_neg hno]; exact p2⟩, (show b.length - (k + 1) < b.length - k by omega), ?_⟩
                    show Entails _ (mkSt _ (mtR r a b fr to _ now ((List.range (k + 1)).foldl (stepM r a b d i now) st) f'))
                    rw [hstep, if_neg hno]
                    exact Entails.mk' [(1000000, 1000000), (60, 60), (1000001, 1000001)] rfl rfl ⟨SV.le_refl _, SV.le_refl _, SV.le_refl _, SV.le_refl _, SV.le_refl _, trivial⟩ ⟨Res.le_refl _, Res.le_refl _, Res.le_refl _, trivial⟩))
            | (have hun : usedM now.1 k = false := by rw [← hug]; simpa using ‹_ = false›
               have hyes : okM r a b i now.1 k = true := by
                 unfold okM
                 clear hsnoc hback ihm hstep
                 grind
               refine ⟨(true, true, k + 1), ⟨by omega, fun h => by cases h⟩, (show b.length - (k + 1) < b.length - k by omega), ?_⟩
               show Entails _ (mkSt _ (mtR r a b fr to _ now ((List.range (k + 1)).foldl (stepM r a b d i now) st) true))
               rw [hstep, if_pos hyes]
               first
                 | (refine (Entails.cutCell 1000000 159 2000 46 2 _ _ 9 _ rfl rfl rfl rfl rfl rfl).trans ?_; exact Entails.mk' [(1000000, 1000000), (60, 2000), (1000001, 1000001)] rfl rfl ⟨SV.le_refl _, SV.le_refl _, SV.le_refl _, SV.le_refl _, SV.le_refl _, trivial⟩ ⟨Res.le_cellsL ⟨SV.le_refl _, SV.le_refl _, SV.le_refl _, SV.le_refl _, SV.le_refl _, SV.le_refl _, SV.le_refl _, SV.le_refl _, SV.le_refl _, SV.le_refl _, SV.le_refl _, SV.le_int (by omega), SV.le_refl _, SV.le_refl _, trivial⟩, Res.le_cutF (by omega) (fun i hi => by rw [hm, getD_app_lt hi]), hback hun, trivial⟩)
                 | (refine (Entails.cutCell 1000000 900 2000 46 2 _ _ 9 _ rfl rfl rfl rfl rfl rfl).trans ?_; exact Entails.mk' [(1000000, 1000000), (60, 2000), (1000001, 1000001)] rfl rfl ⟨SV.le_refl _, SV.le_refl _, SV.le_refl _, SV.le_refl _, SV.le_refl _, trivial⟩ ⟨Res.le_cellsL ⟨SV.le_refl _, SV.le_refl _, SV.le_refl _, SV.le_refl _, SV.le_refl _, SV.le_refl _, SV.le_refl _, SV.le_refl _, SV.le_refl _, SV.le_refl _, SV.le_refl _, SV.le_int (by omega), SV.le_refl _, SV.le_refl _, trivial⟩, Res.le_cutF (by omega) (fun i hi => by rw [hm, getD_app_lt hi]), hback hun, trivial⟩))
        · obtain rfl : k = b.length := by omega
          have ihe := ih (i + 1) now q f' (by omega) (nowOk_up hn) hz p2 hfl
          rw [← hq]
          cases c
          all_goals
            conv => whnf
            repeat' (first
              | (refine CallX.of ihe [(1000000, 1000000), (1000002, 1000002), (1000001, 1000001), (60, 900)] rfl ⟨SV.le_refl _, SV.le_int (by omega), trivial⟩ ⟨Res.le_refl _, Res.le_refl _, Res.le_refl _, trivial⟩ rfl rfl ?_; rintro x rout ⟨rfl, nm, (rfl | rfl), rfl⟩ <;> (refine ⟨rfl, ?_⟩; conv => whnf); conv => whnf)
              | (refine CallX.of ihe [(1000000, 1000000), (1000002, 60), (1000001, 1000001), (60, 900)] rfl ⟨SV.le_refl _, SV.le_int (by omega), trivial⟩ ⟨Res.le_refl _, Res.le_refl _, Res.le_refl _, trivial⟩ rfl rfl ?_; rintro x rout ⟨rfl, nm, (rfl | rfl), rfl⟩ <;> (refine ⟨rfl, ?_⟩; conv => whnf); conv => whnf)
              | (refine br_intro (fun hb => ?_) (fun hb => ?_) <;> (try simp only [decide_eq_true_eq, decide_eq_false_iff_not, Bool.not_eq_true', Bool.not_eq_false', Bool.and_eq_true, Bool.or_eq_true, beq_iff_eq, not_and, Int.not_le, Int.not_lt, Int.toNat_natCast, beq_eq_false_iff_ne, ne_eq, eq_self, not_true_eq_false, not_false_eq_true] at hb) <;> (conv => whnf))
              | (refine RegX.rule (id := 0) hT rfl [] [(0, []), (1, []), (2, []), (3, []), (4, []), (5, []), (6, []), (7, []), (8, []), (9, []), (10, [5, 6, 7, 8, 9]), (11, [5, 6, 7, 8, 9]), (12, [5, 6, 7, 8, 9]), (13, [5, 6, 7, 8, 9]), (14, []), (15, [5, 6, 7, 8, 9, 10, 11, 12, 13, 14]), (16, []), (17, [5, 6, 7, 8, 9, 10, 11, 12, 13, 14, 15, 16]), (18, [5, 6, 7, 8, 9, 10, 11, 12, 13, 14, 15, 16]), (19, [5, 6, 7, 8, 9, 10, 11, 12, 13, 14, 15, 16]), (20, [5, 6, 7, 8, 9, 10, 11, 12, 13, 14, 15, 16]), (21, [5, 6, 7, 8, 9, 10, 11, 12, 13, 14, 15, 16]), (22, []), (23, [])] (by decide +kernel) ?_; conv => whnf)
              | (refine RegX.rule (id := 2) hT rfl [] [(0, []), (1, []), (2, []), (3, []), (4, []), (5, [0, 1, 2, 3, 4]), (6, [0, 1, 2, 3, 4]), (7, [0, 1, 2, 3, 4]), (8, [0, 1, 2, 3, 4]), (9, [0, 1, 2, 3, 4]), (11, [0, 1, 2, 3, 4, 5, 6, 7, 8, 9]), (12, [0, 1, 2, 3, 4, 5, 6, 7, 8, 9]), (13, [0, 1, 2, 3, 4, 5, 6, 7, 8, 9]), (14, [0, 1, 2, 3, 4, 5, 6, 7, 8, 9]), (15, [0, 1, 2, 3, 4, 5, 6, 7, 8, 9, 11, 12, 13, 14]), (16, [0, 1, 2, 3, 4, 5, 6, 7, 8, 9, 11, 12, 13, 14]), (17, [0, 1, 2, 3, 4, 5, 6, 7, 8, 9, 11, 12, 13, 14]), (18, [0, 1, 2, 3, 4, 5, 6, 7, 8, 9, 11, 12, 13, 14]), (20, [0, 1, 2, 3, 4, 5, 6, 7, 8, 9, 11, 12, 13, 14, 15, 16, 17, 18]), (21, [0, 1, 2, 3, 4, 5, 6, 7, 8, 9, 11, 12, 13, 14, 15, 16, 17, 18]), (22, [0, 1, 2, 3, 4, 5, 6, 7, 8, 9, 11, 12, 13, 14, 15, 16, 17, 18]), (23, [0, 1, 2, 3, 4, 5, 6, 7, 8, 9, 11, 12, 13, 14, 15, 16, 17, 18]), (24, [0, 1, 2, 3, 4, 5, 6, 7, 8, 9, 11, 12, 13, 14, 15, 16, 17, 18, 20, 21, 22, 23]), (25, [0, 1, 2, 3, 4, 5, 6, 7, 8, 9, 11, 12, 13, 14, 15, 16, 17, 18, 20, 21, 22, 23]), (26, [0, 1, 2, 3, 4, 5, 6, 7, 8, 9, 11, 12, 13, 14, 15, 16, 17, 18, 20, 21, 22, 23]), (27, [0, 1, 2, 3, 4, 5, 6, 7, 8, 9, 11, 12, 13, 14, 15, 16, 17, 18, 20, 21, 22, 23]), (10, [11, 12, 13, 14, 15, 16, 17, 18, 20, 21, 22, 23, 24, 25, 26, 27]), (19, [20, 21, 22, 23, 24, 25, 26, 27]), (28, []), (29, []), (30, []), (31, [])] (by decide +kernel) ?_; conv => whnf)
              | (refine RegX.rule (id := 4) hT rfl [] [(0, []), (1, [0]), (2, [0, 1]), (3, [0, 1, 2]), (4, [0, 1, 2]), (5, [0, 1, 2]), (6, [0, 1, 2]), (8, [0, 1, 2, 3, 4, 5, 6]), (9, [0, 1, 2, 3, 4, 5, 6]), (10, [0, 1, 2, 3, 4, 5, 6]), (11, [0, 1, 2, 3, 4, 5, 6]), (7, [0, 1, 2, 8, 9, 10, 11]), (12, [1, 2]), (13, [1, 2]), (14, [1, 2]), (15, [2]), (16, [2]), (17, [2]), (18, []), (19, []), (20, [])] (by decide +kernel) ?_; conv => whnf)
              | (refine RegX.rule (id := 8) hT rfl [] [(0, []), (1, []), (2, []), (3, []), (4, [0, 1, 2, 3]), (5, []), (6, []), (7, []), (8, []), (9, []), (10, []), (11, []), (12, [8, 9, 10, 11]), (13, [8, 9, 10, 11]), (14, [8, 9, 10, 11]), (15, [8, 9, 10, 11]), (16, [8, 9, 10, 11, 12, 13, 14, 15]), (17, [8, 9, 10, 11]), (18, [8, 9, 10, 11]), (19, [8, 9, 10, 11, 12, 13, 14, 15, 16, 17, 18]), (20, []), (21, []), (22, [])] (by decide +kernel) ?_; conv => whnf)
              | (refine RegX.rule (id := 9) hT rfl [] [(0, []), (1, []), (2, []), (3, []), (4, [0, 1, 2, 3]), (5, []), (6, []), (7, [0, 1, 2, 3, 4, 5, 6]), (8, []), (9, [])] (by decide +kernel) ?_; conv => whnf)
              | (refine RegX.rule (id := 10) hT rfl [] [(0, []), (1, []), (2, []), (3, []), (4, [0, 1, 2, 3]), (5, [0, 1, 2, 3, 4]), (6, [0, 1, 2, 3, 4, 5]), (7, [0, 1, 2, 3, 4, 5, 6]), (8, [0, 1, 2, 3, 4, 5, 6]), (9, [0, 1, 2, 3, 4, 5, 6]), (10, [0, 1, 2, 3, 4, 5, 6]), (11, [0, 1, 2, 3, 4, 5, 6, 7, 8, 9, 10]), (12, [0, 1, 2, 3, 4, 5, 6]), (13, [0, 1, 2, 3, 4, 5, 6, 7, 8, 9, 10, 11, 12]), (14, [0, 1, 2, 3, 4, 5, 6, 7, 8, 9, 10, 11, 12]), (15, [0, 1, 2, 3, 4, 5, 6, 7, 8, 9, 10, 11, 12]), (16, [0, 1, 2, 3, 4, 5, 6, 7, 8, 9, 10, 11, 12]), (17, [0, 1, 2, 3, 4, 5, 6, 7, 8, 9, 10, 11, 12, 13, 14, 15, 16]), (18, [0, 1, 2, 3, 4, 5, 6, 7, 8, 9, 10, 11, 12, 13, 14, 15, 16, 17]), (19, [0, 1, 2, 3, 4, 5, 6, 7, 8, 9, 10, 11, 12, 13, 14, 15, 16]), (20, [0, 1, 2, 3, 4, 5, 6, 7, 8, 9, 10, 11, 12, 13, 14, 15, 16]), (21, [0, 1, 2, 3, 4, 5, 6, 7, 8, 9, 10, 11, 12]), (22, [5, 6, 11, 12]), (23, [5, 6, 11, 12]), (24, [6]), (25, [6]), (26, [6]), (27, []), (28, []), (29, [])] (by decide +kernel) ?_; conv => whnf)
              | (refine RegX.rule (id := 12) hT rfl [] [(0, []), (1, []), (2, []), (3, []), (4, [0, 1, 2, 3]), (5, [0, 1, 2, 3, 4]), (6, [0, 1, 2, 3, 4, 5]), (7, [0, 1, 2, 3, 4, 5, 6]), (8, [0, 1, 2, 3, 4, 5, 6]), (9, [0, 1, 2, 3, 4, 5, 6]), (10, [0, 1, 2, 3, 4, 5, 6]), (11, [0, 1, 2, 3, 4, 5, 6, 7, 8, 9, 10]), (12, [0, 1, 2, 3, 4, 5, 6]), (13, [0, 1, 2, 3, 4, 5, 6, 7, 8, 9, 10, 11, 12]), (14, [0, 1, 2, 3, 4, 5, 6, 7, 8, 9, 10, 11, 12]), (15, [0, 1, 2, 3, 4, 5, 6, 7, 8, 9, 10, 11, 12]), (16, [0, 1, 2, 3, 4, 5, 6, 7, 8, 9, 10, 11, 12]), (17, [0, 1, 2, 3, 4, 5, 6, 7, 8, 9, 10, 11, 12, 13, 14, 15, 16]), (18, [0, 1, 2, 3, 4, 5, 6, 7, 8, 9, 10, 11, 12, 13, 14, 15, 16]), (19, [0, 1, 2, 3, 4, 5, 6, 7, 8, 9, 10, 11, 12, 13, 14, 15, 16]), (20, [0, 1, 2, 3, 4, 5, 6, 7, 8, 9, 10, 11, 12, 13, 14, 15, 16]), (21, [0, 1, 2, 3, 4, 5, 6, 7, 8, 9, 10, 11, 12, 13, 14, 15, 16]), (22, [0, 1, 2, 3, 4, 5, 6, 7, 8, 9, 10, 11, 12, 13, 14, 15, 16]), (23, [0, 1, 2, 3, 4, 5, 6, 7, 8, 9, 10, 11, 12]), (24, [5, 6, 11, 12, 21, 22, 23]), (25, [5, 6, 11, 12, 21, 22, 23]), (26, [6, 21, 22, 23]), (27, [6, 21, 22, 23]), (28, [6, 21, 22, 23]), (29, []), (30, []), (31, [])] (by decide +kernel) ?_; conv => whnf)
              | omega
              | (refine And.intro ?_ ?_; ((try dsimp only); first | omega | (refine ⟨by omega, by omega, Int.le_trans (Int.mul_le_mul_of_nonneg_right (Int.ofNat_le.2 (Nat.le_of_ble_eq_true (rfl : Nat.ble _ 1024 = true))) (by omega)) (by omega), by omega⟩) | (refine Nat.le_trans (Nat.mul_le_mul_left _ (Nat.le_of_ble_eq_true (rfl : Nat.ble _ 1024 = true))) ?_; omega) | (unfold inI64; omega) | (constructor <;> omega) | (simp only [inI64, List.length_cons, List.length_append, List.length_nil, List.length_set] at *; omega) | decide | (unfold inI64; decide)); conv => whnf)
              | omega | decide | assumption)
          all_goals first
            | (refine .ent _ (mkSt [] (mtR r a b fr to 1000002 now (mtch r a b d (i + 1) now q) true)) (Entails.mk' [(1000000, 1000000), (1000002, 1000002), (1000001, 1000001)] rfl rfl trivial ⟨Res.le_refl _, Res.le_refl _, Res.le_refl _, trivial⟩) (.ret _ ?_)
               (conv => whnf)
               exact ⟨_, ⟨rfl, 1000002, .inl rfl, rfl⟩, Res.le_refl _, Res.le_refl _, Res.le_refl _, trivial⟩)
            | (refine .ent _ (mkSt [] (mtR r a b fr to 60 now (mtch r a b d (i + 1) now q) true)) (Entails.mk' [(1000000, 1000000), (60, 60), (1000001, 1000001)] rfl rfl trivial ⟨Res.le_refl _, Res.le_refl _, Res.le_refl _, trivial⟩) (.ret _ ?_)
               (conv => whnf)
               exact ⟨_, ⟨rfl, 60, .inr rfl, rfl⟩, Res.le_refl _, Res.le_refl _, Res.le_refl _, trivial⟩)
            | (refine .ent _ (mkSt [] (mtR r a b fr to 60 now (mtch r a b d (i + 1) now q) true)) (Entails.mk' [(1000000, 1000000), (60, 900), (1000001, 1000001)] rfl rfl trivial ⟨Res.le_refl _, Res.le_refl _, Res.le_refl _, trivial⟩) (.ret _ ?_)
               (conv => whnf)
               exact ⟨_, ⟨rfl, 60, .inr rfl, rfl⟩, Res.le_refl _, Res.le_refl _, Res.le_refl _, trivial⟩)
    cases f with
    | false => exact main false hf (fun h => by cases h)
    | true =>
      by_cases hp : now.1.length + (d + 1) < st.1.length
      · rw [mtch_prune (d + 1) i now st hp]
        refine spec_of hT (C := []) Tryz.func59 rfl Tryz.call59 rfl rfl rfl ?_
        conv => whnf
        repeat' (first
          | (refine br_intro (fun hb => ?_) (fun hb => ?_) <;> (try simp only [decide_eq_true_eq, decide_eq_false_iff_not, Bool.not_eq_true', Bool.not_eq_false', Bool.and_eq_true, Bool.or_eq_true, beq_iff_eq, not_and, Int.not_le, Int.not_lt, Int.toNat_natCast, beq_eq_false_iff_ne, ne_eq, eq_self, not_true_eq_false, not_false_eq_true] at hb) <;> (conv => whnf))
          | (refine RegX.rule (id := 0) hT rfl [] [(0, []), (1, []), (2, []), (3, []), (4, []), (5, []), (6, []), (7, []), (8, []), (9, []), (10, [5, 6, 7, 8, 9]), (11, [5, 6, 7, 8, 9]), (12, [5, 6, 7, 8, 9]), (13, [5, 6, 7, 8, 9]), (14, []), (15, [5, 6, 7, 8, 9, 10, 11, 12, 13, 14]), (16, []), (17, [5, 6, 7, 8, 9, 10, 11, 12, 13, 14, 15, 16]), (18, [5, 6, 7, 8, 9, 10, 11, 12, 13, 14, 15, 16]), (19, [5, 6, 7, 8, 9, 10, 11, 12, 13, 14, 15, 16]), (20, [5, 6, 7, 8, 9, 10, 11, 12, 13, 14, 15, 16]), (21, [5, 6, 7, 8, 9, 10, 11, 12, 13, 14, 15, 16]), (22, []), (23, [])] (by decide +kernel) ?_; conv => whnf)
          | (refine RegX.rule (id := 2) hT rfl [] [(0, []), (1, []), (2, []), (3, []), (4, []), (5, [0, 1, 2, 3, 4]), (6, [0, 1, 2, 3, 4]), (7, [0, 1, 2, 3, 4]), (8, [0, 1, 2, 3, 4]), (9, [0, 1, 2, 3, 4]), (11, [0, 1, 2, 3, 4, 5, 6, 7, 8, 9]), (12, [0, 1, 2, 3, 4, 5, 6, 7, 8, 9]), (13, [0, 1, 2, 3, 4, 5, 6, 7, 8, 9]), (14, [0, 1, 2, 3, 4, 5, 6, 7, 8, 9]), (15, [0, 1, 2, 3, 4, 5, 6, 7, 8, 9, 11, 12, 13, 14]), (16, [0, 1, 2, 3, 4, 5, 6, 7, 8, 9, 11, 12, 13, 14]), (17, [0, 1, 2, 3, 4, 5, 6, 7, 8, 9, 11, 12, 13, 14]), (18, [0, 1, 2, 3, 4, 5, 6, 7, 8, 9, 11, 12, 13, 14]), (20, [0, 1, 2, 3, 4, 5, 6, 7, 8, 9, 11, 12, 13, 14, 15, 16, 17, 18]), (21, [0, 1, 2, 3, 4, 5, 6, 7, 8, 9, 11, 12, 13, 14, 15, 16, 17, 18]), (22, [0, 1, 2, 3, 4, 5, 6, 7, 8, 9, 11, 12, 13, 14, 15, 16, 17, 18]), (23, [0, 1, 2, 3, 4, 5, 6, 7, 8, 9, 11, 12, 13, 14, 15, 16, 17, 18]), (24, [0, 1, 2, 3, 4, 5, 6, 7, 8, 9, 11, 12, 13, 14, 15, 16, 17, 18, 20, 21, 22, 23]), (25, [0, 1, 2, 3, 4, 5, 6, 7, 8, 9, 11, 12, 13, 14, 15, 16, 17, 18, 20, 21, 22, 23]), (26, [0, 1, 2, 3, 4, 5, 6, 7, 8, 9, 11, 12, 13, 14, 15, 16, 17, 18, 20, 21, 22, 23]), (27, [0, 1, 2, 3, 4, 5, 6, 7, 8, 9, 11, 12, 13, 14, 15, 16, 17, 18, 20, 21, 22, 23]), (10, [11, 12, 13, 14, 15, 16, 17, 18, 20, 21, 22, 23, 24, 25, 26, 27]), (19, [20, 21, 22, 23, 24, 25, 26, 27]), (28, []), (29, []), (30, []), (31, [])] (by decide +kernel) ?_; conv => whnf)
          | (refine RegX.rule (id := 4) hT rfl [] [(0, []), (1, [0]), (2, [0, 1]), (3, [0, 1, 2]), (4, [0, 1, 2]), (5, [0, 1, 2]), (6, [0, 1, 2]), (8, [0, 1, 2, 3, 4, 5, 6]), (9, [0, 1, 2, 3, 4, 5, 6]), (10, [0, 1, 2, 3, 4, 5, 6]), (11, [0, 1, 2, 3, 4, 5, 6]), (7, [0, 1, 2, 8, 9, 10, 11]), (12, [1, 2]), (13, [1, 2]), (14, [1, 2]), (15, [2]), (16, [2]), (17, [2]), (18, []), (19, []), (20, [])] (by decide +kernel) ?_; conv => whnf)
          | (refine RegX.rule (id := 8) hT rfl [] [(0, []), (1, []), (2, []), (3, []), (4, [0, 1, 2, 3]), (5, []), (6, []), (7, []), (8, []), (9, []), (10, []), (11, []), (12, [8, 9, 10, 11]), (13, [8, 9, 10, 11]), (14, [8, 9, 10, 11]), (15, [8, 9, 10, 11]), (16, [8, 9, 10, 11, 12, 13, 14, 15]), (17, [8, 9, 10, 11]), (18, [8, 9, 10, 11]), (19, [8, 9, 10, 11, 12, 13, 14, 15, 16, 17, 18]), (20, []), (21, []), (22, [])] (by decide +kernel) ?_; conv => whnf)
          | (refine RegX.rule (id := 9) hT rfl [] [(0, []), (1, []), (2, []), (3, []), (4, [0, 1, 2, 3]), (5, []), (6, []), (7, [0, 1, 2, 3, 4, 5, 6]), (8, []), (9, [])] (by decide +kernel) ?_; conv => whnf)
          | (refine RegX.rule (id := 10) hT rfl [] [(0, []), (1, []), (2, []), (3, []), (4, [0, 1, 2, 3]), (5, [0, 1, 2, 3, 4]), (6, [0, 1, 2, 3, 4, 5]), (7, [0, 1, 2, 3, 4, 5, 6]), (8, [0, 1, 2, 3, 4, 5, 6]), (9, [0, 1, 2, 3, 4, 5, 6]), (10, [0, 1, 2, 3, 4, 5, 6]), (11, [0, 1, 2, 3, 4, 5, 6, 7, 8, 9, 10]), (12, [0, 1, 2, 3, 4, 5, 6]), (13, [0, 1, 2, 3, 4, 5, 6, 7, 8, 9, 10, 11, 12]), (14, [0, 1, 2, 3, 4, 5, 6, 7, 8, 9, 10, 11, 12]), (15, [0, 1, 2, 3, 4, 5, 6, 7, 8, 9, 10, 11, 12]), (16, [0, 1, 2, 3, 4, 5, 6, 7, 8, 9, 10, 11, 12]), (17, [0, 1, 2, 3, 4, 5, 6, 7, 8, 9, 10, 11, 12, 13, 14, 15, 16]), (18, [0, 1, 2, 3, 4, 5, 6, 7, 8, 9, 10, 11, 12, 13, 14, 15, 16, 17]), (19, [0, 1, 2, 3, 4, 5, 6, 7, 8, 9, 10, 11, 12, 13, 14, 15, 16]), (20, [0, 1, 2, 3, 4, 5, 6, 7, 8, 9, 10, 11, 12, 13, 14, 15, 16]), (21, [0, 1, 2, 3, 4, 5, 6, 7, 8, 9, 10, 11, 12]), (22, [5, 6, 11, 12]), (23, [5, 6, 11, 12]), (24, [6]), (25, [6]), (26, [6]), (27, []), (28, []), (29, [])] (by decide +kernel) ?_; conv => whnf)
          | (refine RegX.rule (id := 12) hT rfl [] [(0, []), (1, []), (2, []), (3, []), (4, [0, 1, 2, 3]), (5, [0, 1, 2, 3, 4]), (6, [0, 1, 2, 3, 4, 5]), (7, [0, 1, 2, 3, 4, 5, 6]), (8, [0, 1, 2, 3, 4, 5, 6]), (9, [0, 1, 2, 3, 4, 5, 6]), (10, [0, 1, 2, 3, 4, 5, 6]), (11, [0, 1, 2, 3, 4, 5, 6, 7, 8, 9, 10]), (12, [0, 1, 2, 3, 4, 5, 6]), (13, [0, 1, 2, 3, 4, 5, 6, 7, 8, 9, 10, 11, 12]), (14, [0, 1, 2, 3, 4, 5, 6, 7, 8, 9, 10, 11, 12]), (15, [0, 1, 2, 3, 4, 5, 6, 7, 8, 9, 10, 11, 12]), (16, [0, 1, 2, 3, 4, 5, 6, 7, 8, 9, 10, 11, 12]), (17, [0, 1, 2, 3, 4, 5, 6, 7, 8, 9, 10, 11, 12, 13, 14, 15, 16]), (18, [0, 1, 2, 3, 4, 5, 6, 7, 8, 9, 10, 11, 12, 13, 14, 15, 16]), (19, [0, 1, 2, 3, 4, 5, 6, 7, 8, 9, 10, 11, 12, 13, 14, 15, 16]), (20, [0, 1, 2, 3, 4, 5, 6, 7, 8, 9, 10, 11, 12, 13, 14, 15, 16]), (21, [0, 1, 2, 3, 4, 5, 6, 7, 8, 9, 10, 11, 12, 13, 14, 15, 16]), (22, [0, 1, 2, 3, 4, 5, 6, 7, 8, 9, 10, 11, 12, 13, 14, 15, 16]), (23, [0, 1, 2, 3, 4, 5, 6, 7, 8, 9, 10, 11, 12]), (24, [5, 6, 11, 12, 21, 22, 23]), (25, [5, 6, 11, 12, 21, 22, 23]), (26, [6, 21, 22, 23]), (27, [6, 21, 22, 23]), (28, [6, 21, 22, 23]), (29, []), (30, []), (31, [])] (by decide +kernel) ?_; conv => whnf)
          | omega
          | (refine And.intro ?_ ?_; ((try dsimp only); first | omega | (refine ⟨by omega, by omega, Int.le_trans (Int.mul_le_mul_of_nonneg_right (Int.ofNat_le.2 (Nat.le_of_ble_eq_true (rfl : Nat.ble _ 1024 = true))) (by omega)) (by omega), by omega⟩) | (refine Nat.le_trans (Nat.mul_le_mul_left _ (Nat.le_of_ble_eq_true (rfl : Nat.ble _ 1024 = true))) ?_; omega) | (unfold inI64; omega) | (constructor <;> omega) | (simp only [inI64, List.length_cons, List.length_append, List.length_nil, List.length_set] at *; omega) | decide | (unfold inI64; decide)); conv => whnf)
          | omega | decide | assumption)
        refine .ret _ ?_
        conv => whnf
        exact ⟨_, ⟨rfl, 1000002, .inl rfl, rfl⟩, Res.le_refl _, Res.le_refl _, Res.le_refl _, trivial⟩
      · exact main true hf (fun _ => by omega)
end Go.Proofs.YtnchgjpdggembaaGreat
set_option maxRecDepth 20000
namespace Go.Proofs.YtnchgjpdggembaaGreat
open Go Go.Eng
theorem mtPre_len {r : Rul} {a b : List Mrk} {i : Nat} {out : List Prg} (h : mtPre r a b i out) : out.length ≤ a.length := by
  obtain ⟨_, f, _, h2⟩ := h
  have := (mtL_ok r a b).1
  rw [← h2, List.length_append] at this
  omega
-- MatchOf
-- MatchOf
end Go.Proofs.YtnchgjpdggembaaGreat
set_option maxRecDepth 20000
namespace Go.Proofs.YtnchgjpdggembaaGreat
open Go Go.Eng
theorem usedL_nil {n i : Nat} (h : i < n) : rowF bF false (usedL n []) i = [.bool false] := by
  simp only [rowF]
  rw [usedL_get [] h]
  rfl
-- mark.match
set_option maxHeartbeats 4000000 in
theorem z157 (r : Rul) (a b : List Mrk) (hr : rBd r) (ha : a.length ≤ 60 ∧ ∀ i, i < a.length → mBd (a.getD i mk0)) (hb2 : b.length ≤ 60 ∧ ∀ i, i < b.length → mBd (b.getD i mk0)) :
    FSpec Tryz.prog 31 [.agg ((ruF r).map .d), .d (mrks a), .d (mrks b)] [] (fun y r' => y = .d (prgs (mtL r a b)) ∧ r' = []) := by
  have ha1 := ha.1
  have hb1 := hb2.1
  refine spec_of hT (C := []) Tryz.func31 rfl Tryz.call31 rfl rfl rfl ?_
  conv => whnf
  refine LoopX.rule hT (C := []) (ι := Nat × List Prg) (fun (i, out) => mtPre r a b i out) (fun (i, out) => mkSt [(1, .d (mrks a)), (2, .d (mrks b)), (3, .ptr 3 0), (7, .buf 7), (8, .d (.int .i64 i))]
    [(3, .cells 29 ((ruF r).map .d)), (7, prB out)]) (fun (i, _) => a.length - i) (0, []) mtPre_zero ?_ ?_
  · exact (Entails.nil 7 7 46 2 (rowF prF pr0 []) rfl rfl (by decide)).trans (by (refine Entails.mk' [(3, 3), (7, 7)] rfl rfl ?_ ?_ <;> repeat' (first | exact True.intro | exact SV.le_refl _ | exact Res.le_refl _ | exact SV.le_int (by omega) | exact SV.le_any _ | refine And.intro ?_ ?_)); done)
  rintro ⟨i, out⟩ p1
  have hil : i ≤ a.length := p1.1
  have hol := mtPre_len p1
  have e1 : (i : Int).toNat = i := Int.toNat_natCast i
  by_cases hi : i < a.length
  · conv => whnf
    repeat' (first
      | (refine br_intro (fun hb => ?_) (fun hb => ?_) <;> (try simp only [decide_eq_true_eq, decide_eq_false_iff_not, Bool.not_eq_true', Bool.not_eq_false', Bool.and_eq_true, Bool.or_eq_true, beq_iff_eq, not_and, Int.not_le, Int.not_lt, Int.toNat_natCast, beq_eq_false_iff_ne, ne_eq, eq_self, not_true_eq_false, not_false_eq_true] at hb) <;> (conv => whnf))
      | (refine RegX.rule (id := 5) hT rfl [] [(0, []), (1, [0]), (2, [0]), (3, []), (4, []), (5, []), (6, [5]), (7, []), (8, []), (9, []), (10, [5, 6, 7, 8, 9]), (11, [5, 6, 7, 8, 9, 10]), (12, [5, 6, 7, 8, 9]), (13, [5, 6, 7, 8, 9]), (14, [5, 6, 7, 8, 9]), (15, []), (16, []), (17, []), (18, []), (19, [18]), (20, []), (21, []), (22, []), (23, [18, 19, 20, 21, 22]), (24, [18, 19, 20, 21, 22, 23]), (25, [18, 19, 20, 21, 22]), (26, [18, 19, 20, 21, 22]), (27, [18, 19, 20, 21, 22]), (28, []), (29, [])] (by decide +kernel) ?_; conv => whnf)
      | (refine RegX.rule (id := 7) hT rfl [] [(0, []), (1, [0]), (2, [0, 1]), (3, [0, 1, 2]), (4, [0, 1, 2, 3]), (5, [0, 1, 2, 3, 4]), (6, [0, 1, 2, 3, 4]), (7, [0, 1, 2, 3, 4]), (8, []), (9, []), (10, [])] (by decide +kernel) ?_; conv => whnf)
      | omega
      | (refine And.intro ?_ ?_; ((try dsimp only); first | omega | (refine ⟨by omega, by omega, Int.le_trans (Int.mul_le_mul_of_nonneg_right (Int.ofNat_le.2 (Nat.le_of_ble_eq_true (rfl : Nat.ble _ 1024 = true))) (by omega)) (by omega), by omega⟩) | (refine Nat.le_trans (Nat.mul_le_mul_left _ (Nat.le_of_ble_eq_true (rfl : Nat.ble _ 1024 = true))) ?_; omega) | (unfold inI64; omega) | (constructor <;> omega) | (simp only [inI64, List.length_cons, List.length_append, List.length_nil, List.length_set] at *; omega) | decide | (unfold inI64; decide)); conv => whnf)
      | omega | decide | assumption)
    refine LoopX.rule hT (C := []) (ι := Nat) (fun t => i ≤ t ∧ t ≤ a.length ∧ ∀ j, i ≤ j → j < t → sameM (a.getD j mk0) (a.getD i mk0) = true) (fun t => mkSt [(1, .d (mrks a)), (2, .d (mrks b)), (3, .ptr 3 0), (7, .buf 7), (8, .d (.int .i64 i)), (9, .d (.int .i64 t))]
      [(3, .cells 29 ((ruF r).map .d)), (7, prB out)]) (fun t => a.length - t) i ⟨by omega, by omega, fun j h1 h2 => by omega⟩ (by (refine Entails.mk' [(3, 3), (7, 7)] rfl rfl ?_ ?_ <;> repeat' (first | exact True.intro | exact SV.le_refl _ | exact Res.le_refl _ | exact SV.le_int (by omega) | exact SV.le_any _ | refine And.intro ?_ ?_)); done) ?_
    rintro t ⟨t1, t2, t3⟩
    have e2 : (t : Int).toNat = t := Int.toNat_natCast t
    have hrun : (t = a.length ∨ sameM (a.getD t mk0) (a.getD i mk0) = false) → runE a i = t := fun h => runE_eq t1 t2 t3 h
    have h233 := z233 r a b i t hr ha hb2 t2 (t - i) i ([], 0) ([], 0) false (by omega) ⟨by simp, by simp, by simp⟩ (fun _ => rfl) (fun _ => rfl) (by simp)
    have hnil := FSpec.nilCell (c := 1000000) (d := 1000002) (e := 46) (k := 2) (j := 9) (ce := 103) (l := [.d (.int .i64 r.near), .d (.int .i64 r.slack), .d (.int .i64 r.join), .d (.int .i64 r.part), .d (mrks a), .d (mrks b), .d (.int .i64 i), .d (.int .i64 t), .buf 1000001, .d .nilsl, .d (prgs []), .d (.int .i64 0), .d (.int .i64 0), .d (.bool false)]) (g := rowF prF pr0 []) (rest := [(1000001, seqB 4 1 bF false (usedL b.length []))]) h233 (by decide) rfl rfl rfl
    have hstep : runE a i = t → mtPre r a b t (out ++ (mtch r a b (t - i) i ([], 0) ([], 0)).1) := fun h => by have := mtPre_step p1 hi; rw [h] at this; exact this
    have hit : runE a i = t → i < t := fun h => by have := (runE_spec hi).1; omega
    have hul := usedL_len b.length []
    have hlt := (runE_spec hi).1
    have hml := mtch_len (r := r) (a := a) (b := b) (t - i) i ([], 0) ([], 0) (t - i) (by simp) (by simp)
    conv => whnf
    repeat' (first
      | (refine CallX.of hnil [(1000000, 57), (1000001, 55), (1000002, 1002), (60, 1060)] rfl ⟨SV.le_refl _, SV.le_refl _, trivial⟩ ⟨Res.le_cellsL ⟨SV.le_refl _, SV.le_refl _, SV.le_refl _, SV.le_refl _, SV.le_refl _, SV.le_refl _, SV.le_refl _, SV.le_refl _, SV.le_refl _, SV.le_refl _, SV.le_nilS, SV.le_refl _, SV.le_refl _, SV.le_refl _, trivial⟩, Res.le_buf hul.symm (fun j hj => (usedL_nil (by simpa using hj)).symm), trivial⟩ rfl rfl ?_; rintro x rout ⟨rfl, nm, (rfl | rfl), rfl⟩ <;> (refine ⟨rfl, ?_⟩; conv => whnf); conv => whnf)
      | (refine br_intro (fun hb => ?_) (fun hb => ?_) <;> (try simp only [decide_eq_true_eq, decide_eq_false_iff_not, Bool.not_eq_true', Bool.not_eq_false', Bool.and_eq_true, Bool.or_eq_true, beq_iff_eq, not_and, Int.not_le, Int.not_lt, Int.toNat_natCast, beq_eq_false_iff_ne, ne_eq, eq_self, not_true_eq_false, not_false_eq_true] at hb) <;> (conv => whnf))
      | (refine RegX.rule (id := 5) hT rfl [] [(0, []), (1, [0]), (2, [0]), (3, []), (4, []), (5, []), (6, [5]), (7, []), (8, []), (9, []), (10, [5, 6, 7, 8, 9]), (11, [5, 6, 7, 8, 9, 10]), (12, [5, 6, 7, 8, 9]), (13, [5, 6, 7, 8, 9]), (14, [5, 6, 7, 8, 9]), (15, []), (16, []), (17, []), (18, []), (19, [18]), (20, []), (21, []), (22, []), (23, [18, 19, 20, 21, 22]), (24, [18, 19, 20, 21, 22, 23]), (25, [18, 19, 20, 21, 22]), (26, [18, 19, 20, 21, 22]), (27, [18, 19, 20, 21, 22]), (28, []), (29, [])] (by decide +kernel) ?_; conv => whnf)
      | (refine RegX.rule (id := 7) hT rfl [] [(0, []), (1, [0]), (2, [0, 1]), (3, [0, 1, 2]), (4, [0, 1, 2, 3]), (5, [0, 1, 2, 3, 4]), (6, [0, 1, 2, 3, 4]), (7, [0, 1, 2, 3, 4]), (8, []), (9, []), (10, [])] (by decide +kernel) ?_; conv => whnf)
      | omega
      | (refine And.intro ?_ ?_; ((try dsimp only); first | omega | (refine ⟨by omega, by omega, Int.le_trans (Int.mul_le_mul_of_nonneg_right (Int.ofNat_le.2 (Nat.le_of_ble_eq_true (rfl : Nat.ble _ 1024 = true))) (by omega)) (by omega), by omega⟩) | (refine Nat.le_trans (Nat.mul_le_mul_left _ (Nat.le_of_ble_eq_true (rfl : Nat.ble _ 1024 = true))) ?_; omega) | (unfold inI64; omega) | (constructor <;> omega) | (simp only [inI64, List.length_cons, List.length_append, List.length_nil, List.length_set] at *; omega) | decide | (unfold inI64; decide)); conv => whnf)
      | omega | decide | assumption)
    all_goals first
      | (have hsm : sameM (a.getD t mk0) (a.getD i mk0) = true := by clear t3 hrun hnil h233; unfold sameM; grind
         exact ⟨t + 1, ⟨by omega, by omega, fun j h1 h2 => by
           by_cases e : j = t
           · rw [e]; exact hsm
           · exact t3 j h1 (by omega)⟩, by omega, (by (refine Entails.mk' [(3, 3), (7, 7)] rfl rfl ?_ ?_ <;> repeat' (first | exact True.intro | exact SV.le_refl _ | exact Res.le_refl _ | exact SV.le_int (by omega) | exact SV.le_any _ | refine And.intro ?_ ?_)); done)⟩)
      | (have hr : runE a i = t := hrun (by
           first
             | exact .inl (by omega)
             | (right; clear t3 hrun hnil h233; unfold sameM; grind))
         have hit := hit hr
         exact ⟨(t, out ++ (mtch r a b (t - i) i ([], 0) ([], 0)).1), hstep hr, (show a.length - t < a.length - i by omega), Entails.mk' [(3, 3), (7, 66)] rfl rfl ⟨SV.le_refl _, SV.le_refl _, SV.le_refl _, SV.le_refl _, SV.le_refl _, trivial⟩ ⟨Res.le_refl _, Res.le_appF, trivial⟩⟩)
  · have hout := mtPre_end p1 hi
    subst hout
    conv => whnf
    repeat' (first
      | (refine br_intro (fun hb => ?_) (fun hb => ?_) <;> (try simp only [decide_eq_true_eq, decide_eq_false_iff_not, Bool.not_eq_true', Bool.not_eq_false', Bool.and_eq_true, Bool.or_eq_true, beq_iff_eq, not_and, Int.not_le, Int.not_lt, Int.toNat_natCast, beq_eq_false_iff_ne, ne_eq, eq_self, not_true_eq_false, not_false_eq_true] at hb) <;> (conv => whnf))
      | (refine RegX.rule (id := 5) hT rfl [] [(0, []), (1, [0]), (2, [0]), (3, []), (4, []), (5, []), (6, [5]), (7, []), (8, []), (9, []), (10, [5, 6, 7, 8, 9]), (11, [5, 6, 7, 8, 9, 10]), (12, [5, 6, 7, 8, 9]), (13, [5, 6, 7, 8, 9]), (14, [5, 6, 7, 8, 9]), (15, []), (16, []), (17, []), (18, []), (19, [18]), (20, []), (21, []), (22, []), (23, [18, 19, 20, 21, 22]), (24, [18, 19, 20, 21, 22, 23]), (25, [18, 19, 20, 21, 22]), (26, [18, 19, 20, 21, 22]), (27, [18, 19, 20, 21, 22]), (28, []), (29, [])] (by decide +kernel) ?_; conv => whnf)
      | (refine RegX.rule (id := 7) hT rfl [] [(0, []), (1, [0]), (2, [0, 1]), (3, [0, 1, 2]), (4, [0, 1, 2, 3]), (5, [0, 1, 2, 3, 4]), (6, [0, 1, 2, 3, 4]), (7, [0, 1, 2, 3, 4]), (8, []), (9, []), (10, [])] (by decide +kernel) ?_; conv => whnf)
      | omega
      | (refine And.intro ?_ ?_; ((try dsimp only); first | omega | (refine ⟨by omega, by omega, Int.le_trans (Int.mul_le_mul_of_nonneg_right (Int.ofNat_le.2 (Nat.le_of_ble_eq_true (rfl : Nat.ble _ 1024 = true))) (by omega)) (by omega), by omega⟩) | (refine Nat.le_trans (Nat.mul_le_mul_left _ (Nat.le_of_ble_eq_true (rfl : Nat.ble _ 1024 = true))) ?_; omega) | (unfold inI64; omega) | (constructor <;> omega) | (simp only [inI64, List.length_cons, List.length_append, List.length_nil, List.length_set] at *; omega) | decide | (unfold inI64; decide)); conv => whnf)
      | omega | decide | assumption)
    refine .freeze _ 7 46 2 _ _ rfl (.weak _ ?_)
    conv => whnf
    exact ⟨_, [], SV.le_refl _, ⟨rfl, rfl⟩, trivial⟩
end Go.Proofs.YtnchgjpdggembaaGreat
set_option maxRecDepth 20000
namespace Go.Proofs.YtnchgjpdggembaaGreat
open Go Go.Eng
theorem s221_0 : FSpec Tryz.prog 86 [.d (.int .u64 0)] [] (fun y r => (∃ m : Int, y = .d (.int .i64 m)) ∧ r = []) := by
  refine spec_of hT (C := []) Tryz.func86 rfl Tryz.call86 rfl rfl rfl ?_
  conv => whnf
  repeat' (first
    | (refine br_intro (fun hb => ?_) (fun hb => ?_) <;> (try simp only [decide_eq_true_eq, decide_eq_false_iff_not, Bool.not_eq_true', Bool.not_eq_false', Bool.and_eq_true, Bool.or_eq_true, beq_iff_eq, not_and, Int.not_le, Int.not_lt, Int.toNat_natCast, beq_eq_false_iff_ne, ne_eq, eq_self, not_true_eq_false, not_false_eq_true] at hb) <;> (conv => whnf))
    | omega
    | (refine And.intro ?_ ?_; ((try dsimp only); first | omega | (refine ⟨by omega, by omega, Int.le_trans (Int.mul_le_mul_of_nonneg_right (Int.ofNat_le.2 (Nat.le_of_ble_eq_true (rfl : Nat.ble _ 1024 = true))) (by omega)) (by omega), by omega⟩) | (refine Nat.le_trans (Nat.mul_le_mul_left _ (Nat.le_of_ble_eq_true (rfl : Nat.ble _ 1024 = true))) ?_; omega) | (unfold inI64; omega) | (constructor <;> omega) | (simp only [inI64, List.length_cons, List.length_append, List.length_nil, List.length_set] at *; omega) | decide | (unfold inI64; decide)); conv => whnf)
    | omega | decide | assumption)
  refine .ret _ ?_
  conv => whnf
  exact ⟨[], ⟨⟨_, rfl⟩, rfl⟩, trivial⟩
theorem s221_1 : FSpec Tryz.prog 86 [.d (.int .u64 1)] [] (fun y r => (∃ m : Int, y = .d (.int .i64 m)) ∧ r = []) := by
  refine spec_of hT (C := []) Tryz.func86 rfl Tryz.call86 rfl rfl rfl ?_
  conv => whnf
  repeat' (first
    | (refine br_intro (fun hb => ?_) (fun hb => ?_) <;> (try simp only [decide_eq_true_eq, decide_eq_false_iff_not, Bool.not_eq_true', Bool.not_eq_false', Bool.and_eq_true, Bool.or_eq_true, beq_iff_eq, not_and, Int.not_le, Int.not_lt, Int.toNat_natCast, beq_eq_false_iff_ne, ne_eq, eq_self, not_true_eq_false, not_false_eq_true] at hb) <;> (conv => whnf))
    | omega
    | (refine And.intro ?_ ?_; ((try dsimp only); first | omega | (refine ⟨by omega, by omega, Int.le_trans (Int.mul_le_mul_of_nonneg_right (Int.ofNat_le.2 (Nat.le_of_ble_eq_true (rfl : Nat.ble _ 1024 = true))) (by omega)) (by omega), by omega⟩) | (refine Nat.le_trans (Nat.mul_le_mul_left _ (Nat.le_of_ble_eq_true (rfl : Nat.ble _ 1024 = true))) ?_; omega) | (unfold inI64; omega) | (constructor <;> omega) | (simp only [inI64, List.length_cons, List.length_append, List.length_nil, List.length_set] at *; omega) | decide | (unfold inI64; decide)); conv => whnf)
    | omega | decide | assumption)
  refine .ret _ ?_
  conv => whnf
  exact ⟨[], ⟨⟨_, rfl⟩, rfl⟩, trivial⟩
theorem s221_2 : FSpec Tryz.prog 86 [.d (.int .u64 2)] [] (fun y r => (∃ m : Int, y = .d (.int .i64 m)) ∧ r = []) := by
  refine spec_of hT (C := []) Tryz.func86 rfl Tryz.call86 rfl rfl rfl ?_
  conv => whnf
  repeat' (first
    | (refine br_intro (fun hb => ?_) (fun hb => ?_) <;> (try simp only [decide_eq_true_eq, decide_eq_false_iff_not, Bool.not_eq_true', Bool.not_eq_false', Bool.and_eq_true, Bool.or_eq_true, beq_iff_eq, not_and, Int.not_le, Int.not_lt, Int.toNat_natCast, beq_eq_false_iff_ne, ne_eq, eq_self, not_true_eq_false, not_false_eq_true] at hb) <;> (conv => whnf))
    | omega
    | (refine And.intro ?_ ?_; ((try dsimp only); first | omega | (refine ⟨by omega, by omega, Int.le_trans (Int.mul_le_mul_of_nonneg_right (Int.ofNat_le.2 (Nat.le_of_ble_eq_true (rfl : Nat.ble _ 1024 = true))) (by omega)) (by omega), by omega⟩) | (refine Nat.le_trans (Nat.mul_le_mul_left _ (Nat.le_of_ble_eq_true (rfl : Nat.ble _ 1024 = true))) ?_; omega) | (unfold inI64; omega) | (constructor <;> omega) | (simp only [inI64, List.length_cons, List.length_append, List.length_nil, List.length_set] at *; omega) | decide | (unfold inI64; decide)); conv => whnf)
    | omega | decide | assumption)
  refine .ret _ ?_
  conv => whnf
  exact ⟨[], ⟨⟨_, rfl⟩, rfl⟩, trivial⟩
theorem s221_3 : FSpec Tryz.prog 86 [.d (.int .u64 3)] [] (fun y r => (∃ m : Int, y = .d (.int .i64 m)) ∧ r = []) := by
  refine spec_of hT (C := []) Tryz.func86 rfl Tryz.call86 rfl rfl rfl ?_
  conv => whnf
  repeat' (first
    | (refine br_intro (fun hb => ?_) (fun hb => ?_) <;> (try simp only [decide_eq_true_eq, decide_eq_false_iff_not, Bool.not_eq_true', Bool.not_eq_false', Bool.and_eq_true, Bool.or_eq_true, beq_iff_eq, not_and, Int.not_le, Int.not_lt, Int.toNat_natCast, beq_eq_false_iff_ne, ne_eq, eq_self, not_true_eq_false, not_false_eq_true] at hb) <;> (conv => whnf))
    | omega
    | (refine And.intro ?_ ?_; ((try dsimp only); first | omega | (refine ⟨by omega, by omega, Int.le_trans (Int.mul_le_mul_of_nonneg_right (Int.ofNat_le.2 (Nat.le_of_ble_eq_true (rfl : Nat.ble _ 1024 = true))) (by omega)) (by omega), by omega⟩) | (refine Nat.le_trans (Nat.mul_le_mul_left _ (Nat.le_of_ble_eq_true (rfl : Nat.ble _ 1024 = true))) ?_; omega) | (unfold inI64; omega) | (constructor <;> omega) | (simp only [inI64, List.length_cons, List.length_append, List.length_nil, List.length_set] at *; omega) | decide | (unfold inI64; decide)); conv => whnf)
    | omega | decide | assumption)
  refine .ret _ ?_
  conv => whnf
  exact ⟨[], ⟨⟨_, rfl⟩, rfl⟩, trivial⟩
theorem s221_4 : FSpec Tryz.prog 86 [.d (.int .u64 4)] [] (fun y r => (∃ m : Int, y = .d (.int .i64 m)) ∧ r = []) := by
  refine spec_of hT (C := []) Tryz.func86 rfl Tryz.call86 rfl rfl rfl ?_
  conv => whnf
  repeat' (first
    | (refine br_intro (fun hb => ?_) (fun hb => ?_) <;> (try simp only [decide_eq_true_eq, decide_eq_false_iff_not, Bool.not_eq_true', Bool.not_eq_false', Bool.and_eq_true, Bool.or_eq_true, beq_iff_eq, not_and, Int.not_le, Int.not_lt, Int.toNat_natCast, beq_eq_false_iff_ne, ne_eq, eq_self, not_true_eq_false, not_false_eq_true] at hb) <;> (conv => whnf))
    | omega
    | (refine And.intro ?_ ?_; ((try dsimp only); first | omega | (refine ⟨by omega, by omega, Int.le_trans (Int.mul_le_mul_of_nonneg_right (Int.ofNat_le.2 (Nat.le_of_ble_eq_true (rfl : Nat.ble _ 1024 = true))) (by omega)) (by omega), by omega⟩) | (refine Nat.le_trans (Nat.mul_le_mul_left _ (Nat.le_of_ble_eq_true (rfl : Nat.ble _ 1024 = true))) ?_; omega) | (unfold inI64; omega) | (constructor <;> omega) | (simp only [inI64, List.length_cons, List.length_append, List.length_nil, List.length_set] at *; omega) | decide | (unfold inI64; decide)); conv => whnf)
    | omega | decide | assumption)
  refine .ret _ ?_
  conv => whnf
  exact ⟨[], ⟨⟨_, rfl⟩, rfl⟩, trivial⟩
theorem s221_5 : FSpec Tryz.prog 86 [.d (.int .u64 5)] [] (fun y r => (∃ m : Int, y = .d (.int .i64 m)) ∧ r = []) := by
  refine spec_of hT (C := []) Tryz.func86 rfl Tryz.call86 rfl rfl rfl ?_
  conv => whnf
  repeat' (first
    | (refine br_intro (fun hb => ?_) (fun hb => ?_) <;> (try simp only [decide_eq_true_eq, decide_eq_false_iff_not, Bool.not_eq_true', Bool.not_eq_false', Bool.and_eq_true, Bool.or_eq_true, beq_iff_eq, not_and, Int.not_le, Int.not_lt, Int.toNat_natCast, beq_eq_false_iff_ne, ne_eq, eq_self, not_true_eq_false, not_false_eq_true] at hb) <;> (conv => whnf))
    | omega
    | (refine And.intro ?_ ?_; ((try dsimp only); first | omega | (refine ⟨by omega, by omega, Int.le_trans (Int.mul_le_mul_of_nonneg_right (Int.ofNat_le.2 (Nat.le_of_ble_eq_true (rfl : Nat.ble _ 1024 = true))) (by omega)) (by omega), by omega⟩) | (refine Nat.le_trans (Nat.mul_le_mul_left _ (Nat.le_of_ble_eq_true (rfl : Nat.ble _ 1024 = true))) ?_; omega) | (unfold inI64; omega) | (constructor <;> omega) | (simp only [inI64, List.length_cons, List.length_append, List.length_nil, List.length_set] at *; omega) | decide | (unfold inI64; decide)); conv => whnf)
    | omega | decide | assumption)
  refine .ret _ ?_
  conv => whnf
  exact ⟨[], ⟨⟨_, rfl⟩, rfl⟩, trivial⟩
theorem s221_6 : FSpec Tryz.prog 86 [.d (.int .u64 6)] [] (fun y r => (∃ m : Int, y = .d (.int .i64 m)) ∧ r = []) := by
  refine spec_of hT (C := []) Tryz.func86 rfl Tryz.call86 rfl rfl rfl ?_
  conv => whnf
  repeat' (first
    | (refine br_intro (fun hb => ?_) (fun hb => ?_) <;> (try simp only [decide_eq_true_eq, decide_eq_false_iff_not, Bool.not_eq_true', Bool.not_eq_false', Bool.and_eq_true, Bool.or_eq_true, beq_iff_eq, not_and, Int.not_le, Int.not_lt, Int.toNat_natCast, beq_eq_false_iff_ne, ne_eq, eq_self, not_true_eq_false, not_false_eq_true] at hb) <;> (conv => whnf))
    | omega
    | (refine And.intro ?_ ?_; ((try dsimp only); first | omega | (refine ⟨by omega, by omega, Int.le_trans (Int.mul_le_mul_of_nonneg_right (Int.ofNat_le.2 (Nat.le_of_ble_eq_true (rfl : Nat.ble _ 1024 = true))) (by omega)) (by omega), by omega⟩) | (refine Nat.le_trans (Nat.mul_le_mul_left _ (Nat.le_of_ble_eq_true (rfl : Nat.ble _ 1024 = true))) ?_; omega) | (unfold inI64; omega) | (constructor <;> omega) | (simp only [inI64, List.length_cons, List.length_append, List.length_nil, List.length_set] at *; omega) | decide | (unfold inI64; decide)); conv => whnf)
    | omega | decide | assumption)
  refine .ret _ ?_
  conv => whnf
  exact ⟨[], ⟨⟨_, rfl⟩, rfl⟩, trivial⟩
theorem s221_7 : FSpec Tryz.prog 86 [.d (.int .u64 7)] [] (fun y r => (∃ m : Int, y = .d (.int .i64 m)) ∧ r = []) := by
  refine spec_of hT (C := []) Tryz.func86 rfl Tryz.call86 rfl rfl rfl ?_
  conv => whnf
  repeat' (first
    | (refine br_intro (fun hb => ?_) (fun hb => ?_) <;> (try simp only [decide_eq_true_eq, decide_eq_false_iff_not, Bool.not_eq_true', Bool.not_eq_false', Bool.and_eq_true, Bool.or_eq_true, beq_iff_eq, not_and, Int.not_le, Int.not_lt, Int.toNat_natCast, beq_eq_false_iff_ne, ne_eq, eq_self, not_true_eq_false, not_false_eq_true] at hb) <;> (conv => whnf))
    | omega
    | (refine And.intro ?_ ?_; ((try dsimp only); first | omega | (refine ⟨by omega, by omega, Int.le_trans (Int.mul_le_mul_of_nonneg_right (Int.ofNat_le.2 (Nat.le_of_ble_eq_true (rfl : Nat.ble _ 1024 = true))) (by omega)) (by omega), by omega⟩) | (refine Nat.le_trans (Nat.mul_le_mul_left _ (Nat.le_of_ble_eq_true (rfl : Nat.ble _ 1024 = true))) ?_; omega) | (unfold inI64; omega) | (constructor <;> omega) | (simp only [inI64, List.length_cons, List.length_append, List.length_nil, List.length_set] at *; omega) | decide | (unfold inI64; decide)); conv => whnf)
    | omega | decide | assumption)
  refine .ret _ ?_
  conv => whnf
  exact ⟨[], ⟨⟨_, rfl⟩, rfl⟩, trivial⟩
theorem s221_8 : FSpec Tryz.prog 86 [.d (.int .u64 8)] [] (fun y r => (∃ m : Int, y = .d (.int .i64 m)) ∧ r = []) := by
  refine spec_of hT (C := []) Tryz.func86 rfl Tryz.call86 rfl rfl rfl ?_
  conv => whnf
  repeat' (first
    | (refine br_intro (fun hb => ?_) (fun hb => ?_) <;> (try simp only [decide_eq_true_eq, decide_eq_false_iff_not, Bool.not_eq_true', Bool.not_eq_false', Bool.and_eq_true, Bool.or_eq_true, beq_iff_eq, not_and, Int.not_le, Int.not_lt, Int.toNat_natCast, beq_eq_false_iff_ne, ne_eq, eq_self, not_true_eq_false, not_false_eq_true] at hb) <;> (conv => whnf))
    | omega
    | (refine And.intro ?_ ?_; ((try dsimp only); first | omega | (refine ⟨by omega, by omega, Int.le_trans (Int.mul_le_mul_of_nonneg_right (Int.ofNat_le.2 (Nat.le_of_ble_eq_true (rfl : Nat.ble _ 1024 = true))) (by omega)) (by omega), by omega⟩) | (refine Nat.le_trans (Nat.mul_le_mul_left _ (Nat.le_of_ble_eq_true (rfl : Nat.ble _ 1024 = true))) ?_; omega) | (unfold inI64; omega) | (constructor <;> omega) | (simp only [inI64, List.length_cons, List.length_append, List.length_nil, List.length_set] at *; omega) | decide | (unfold inI64; decide)); conv => whnf)
    | omega | decide | assumption)
  refine .ret _ ?_
  conv => whnf
  exact ⟨[], ⟨⟨_, rfl⟩, rfl⟩, trivial⟩
theorem s221_9 : FSpec Tryz.prog 86 [.d (.int .u64 9)] [] (fun y r => (∃ m : Int, y = .d (.int .i64 m)) ∧ r = []) := by
  refine spec_of hT (C := []) Tryz.func86 rfl Tryz.call86 rfl rfl rfl ?_
  conv => whnf
  repeat' (first
    | (refine br_intro (fun hb => ?_) (fun hb => ?_) <;> (try simp only [decide_eq_true_eq, decide_eq_false_iff_not, Bool.not_eq_true', Bool.not_eq_false', Bool.and_eq_true, Bool.or_eq_true, beq_iff_eq, not_and, Int.not_le, Int.not_lt, Int.toNat_natCast, beq_eq_false_iff_ne, ne_eq, eq_self, not_true_eq_false, not_false_eq_true] at hb) <;> (conv => whnf))
    | omega
    | (refine And.intro ?_ ?_; ((try dsimp only); first | omega | (refine ⟨by omega, by omega, Int.le_trans (Int.mul_le_mul_of_nonneg_right (Int.ofNat_le.2 (Nat.le_of_ble_eq_true (rfl : Nat.ble _ 1024 = true))) (by omega)) (by omega), by omega⟩) | (refine Nat.le_trans (Nat.mul_le_mul_left _ (Nat.le_of_ble_eq_true (rfl : Nat.ble _ 1024 = true))) ?_; omega) | (unfold inI64; omega) | (constructor <;> omega) | (simp only [inI64, List.length_cons, List.length_append, List.length_nil, List.length_set] at *; omega) | decide | (unfold inI64; decide)); conv => whnf)
    | omega | decide | assumption)
  refine .ret _ ?_
  conv => whnf
  exact ⟨[], ⟨⟨_, rfl⟩, rfl⟩, trivial⟩
theorem s221_10 : FSpec Tryz.prog 86 [.d (.int .u64 10)] [] (fun y r => (∃ m : Int, y = .d (.int .i64 m)) ∧ r = []) := by
  refine spec_of hT (C := []) Tryz.func86 rfl Tryz.call86 rfl rfl rfl ?_
  conv => whnf
  repeat' (first
    | (refine br_intro (fun hb => ?_) (fun hb => ?_) <;> (try simp only [decide_eq_true_eq, decide_eq_false_iff_not, Bool.not_eq_true', Bool.not_eq_false', Bool.and_eq_true, Bool.or_eq_true, beq_iff_eq, not_and, Int.not_le, Int.not_lt, Int.toNat_natCast, beq_eq_false_iff_ne, ne_eq, eq_self, not_true_eq_false, not_false_eq_true] at hb) <;> (conv => whnf))
    | omega
    | (refine And.intro ?_ ?_; ((try dsimp only); first | omega | (refine ⟨by omega, by omega, Int.le_trans (Int.mul_le_mul_of_nonneg_right (Int.ofNat_le.2 (Nat.le_of_ble_eq_true (rfl : Nat.ble _ 1024 = true))) (by omega)) (by omega), by omega⟩) | (refine Nat.le_trans (Nat.mul_le_mul_left _ (Nat.le_of_ble_eq_true (rfl : Nat.ble _ 1024 = true))) ?_; omega) | (unfold inI64; omega) | (constructor <;> omega) | (simp only [inI64, List.length_cons, List.length_append, List.length_nil, List.length_set] at *; omega) | decide | (unfold inI64; decide)); conv => whnf)
    | omega | decide | assumption)
  refine .ret _ ?_
  conv => whnf
  exact ⟨[], ⟨⟨_, rfl⟩, rfl⟩, trivial⟩
theorem s221_11 : FSpec Tryz.prog 86 [.d (.int .u64 11)] [] (fun y r => (∃ m : Int, y = .d (.int .i64 m)) ∧ r = []) := by
  refine spec_of hT (C := []) Tryz.func86 rfl Tryz.call86 rfl rfl rfl ?_
  conv => whnf
  repeat' (first
    | (refine br_intro (fun hb => ?_) (fun hb => ?_) <;> (try simp only [decide_eq_true_eq, decide_eq_false_iff_not, Bool.not_eq_true', Bool.not_eq_false', Bool.and_eq_true, Bool.or_eq_true, beq_iff_eq, not_and, Int.not_le, Int.not_lt, Int.toNat_natCast, beq_eq_false_iff_ne, ne_eq, eq_self, not_true_eq_false, not_false_eq_true] at hb) <;> (conv => whnf))
    | omega
    | (refine And.intro ?_ ?_; ((try dsimp only); first | omega | (refine ⟨by omega, by omega, Int.le_trans (Int.mul_le_mul_of_nonneg_right (Int.ofNat_le.2 (Nat.le_of_ble_eq_true (rfl : Nat.ble _ 1024 = true))) (by omega)) (by omega), by omega⟩) | (refine Nat.le_trans (Nat.mul_le_mul_left _ (Nat.le_of_ble_eq_true (rfl : Nat.ble _ 1024 = true))) ?_; omega) | (unfold inI64; omega) | (constructor <;> omega) | (simp only [inI64, List.length_cons, List.length_append, List.length_nil, List.length_set] at *; omega) | decide | (unfold inI64; decide)); conv => whnf)
    | omega | decide | assumption)
  refine .ret _ ?_
  conv => whnf
  exact ⟨[], ⟨⟨_, rfl⟩, rfl⟩, trivial⟩
theorem s221_12 : FSpec Tryz.prog 86 [.d (.int .u64 12)] [] (fun y r => (∃ m : Int, y = .d (.int .i64 m)) ∧ r = []) := by
  refine spec_of hT (C := []) Tryz.func86 rfl Tryz.call86 rfl rfl rfl ?_
  conv => whnf
  repeat' (first
    | (refine br_intro (fun hb => ?_) (fun hb => ?_) <;> (try simp only [decide_eq_true_eq, decide_eq_false_iff_not, Bool.not_eq_true', Bool.not_eq_false', Bool.and_eq_true, Bool.or_eq_true, beq_iff_eq, not_and, Int.not_le, Int.not_lt, Int.toNat_natCast, beq_eq_false_iff_ne, ne_eq, eq_self, not_true_eq_false, not_false_eq_true] at hb) <;> (conv => whnf))
    | omega
    | (refine And.intro ?_ ?_; ((try dsimp only); first | omega | (refine ⟨by omega, by omega, Int.le_trans (Int.mul_le_mul_of_nonneg_right (Int.ofNat_le.2 (Nat.le_of_ble_eq_true (rfl : Nat.ble _ 1024 = true))) (by omega)) (by omega), by omega⟩) | (refine Nat.le_trans (Nat.mul_le_mul_left _ (Nat.le_of_ble_eq_true (rfl : Nat.ble _ 1024 = true))) ?_; omega) | (unfold inI64; omega) | (constructor <;> omega) | (simp only [inI64, List.length_cons, List.length_append, List.length_nil, List.length_set] at *; omega) | decide | (unfold inI64; decide)); conv => whnf)
    | omega | decide | assumption)
  refine .ret _ ?_
  conv => whnf
  exact ⟨[], ⟨⟨_, rfl⟩, rfl⟩, trivial⟩
theorem s221 (n : Nat) (hn : n ≤ 12) : FSpec Tryz.prog 86 [.d (.int .u64 n)] [] (fun y r => (∃ m : Int, y = .d (.int .i64 m)) ∧ r = []) := by
  match n, hn with
  | 0, _ => exact s221_0
  | 1, _ => exact s221_1
  | 2, _ => exact s221_2
  | 3, _ => exact s221_3
  | 4, _ => exact s221_4
  | 5, _ => exact s221_5
  | 6, _ => exact s221_6
  | 7, _ => exact s221_7
  | 8, _ => exact s221_8
  | 9, _ => exact s221_9
  | 10, _ => exact s221_10
  | 11, _ => exact s221_11
  | 12, _ => exact s221_12
  | n + 13, h => omega
theorem wrap_u64 (n : Nat) (hn : n ≤ 12) : IntKind.u64.wrap n = n := by
  match n, hn with
  | 0, _ | 1, _ | 2, _ | 3, _ | 4, _ | 5, _ | 6, _ | 7, _ | 8, _ | 9, _ | 10, _ | 11, _ | 12, _ => decide
  | n + 13, h => omega
-- math/bits.Len of a small number
theorem sBitsLen (n : Nat) (hn : n ≤ 12) : FSpec Tryz.prog 39 [.d (.int .u64 (IntKind.u64.wrap n))] [] (fun y r => (∃ m : Int, y = .d (.int .i64 m)) ∧ r = []) := by
  rw [wrap_u64 n hn]
  refine spec_of hT (C := []) Tryz.func39 rfl Tryz.call39 rfl rfl rfl ?_
  conv => whnf
  repeat' (first
    | (refine br_intro (fun hb => ?_) (fun hb => ?_) <;> (try simp only [decide_eq_true_eq, decide_eq_false_iff_not, Bool.not_eq_true', Bool.not_eq_false', Bool.and_eq_true, Bool.or_eq_true, beq_iff_eq, not_and, Int.not_le, Int.not_lt, Int.toNat_natCast, beq_eq_false_iff_ne, ne_eq, eq_self, not_true_eq_false, not_false_eq_true] at hb) <;> (conv => whnf))
    | omega
    | (refine And.intro ?_ ?_; ((try dsimp only); first | omega | (refine ⟨by omega, by omega, Int.le_trans (Int.mul_le_mul_of_nonneg_right (Int.ofNat_le.2 (Nat.le_of_ble_eq_true (rfl : Nat.ble _ 1024 = true))) (by omega)) (by omega), by omega⟩) | (refine Nat.le_trans (Nat.mul_le_mul_left _ (Nat.le_of_ble_eq_true (rfl : Nat.ble _ 1024 = true))) ?_; omega) | (unfold inI64; omega) | (constructor <;> omega) | (simp only [inI64, List.length_cons, List.length_append, List.length_nil, List.length_set] at *; omega) | decide | (unfold inI64; decide)); conv => whnf)
    | omega | decide | assumption)
  refine CallX.of (s221 n hn) [] rfl ⟨SV.le_refl _, trivial⟩ trivial rfl rfl ?_
  rintro x rout ⟨⟨m, rfl⟩, rfl⟩
  refine ⟨rfl, ?_⟩
  conv => whnf
  refine .ret _ ?_
  conv => whnf
  exact ⟨[], ⟨⟨_, rfl⟩, rfl⟩, trivial⟩
-- insertion sort: the same elements
theorem s212 (g : FuncId) (cmp : Mrk → Mrk → Int) (l : List Mrk) (hl : l.length ≤ 2^40)
    (hcmp : ∀ p q, p ∈ l → q ∈ l → FSpec Tryz.prog g [.agg ((mkF p).map .d), .agg ((mkF q).map .d)] [] (fun y r => y = .d (.int .i64 (cmp p q)) ∧ r = [])) :
    FSpec Tryz.prog 87 [.buf 1000001, .d (.int .i64 0), .d (.int .i64 l.length), .fn g []] [(1000001, seqB 43 5 mkF mk0 l)]
      (fun y r => y = .tup [] ∧ ∃ c, sameL l c ∧ r = [(1000001, seqB 43 5 mkF mk0 c)]) := by
  refine spec_of hT (C := []) Tryz.func87 rfl Tryz.call87 rfl rfl rfl ?_
  conv => whnf
  repeat' (first
    | (refine br_intro (fun hb => ?_) (fun hb => ?_) <;> (try simp only [decide_eq_true_eq, decide_eq_false_iff_not, Bool.not_eq_true', Bool.not_eq_false', Bool.and_eq_true, Bool.or_eq_true, beq_iff_eq, not_and, Int.not_le, Int.not_lt, Int.toNat_natCast, beq_eq_false_iff_ne, ne_eq, eq_self, not_true_eq_false, not_false_eq_true] at hb) <;> (conv => whnf))
    | (refine RegX.rule (id := 4) hT rfl [] [(0, []), (1, [0]), (2, []), (3, []), (4, []), (5, [4]), (6, [4, 5]), (7, [4]), (8, [4]), (9, [4, 5, 6, 7, 8]), (10, [4, 5, 6, 7, 8, 9]), (11, [4, 5, 6, 7, 8, 9]), (12, [4, 5, 6, 7, 8]), (13, [4, 5, 6, 7, 8]), (14, []), (15, []), (16, [])] (by decide +kernel) ?_; conv => whnf)
    | (refine RegX.rule (id := 6) hT rfl [] [(0, []), (1, [0]), (2, [0, 1]), (3, [0, 1, 2]), (4, [0, 1, 2]), (5, [0, 1, 2, 3, 4]), (6, [0, 1, 2, 3, 4, 5]), (7, [0, 1, 2, 3, 4, 5]), (8, [0, 1, 2, 3, 4]), (9, [0, 1, 2, 3, 4]), (10, [0, 1, 2, 3, 4, 5, 6, 7, 8, 9]), (11, [0, 1, 2, 3, 4, 5, 6, 7, 8, 9, 10]), (12, [0, 1, 2, 3, 4, 5, 6, 7, 8, 9]), (13, [0, 1, 2, 3, 4, 5, 6, 7, 8, 9]), (14, [2, 3, 4]), (15, [2, 3, 4]), (16, []), (17, [])] (by decide +kernel) ?_; conv => whnf)
    | omega
    | (refine And.intro ?_ ?_; ((try dsimp only); first | omega | (refine ⟨by omega, by omega, Int.le_trans (Int.mul_le_mul_of_nonneg_right (Int.ofNat_le.2 (Nat.le_of_ble_eq_true (rfl : Nat.ble _ 1024 = true))) (by omega)) (by omega), by omega⟩) | (refine Nat.le_trans (Nat.mul_le_mul_left _ (Nat.le_of_ble_eq_true (rfl : Nat.ble _ 1024 = true))) ?_; omega) | (unfold inI64; omega) | (constructor <;> omega) | (simp only [inI64, List.length_cons, List.length_append, List.length_nil, List.length_set] at *; omega) | decide | (unfold inI64; decide)); conv => whnf)
    | omega | decide | assumption)
  refine LoopX.rule hT (C := []) (ι := Nat × List Mrk) (fun (i, c) => 1 ≤ i ∧ (i ≤ l.length ∨ i = 1) ∧ sameL l c)
    (fun (i, c) => mkSt [(0, .buf 1000001), (1, .d (.int .i64 0)), (2, .d (.int .i64 l.length)), (3, .fn g []), (8, .d (.int .i64 i))] [(1000001, seqB 43 5 mkF mk0 c)])
    (fun (i, _) => l.length - i) (1, l) ⟨by simp, by simp, rfl, fun x h => h⟩ (by (refine Entails.mk' [(1000001, 1000001)] rfl rfl ?_ ?_ <;> repeat' (first | exact True.intro | exact SV.le_refl _ | exact Res.le_refl _ | exact SV.le_int (by omega) | exact SV.le_any _ | refine And.intro ?_ ?_)); done) ?_
  rintro ⟨i, c⟩ ⟨p1, p2, p3⟩
  have hc0 := p3.1
  conv => whnf
  repeat' (first
    | (refine br_intro (fun hb => ?_) (fun hb => ?_) <;> (try simp only [decide_eq_true_eq, decide_eq_false_iff_not, Bool.not_eq_true', Bool.not_eq_false', Bool.and_eq_true, Bool.or_eq_true, beq_iff_eq, not_and, Int.not_le, Int.not_lt, Int.toNat_natCast, beq_eq_false_iff_ne, ne_eq, eq_self, not_true_eq_false, not_false_eq_true] at hb) <;> (conv => whnf))
    | (refine RegX.rule (id := 4) hT rfl [] [(0, []), (1, [0]), (2, []), (3, []), (4, []), (5, [4]), (6, [4, 5]), (7, [4]), (8, [4]), (9, [4, 5, 6, 7, 8]), (10, [4, 5, 6, 7, 8, 9]), (11, [4, 5, 6, 7, 8, 9]), (12, [4, 5, 6, 7, 8]), (13, [4, 5, 6, 7, 8]), (14, []), (15, []), (16, [])] (by decide +kernel) ?_; conv => whnf)
    | (refine RegX.rule (id := 6) hT rfl [] [(0, []), (1, [0]), (2, [0, 1]), (3, [0, 1, 2]), (4, [0, 1, 2]), (5, [0, 1, 2, 3, 4]), (6, [0, 1, 2, 3, 4, 5]), (7, [0, 1, 2, 3, 4, 5]), (8, [0, 1, 2, 3, 4]), (9, [0, 1, 2, 3, 4]), (10, [0, 1, 2, 3, 4, 5, 6, 7, 8, 9]), (11, [0, 1, 2, 3, 4, 5, 6, 7, 8, 9, 10]), (12, [0, 1, 2, 3, 4, 5, 6, 7, 8, 9]), (13, [0, 1, 2, 3, 4, 5, 6, 7, 8, 9]), (14, [2, 3, 4]), (15, [2, 3, 4]), (16, []), (17, [])] (by decide +kernel) ?_; conv => whnf)
    | omega
    | (refine And.intro ?_ ?_; ((try dsimp only); first | omega | (refine ⟨by omega, by omega, Int.le_trans (Int.mul_le_mul_of_nonneg_right (Int.ofNat_le.2 (Nat.le_of_ble_eq_true (rfl : Nat.ble _ 1024 = true))) (by omega)) (by omega), by omega⟩) | (refine Nat.le_trans (Nat.mul_le_mul_left _ (Nat.le_of_ble_eq_true (rfl : Nat.ble _ 1024 = true))) ?_; omega) | (unfold inI64; omega) | (constructor <;> omega) | (simp only [inI64, List.length_cons, List.length_append, List.length_nil, List.length_set] at *; omega) | decide | (unfold inI64; decide)); conv => whnf)
    | omega | decide | assumption)
  · refine LoopX.rule hT (C := []) (ι := Nat × List Mrk) (fun (j, c) => j ≤ i ∧ sameL l c)
      (fun (j, c) => mkSt [(0, .buf 1000001), (1, .d (.int .i64 0)), (2, .d (.int .i64 l.length)), (3, .fn g []), (8, .d (.int .i64 i)), (9, .d (.int .i64 j))] [(1000001, seqB 43 5 mkF mk0 c)])
      (fun (j, _) => j) (i, c) ⟨Nat.le_refl _, p3⟩ (by (refine Entails.mk' [(1000001, 1000001)] rfl rfl ?_ ?_ <;> repeat' (first | exact True.intro | exact SV.le_refl _ | exact Res.le_refl _ | exact SV.le_int (by omega) | exact SV.le_any _ | refine And.intro ?_ ?_)); done) ?_
    rintro ⟨j, b⟩ ⟨q1, q3⟩
    have hb0 := q3.1
    conv => whnf
    repeat' (first
      | (refine br_intro (fun hb => ?_) (fun hb => ?_) <;> (try simp only [decide_eq_true_eq, decide_eq_false_iff_not, Bool.not_eq_true', Bool.not_eq_false', Bool.and_eq_true, Bool.or_eq_true, beq_iff_eq, not_and, Int.not_le, Int.not_lt, Int.toNat_natCast, beq_eq_false_iff_ne, ne_eq, eq_self, not_true_eq_false, not_false_eq_true] at hb) <;> (conv => whnf))
      | (refine RegX.rule (id := 4) hT rfl [] [(0, []), (1, [0]), (2, []), (3, []), (4, []), (5, [4]), (6, [4, 5]), (7, [4]), (8, [4]), (9, [4, 5, 6, 7, 8]), (10, [4, 5, 6, 7, 8, 9]), (11, [4, 5, 6, 7, 8, 9]), (12, [4, 5, 6, 7, 8]), (13, [4, 5, 6, 7, 8]), (14, []), (15, []), (16, [])] (by decide +kernel) ?_; conv => whnf)
      | (refine RegX.rule (id := 6) hT rfl [] [(0, []), (1, [0]), (2, [0, 1]), (3, [0, 1, 2]), (4, [0, 1, 2]), (5, [0, 1, 2, 3, 4]), (6, [0, 1, 2, 3, 4, 5]), (7, [0, 1, 2, 3, 4, 5]), (8, [0, 1, 2, 3, 4]), (9, [0, 1, 2, 3, 4]), (10, [0, 1, 2, 3, 4, 5, 6, 7, 8, 9]), (11, [0, 1, 2, 3, 4, 5, 6, 7, 8, 9, 10]), (12, [0, 1, 2, 3, 4, 5, 6, 7, 8, 9]), (13, [0, 1, 2, 3, 4, 5, 6, 7, 8, 9]), (14, [2, 3, 4]), (15, [2, 3, 4]), (16, []), (17, [])] (by decide +kernel) ?_; conv => whnf)
      | omega
      | (refine And.intro ?_ ?_; ((try dsimp only); first | omega | (refine ⟨by omega, by omega, Int.le_trans (Int.mul_le_mul_of_nonneg_right (Int.ofNat_le.2 (Nat.le_of_ble_eq_true (rfl : Nat.ble _ 1024 = true))) (by omega)) (by omega), by omega⟩) | (refine Nat.le_trans (Nat.mul_le_mul_left _ (Nat.le_of_ble_eq_true (rfl : Nat.ble _ 1024 = true))) ?_; omega) | (unfold inI64; omega) | (constructor <;> omega) | (simp only [inI64, List.length_cons, List.length_append, List.length_nil, List.length_set] at *; omega) | decide | (unfold inI64; decide)); conv => whnf)
      | omega | decide | assumption)
    · refine CallX.of (hcmp (b.getD (j : Int).toNat mk0) (b.getD ((j : Int) - 1).toNat mk0) (q3.2 _ (getD_mem (by omega))) (q3.2 _ (getD_mem (by omega)))) [] rfl ⟨SV.le_refl _, SV.le_refl _, trivial⟩ trivial rfl rfl ?_
      rintro x rout ⟨rfl, rfl⟩
      refine ⟨rfl, ?_⟩
      conv => whnf
      repeat' (first
        | (refine br_intro (fun hb => ?_) (fun hb => ?_) <;> (try simp only [decide_eq_true_eq, decide_eq_false_iff_not, Bool.not_eq_true', Bool.not_eq_false', Bool.and_eq_true, Bool.or_eq_true, beq_iff_eq, not_and, Int.not_le, Int.not_lt, Int.toNat_natCast, beq_eq_false_iff_ne, ne_eq, eq_self, not_true_eq_false, not_false_eq_true] at hb) <;> (conv => whnf))
        | (refine RegX.rule (id := 4) hT rfl [] [(0, []), (1, [0]), (2, []), (3, []), (4, []), (5, [4]), (6, [4, 5]), (7, [4]), (8, [4]), (9, [4, 5, 6, 7, 8]), (10, [4, 5, 6, 7, 8, 9]), (11, [4, 5, 6, 7, 8, 9]), (12, [4, 5, 6, 7, 8]), (13, [4, 5, 6, 7, 8]), (14, []), (15, []), (16, [])] (by decide +kernel) ?_; conv => whnf)
        | (refine RegX.rule (id := 6) hT rfl [] [(0, []), (1, [0]), (2, [0, 1]), (3, [0, 1, 2]), (4, [0, 1, 2]), (5, [0, 1, 2, 3, 4]), (6, [0, 1, 2, 3, 4, 5]), (7, [0, 1, 2, 3, 4, 5]), (8, [0, 1, 2, 3, 4]), (9, [0, 1, 2, 3, 4]), (10, [0, 1, 2, 3, 4, 5, 6, 7, 8, 9]), (11, [0, 1, 2, 3, 4, 5, 6, 7, 8, 9, 10]), (12, [0, 1, 2, 3, 4, 5, 6, 7, 8, 9]), (13, [0, 1, 2, 3, 4, 5, 6, 7, 8, 9]), (14, [2, 3, 4]), (15, [2, 3, 4]), (16, []), (17, [])] (by decide +kernel) ?_; conv => whnf)
        | omega
        | (refine And.intro ?_ ?_; ((try dsimp only); first | omega | (refine ⟨by omega, by omega, Int.le_trans (Int.mul_le_mul_of_nonneg_right (Int.ofNat_le.2 (Nat.le_of_ble_eq_true (rfl : Nat.ble _ 1024 = true))) (by omega)) (by omega), by omega⟩) | (refine Nat.le_trans (Nat.mul_le_mul_left _ (Nat.le_of_ble_eq_true (rfl : Nat.ble _ 1024 = true))) ?_; omega) | (unfold inI64; omega) | (constructor <;> omega) | (simp only [inI64, List.length_cons, List.length_append, List.length_nil, List.length_set] at *; omega) | decide | (unfold inI64; decide)); conv => whnf)
        | omega | decide | assumption)
      · refine ⟨(j - 1, _), ⟨by omega, sameL_set (sameL_set q3 (q3.2 _ (getD_mem (i := ((j : Int) - 1).toNat) (x := mk0) (by omega)))) (q3.2 _ (getD_mem (i := (j : Int).toNat) (x := mk0) (by omega)))⟩, by show j - 1 < j; omega, Entails.mk' [(1000001, 1000001)] rfl rfl ⟨SV.le_refl _, SV.le_refl _, SV.le_refl _, SV.le_refl _, SV.le_refl _, SV.le_int (by omega), trivial⟩ ⟨Res.le_put2 (fun _ => rfl) (fun _ => rfl), trivial⟩⟩
      · exact ⟨(i + 1, b), ⟨by omega, by omega, q3⟩, by show l.length - (i + 1) < l.length - i; omega, (by (refine Entails.mk' [(1000001, 1000001)] rfl rfl ?_ ?_ <;> repeat' (first | exact True.intro | exact SV.le_refl _ | exact Res.le_refl _ | exact SV.le_int (by omega) | exact SV.le_any _ | refine And.intro ?_ ?_)); done)⟩
    · exact ⟨(i + 1, b), ⟨by omega, by omega, q3⟩, by show l.length - (i + 1) < l.length - i; omega, (by (refine Entails.mk' [(1000001, 1000001)] rfl rfl ?_ ?_ <;> repeat' (first | exact True.intro | exact SV.le_refl _ | exact Res.le_refl _ | exact SV.le_int (by omega) | exact SV.le_any _ | refine And.intro ?_ ?_)); done)⟩
  · refine .ret _ ?_
    conv => whnf
    exact ⟨_, ⟨rfl, c, p3, rfl⟩, Res.le_refl _, trivial⟩
-- slices.SortFunc of at most twelve: the same elements
theorem s188 (g : FuncId) (cmp : Mrk → Mrk → Int) (l : List Mrk) (hl : l.length ≤ 12) (lim : Int)
    (hcmp : ∀ p q, p ∈ l → q ∈ l → FSpec Tryz.prog g [.agg ((mkF p).map .d), .agg ((mkF q).map .d)] [] (fun y r => y = .d (.int .i64 (cmp p q)) ∧ r = [])) :
    FSpec Tryz.prog 52 [.buf 1000001, .d (.int .i64 0), .d (.int .i64 l.length), .d (.int .i64 lim), .fn g []] [(1000001, seqB 43 5 mkF mk0 l)]
      (fun y r => y = .tup [] ∧ ∃ c, sameL l c ∧ r = [(1000001, seqB 43 5 mkF mk0 c)]) := by
  refine spec_of hT (C := []) Tryz.func52 rfl Tryz.call52 rfl rfl rfl ?_
  conv => whnf
  refine LoopX.unroll hT (C := []) (fun _ _ h => h) (fun _ h => h) ?_
  conv => whnf
  repeat' (first
    | (refine br_intro (fun hb => ?_) (fun hb => ?_) <;> (try simp only [decide_eq_true_eq, decide_eq_false_iff_not, Bool.not_eq_true', Bool.not_eq_false', Bool.and_eq_true, Bool.or_eq_true, beq_iff_eq, not_and, Int.not_le, Int.not_lt, Int.toNat_natCast, beq_eq_false_iff_ne, ne_eq, eq_self, not_true_eq_false, not_false_eq_true] at hb) <;> (conv => whnf))
    | (refine RegX.rule (id := 17) hT rfl [] [(0, []), (1, []), (2, []), (3, []), (4, [3]), (5, [3, 4]), (6, [3, 4]), (7, [3]), (8, [3]), (9, [3, 4, 5, 6, 7, 8]), (10, [3, 4, 5, 6, 7, 8, 9]), (11, [3, 4, 5, 6, 7, 8]), (12, [3, 4, 5, 6, 7, 8]), (13, []), (14, []), (15, []), (16, [])] (by decide +kernel) ?_; conv => whnf)
    | omega
    | (refine And.intro ?_ ?_; ((try dsimp only); first | omega | (refine ⟨by omega, by omega, Int.le_trans (Int.mul_le_mul_of_nonneg_right (Int.ofNat_le.2 (Nat.le_of_ble_eq_true (rfl : Nat.ble _ 1024 = true))) (by omega)) (by omega), by omega⟩) | (refine Nat.le_trans (Nat.mul_le_mul_left _ (Nat.le_of_ble_eq_true (rfl : Nat.ble _ 1024 = true))) ?_; omega) | (unfold inI64; omega) | (constructor <;> omega) | (simp only [inI64, List.length_cons, List.length_append, List.length_nil, List.length_set] at *; omega) | decide | (unfold inI64; decide)); conv => whnf)
    | omega | decide | assumption)
  refine CallX.of (s212 g cmp l (by omega) hcmp) [(1000001, 1000001)] rfl ⟨SV.le_refl _, SV.le_refl _, SV.le_refl _, SV.le_refl _, trivial⟩ ⟨Res.le_refl _, trivial⟩ rfl rfl ?_
  rintro x rout ⟨rfl, c, hc, rfl⟩
  refine ⟨rfl, ?_⟩
  conv => whnf
  refine .ret _ ?_
  conv => whnf
  exact ⟨_, ⟨rfl, c, hc, rfl⟩, Res.le_refl _, trivial⟩
theorem s156 (g : FuncId) (cmp : Mrk → Mrk → Int) (l : List Mrk) (hl : l.length ≤ 12)
    (hcmp : ∀ p q, p ∈ l → q ∈ l → FSpec Tryz.prog g [.agg ((mkF p).map .d), .agg ((mkF q).map .d)] [] (fun y r => y = .d (.int .i64 (cmp p q)) ∧ r = [])) :
    FSpec Tryz.prog 27 [.buf 1000001, .fn g []] [(1000001, seqB 43 5 mkF mk0 l)]
      (fun y r => y = .tup [] ∧ ∃ c, sameL l c ∧ r = [(1000001, seqB 43 5 mkF mk0 c)]) := by
  refine spec_of hT (C := []) Tryz.func27 rfl Tryz.call27 rfl rfl rfl ?_
  conv => whnf
  repeat' (first
    | (refine br_intro (fun hb => ?_) (fun hb => ?_) <;> (try simp only [decide_eq_true_eq, decide_eq_false_iff_not, Bool.not_eq_true', Bool.not_eq_false', Bool.and_eq_true, Bool.or_eq_true, beq_iff_eq, not_and, Int.not_le, Int.not_lt, Int.toNat_natCast, beq_eq_false_iff_ne, ne_eq, eq_self, not_true_eq_false, not_false_eq_true] at hb) <;> (conv => whnf))
    | omega
    | (refine And.intro ?_ ?_; ((try dsimp only); first | omega | (refine ⟨by omega, by omega, Int.le_trans (Int.mul_le_mul_of_nonneg_right (Int.ofNat_le.2 (Nat.le_of_ble_eq_true (rfl : Nat.ble _ 1024 = true))) (by omega)) (by omega), by omega⟩) | (refine Nat.le_trans (Nat.mul_le_mul_left _ (Nat.le_of_ble_eq_true (rfl : Nat.ble _ 1024 = true))) ?_; omega) | (unfold inI64; omega) | (constructor <;> omega) | (simp only [inI64, List.length_cons, List.length_append, List.length_nil, List.length_set] at *; omega) | decide | (unfold inI64; decide)); conv => whnf)
    | omega | decide | assumption)
  refine CallX.of (sBitsLen l.length hl) [] rfl ⟨SV.le_refl _, trivial⟩ trivial rfl rfl ?_
  rintro x rout ⟨⟨lim, rfl⟩, rfl⟩
  refine ⟨rfl, ?_⟩
  conv => whnf
  repeat' (first
    | (refine br_intro (fun hb => ?_) (fun hb => ?_) <;> (try simp only [decide_eq_true_eq, decide_eq_false_iff_not, Bool.not_eq_true', Bool.not_eq_false', Bool.and_eq_true, Bool.or_eq_true, beq_iff_eq, not_and, Int.not_le, Int.not_lt, Int.toNat_natCast, beq_eq_false_iff_ne, ne_eq, eq_self, not_true_eq_false, not_false_eq_true] at hb) <;> (conv => whnf))
    | omega
    | (refine And.intro ?_ ?_; ((try dsimp only); first | omega | (refine ⟨by omega, by omega, Int.le_trans (Int.mul_le_mul_of_nonneg_right (Int.ofNat_le.2 (Nat.le_of_ble_eq_true (rfl : Nat.ble _ 1024 = true))) (by omega)) (by omega), by omega⟩) | (refine Nat.le_trans (Nat.mul_le_mul_left _ (Nat.le_of_ble_eq_true (rfl : Nat.ble _ 1024 = true))) ?_; omega) | (unfold inI64; omega) | (constructor <;> omega) | (simp only [inI64, List.length_cons, List.length_append, List.length_nil, List.length_set] at *; omega) | decide | (unfold inI64; decide)); conv => whnf)
    | omega | decide | assumption)
  refine CallX.of (s188 g cmp l hl lim hcmp) [(1000001, 1000001)] rfl ⟨SV.le_refl _, SV.le_refl _, SV.le_refl _, SV.le_refl _, SV.le_refl _, trivial⟩ ⟨Res.le_refl _, trivial⟩ rfl rfl ?_
  rintro x rout ⟨rfl, c, hc, rfl⟩
  refine ⟨rfl, ?_⟩
  conv => whnf
  refine .ret _ ?_
  conv => whnf
  exact ⟨_, ⟨rfl, c, hc, rfl⟩, Res.le_refl _, trivial⟩
-- slices.Compact: some of the elements
theorem s158 (l : List Mrk) (hl : l.length ≤ 2^20) :
    FSpec Tryz.prog 29 [.buf 1000001] [(1000001, seqB 43 5 mkF mk0 l)]
      (fun y r => ∃ c, subL l c ∧ ∃ d, (d = 1000001 ∨ d = 59) ∧ y = .buf d ∧ r = [(d, seqB 43 5 mkF mk0 c)]) := by
  refine spec_of hT (C := []) Tryz.func29 rfl Tryz.call29 rfl rfl rfl ?_
  conv => whnf
  repeat' (first
    | (refine br_intro (fun hb => ?_) (fun hb => ?_) <;> (try simp only [decide_eq_true_eq, decide_eq_false_iff_not, Bool.not_eq_true', Bool.not_eq_false', Bool.and_eq_true, Bool.or_eq_true, beq_iff_eq, not_and, Int.not_le, Int.not_lt, Int.toNat_natCast, beq_eq_false_iff_ne, ne_eq, eq_self, not_true_eq_false, not_false_eq_true] at hb) <;> (conv => whnf))
    | (refine RegX.rule (id := 6) hT rfl [] [(0, []), (1, [0]), (2, []), (3, []), (4, [0, 1, 2, 3]), (5, [0, 1, 2, 3, 4]), (6, [0, 1, 2, 3, 4]), (7, [0, 1, 2, 3]), (8, [0, 1, 2, 3]), (9, [])] (by decide +kernel) ?_; conv => whnf)
    | (refine RegX.rule (id := 11) hT rfl [] [(0, []), (1, [0]), (2, []), (3, []), (4, [0, 1, 2, 3]), (5, [0, 1, 2, 3, 4]), (6, [0, 1, 2, 3, 4]), (7, [0, 1, 2, 3]), (8, [0, 1, 2, 3]), (9, [])] (by decide +kernel) ?_; conv => whnf)
    | omega
    | (refine And.intro ?_ ?_; ((try dsimp only); first | omega | (refine ⟨by omega, by omega, Int.le_trans (Int.mul_le_mul_of_nonneg_right (Int.ofNat_le.2 (Nat.le_of_ble_eq_true (rfl : Nat.ble _ 1024 = true))) (by omega)) (by omega), by omega⟩) | (refine Nat.le_trans (Nat.mul_le_mul_left _ (Nat.le_of_ble_eq_true (rfl : Nat.ble _ 1024 = true))) ?_; omega) | (unfold inI64; omega) | (constructor <;> omega) | (simp only [inI64, List.length_cons, List.length_append, List.length_nil, List.length_set] at *; omega) | decide | (unfold inI64; decide)); conv => whnf)
    | omega | decide | assumption)
  · refine .ret _ ?_
    conv => whnf
    exact ⟨_, ⟨l, ⟨Nat.le_refl _, fun x h => h⟩, 1000001, .inl rfl, rfl, rfl⟩, Res.le_refl _, trivial⟩
  refine LoopX.rule hT (C := []) (ι := Nat) (fun k => 1 ≤ k ∧ k ≤ l.length) (fun k => mkSt [(0, .buf 1000001), (3, .d (.int .i64 k))] [(1000001, seqB 43 5 mkF mk0 l)]) (fun k => l.length - k) 1 ⟨by omega, by omega⟩ (by (refine Entails.mk' [(1000001, 1000001)] rfl rfl ?_ ?_ <;> repeat' (first | exact True.intro | exact SV.le_refl _ | exact Res.le_refl _ | exact SV.le_int (by omega) | exact SV.le_any _ | refine And.intro ?_ ?_)); done) ?_
  rintro k ⟨p1, p2⟩
  conv => whnf
  repeat' (first
    | (refine SliceX.first (lo := none) rfl ?_; conv => whnf)
    | (refine SliceX.look (lo := some _) rfl ?_; conv => whnf)
    | (refine br_intro (fun hb => ?_) (fun hb => ?_) <;> (try simp only [decide_eq_true_eq, decide_eq_false_iff_not, Bool.not_eq_true', Bool.not_eq_false', Bool.and_eq_true, Bool.or_eq_true, beq_iff_eq, not_and, Int.not_le, Int.not_lt, Int.toNat_natCast, beq_eq_false_iff_ne, ne_eq, eq_self, not_true_eq_false, not_false_eq_true] at hb) <;> (conv => whnf))
    | (refine RegX.rule (id := 6) hT rfl [] [(0, []), (1, [0]), (2, []), (3, []), (4, [0, 1, 2, 3]), (5, [0, 1, 2, 3, 4]), (6, [0, 1, 2, 3, 4]), (7, [0, 1, 2, 3]), (8, [0, 1, 2, 3]), (9, [])] (by decide +kernel) ?_; conv => whnf)
    | (refine RegX.rule (id := 11) hT rfl [] [(0, []), (1, [0]), (2, []), (3, []), (4, [0, 1, 2, 3]), (5, [0, 1, 2, 3, 4]), (6, [0, 1, 2, 3, 4]), (7, [0, 1, 2, 3]), (8, [0, 1, 2, 3]), (9, [])] (by decide +kernel) ?_; conv => whnf)
    | omega
    | (refine And.intro ?_ ?_; ((try dsimp only); first | omega | (refine ⟨by omega, by omega, Int.le_trans (Int.mul_le_mul_of_nonneg_right (Int.ofNat_le.2 (Nat.le_of_ble_eq_true (rfl : Nat.ble _ 1024 = true))) (by omega)) (by omega), by omega⟩) | (refine Nat.le_trans (Nat.mul_le_mul_left _ (Nat.le_of_ble_eq_true (rfl : Nat.ble _ 1024 = true))) ?_; omega) | (unfold inI64; omega) | (constructor <;> omega) | (simp only [inI64, List.length_cons, List.length_append, List.length_nil, List.length_set] at *; omega) | decide | (unfold inI64; decide)); conv => whnf)
    | omega | decide | assumption)
  · have hsub : SV.le (SV.sub 1000001 5 (k : Int).toNat (((l.length : Nat) : Int) - (k : Int)).toNat) (SV.sub 1000001 5 k (l.length - k)) := by
      rw [show (k : Int).toNat = k by omega, show (((l.length : Nat) : Int) - (k : Int)).toNat = l.length - k by omega]; exact SV.le_refl _
    refine LoopX.rule hT (C := []) (ι := Nat × Nat × List Mrk) (fun (q, m, c) => k ≤ q ∧ q < k + m ∧ 1 ≤ m ∧ k + m ≤ l.length ∧ sameL l c)
      (fun (q, m, c) => mkSt [(0, .buf 1000001), (3, .d (.int .i64 q)), (4, .sub 1000001 5 k (l.length - k)), (5, .d (.int .i64 m))] [(1000001, seqB 43 5 mkF mk0 c)])
      (fun (_, m, _) => l.length - m) (k, 1, l) ⟨by omega, by omega, by omega, by omega, rfl, fun x h => h⟩ (by (refine Entails.mk' [(1000001, 1000001)] rfl rfl ?_ ?_ <;> repeat' (first | exact True.intro | exact SV.le_refl _ | exact Res.le_refl _ | (exact hsub) | exact SV.le_int (by omega) | exact SV.le_any _ | refine And.intro ?_ ?_)); done) ?_
    rintro ⟨q, m, c⟩ ⟨r1, r2, r3, r4, r5⟩
    have hc0 := r5.1
    conv => whnf
    repeat' (first
      | (refine SliceX.first (lo := none) rfl ?_; conv => whnf)
      | (refine SliceX.look (lo := some _) rfl ?_; conv => whnf)
      | (refine br_intro (fun hb => ?_) (fun hb => ?_) <;> (try simp only [decide_eq_true_eq, decide_eq_false_iff_not, Bool.not_eq_true', Bool.not_eq_false', Bool.and_eq_true, Bool.or_eq_true, beq_iff_eq, not_and, Int.not_le, Int.not_lt, Int.toNat_natCast, beq_eq_false_iff_ne, ne_eq, eq_self, not_true_eq_false, not_false_eq_true] at hb) <;> (conv => whnf))
      | (refine RegX.rule (id := 6) hT rfl [] [(0, []), (1, [0]), (2, []), (3, []), (4, [0, 1, 2, 3]), (5, [0, 1, 2, 3, 4]), (6, [0, 1, 2, 3, 4]), (7, [0, 1, 2, 3]), (8, [0, 1, 2, 3]), (9, [])] (by decide +kernel) ?_; conv => whnf)
      | (refine RegX.rule (id := 11) hT rfl [] [(0, []), (1, [0]), (2, []), (3, []), (4, [0, 1, 2, 3]), (5, [0, 1, 2, 3, 4]), (6, [0, 1, 2, 3, 4]), (7, [0, 1, 2, 3]), (8, [0, 1, 2, 3]), (9, [])] (by decide +kernel) ?_; conv => whnf)
      | omega
      | (refine And.intro ?_ ?_; ((try dsimp only); first | omega | (refine ⟨by omega, by omega, Int.le_trans (Int.mul_le_mul_of_nonneg_right (Int.ofNat_le.2 (Nat.le_of_ble_eq_true (rfl : Nat.ble _ 1024 = true))) (by omega)) (by omega), by omega⟩) | (refine Nat.le_trans (Nat.mul_le_mul_left _ (Nat.le_of_ble_eq_true (rfl : Nat.ble _ 1024 = true))) ?_; omega) | (unfold inI64; omega) | (constructor <;> omega) | (simp only [inI64, List.length_cons, List.length_append, List.length_nil, List.length_set] at *; omega) | decide | (unfold inI64; decide)); conv => whnf)
      | omega | decide | assumption)
    · have em : k + (m : Int).toNat < l.length := by omega
      refine ⟨(q + 1, m + 1, c.set (q : Int).toNat (c.getD (k + (m : Int).toNat) mk0)), ⟨by omega, by omega, by omega, by omega, sameL_set r5 (r5.2 _ (getD_mem (by omega)))⟩, by show l.length - (m + 1) < l.length - m; omega, Entails.mk' [(1000001, 1000001)] rfl rfl ⟨SV.le_refl _, SV.le_int (by omega), SV.le_refl _, SV.le_int (by omega), trivial⟩ ⟨Res.le_putF (fun _ _ => rfl), trivial⟩⟩
    · exact ⟨(q, m + 1, c), ⟨by omega, by omega, by omega, by omega, r5⟩, by show l.length - (m + 1) < l.length - m; omega, (by (refine Entails.mk' [(1000001, 1000001)] rfl rfl ?_ ?_ <;> repeat' (first | exact True.intro | exact SV.le_refl _ | exact Res.le_refl _ | exact SV.le_int (by omega) | exact SV.le_any _ | refine And.intro ?_ ?_)); done)⟩
    · refine .ret _ ?_
      conv => whnf
      refine ⟨_, ⟨c.take q, ⟨by rw [List.length_take]; omega, fun x hx => r5.2 x (List.mem_of_mem_take hx)⟩, 59, .inr rfl, rfl, rfl⟩, Res.le_buf (by rw [List.length_take]; omega) (fun i hi => ?_), trivial⟩
      have hi : i < q := by
        have : i < (q : Int).toNat := hi
        omega
      have h1 : Nat.ble (q : Int).toNat i = false := by
        rw [← Bool.not_eq_true, Nat.ble_eq]; omega
      show (bif Nat.ble (q : Int).toNat i && _ then _ else rowF mkF mk0 c i) = _
      rw [h1]
      simp only [Bool.false_and, cond_false, rowF]
      rw [List.getD_eq_getElem?_getD, List.getD_eq_getElem?_getD, List.getElem?_take_of_lt hi]
  · exact ⟨k + 1, ⟨by omega, by omega⟩, by omega, (by (refine Entails.mk' [(1000001, 1000001)] rfl rfl ?_ ?_ <;> repeat' (first | exact True.intro | exact SV.le_refl _ | exact Res.le_refl _ | exact SV.le_int (by omega) | exact SV.le_any _ | refine And.intro ?_ ?_)); done)⟩
  · refine .ret _ ?_
    conv => whnf
    exact ⟨_, ⟨l, ⟨Nat.le_refl _, fun x h => h⟩, 1000001, .inl rfl, rfl, rfl⟩, Res.le_refl _, trivial⟩
end Go.Proofs.YtnchgjpdggembaaGreat
set_option maxRecDepth 20000
namespace Go.Proofs.YtnchgjpdggembaaGreat
open Go Go.Eng
theorem SV.le_take {α : Type} {f : α → List DV} {d : α} {l : List α} {k m : Nat} {get : Nat → List DV} (hg : ∀ i, i < l.length → get i = rowF f d l i) (hm : m ≤ l.length) :
    SV.le (.d (.ro k m fun i => get (0 + i))) (.d (seqD k f d (l.take m))) :=
  SV.le_ro (by rw [List.length_take]; omega) (fun i hi => by
    rw [Nat.zero_add, hg i (by omega)]
    simp only [rowF]
    rw [List.getD_eq_getElem?_getD, List.getD_eq_getElem?_getD, List.getElem?_take_of_lt hi])
theorem allK_take {α : Type} {K : α → Prop} {l : List α} {k m : Nat} (h : allK K k l) : allK K k (l.take m) :=
  ⟨by rw [List.length_take]; have := h.1; omega, fun x hx => h.2 x (List.mem_of_mem_take hx)⟩
def pnG (x : Pnl) : Prop := x.key.length ≤ 8
def pnLit (u1 u2 u3 : Int) : List Pnl := [⟨[100, 111, 111, 114], 1000, 800, u1⟩, ⟨[104, 111, 111, 100], u2, 900, u3⟩, ⟨[114, 111, 111, 102], 300, 300, 4000⟩]
theorem pnLit_ok (u1 u2 u3 : Int) : allK pnG 3 (pnLit u1 u2 u3) := ⟨Nat.le_refl _, by intro x hx; simp [pnLit] at hx; rcases hx with rfl | rfl | rfl <;> simp [pnG]⟩
theorem pnLit_rows (u1 u2 u3 : Int) : ∀ i, i < (pnLit u1 u2 u3).length → [[DV.str [100, 111, 111, 114], .int .i64 1000, .int .i64 800, .int .i64 u1], [.str [104, 111, 111, 100], .int .i64 u2, .int .i64 900, .int .i64 u3], [.str [114, 111, 111, 102], .int .i64 300, .int .i64 300, .int .i64 4000]].getD i [] = rowF pnF pn0 (pnLit u1 u2 u3) i := rows_lit rfl
theorem pick3 {u : Int} (h : u ∈ ([1, 2, 3, 3] : List Int)) : 0 ≤ u ∧ u ≤ 3 := by
  simp only [List.mem_cons, List.not_mem_nil, or_false] at h; omega
-- Panels
theorem s95 (n : Nat) (L : Nat → Int) (hL : Rok n L) (a : Int) (h0 : 0 ≤ a) (ha : a ≤ 2^38) :
    FSpec Tryz.prog 5 [.ptr 1000000 0] [(1000000, strm n L a)] (fun y r => (∃ l, allK pnG 3 l ∧ y = .d (pnls l)) ∧ Moved n L a 20 r) := by
  refine spec_of hT (C := [17]) Tryz.func5 rfl Tryz.call5 rfl rfl rfl ?_
  conv => whnf
  repeat' (first
    | (refine CallX.of (s33 n L hL _ ?_ ?_ [0, 3000, 9000] ?_ ?_) [(1000000, 1000000)] rfl ⟨SV.le_refl _, SV.le_lit rfl rfl, trivial⟩ ⟨Res.le_refl _, trivial⟩ rfl rfl ?_; rotate_right; rintro x rout ⟨⟨u1, hu1, rfl⟩, ⟨c, c1, c2, rfl⟩⟩; refine ⟨rfl, ?_⟩; conv => whnf)
    | (refine CallX.of (s33 n L hL _ ?_ ?_ [50, 1200] ?_ ?_) [(1000000, 1000000)] rfl ⟨SV.le_refl _, SV.le_lit rfl rfl, trivial⟩ ⟨Res.le_refl _, trivial⟩ rfl rfl ?_; rotate_right; rintro x rout ⟨⟨u2, hu2, rfl⟩, ⟨c, c1, c2, rfl⟩⟩; refine ⟨rfl, ?_⟩; conv => whnf)
    | (refine CallX.of (s33 n L hL _ ?_ ?_ [5000, 1000000] ?_ ?_) [(1000000, 1000000)] rfl ⟨SV.le_refl _, SV.le_lit rfl rfl, trivial⟩ ⟨Res.le_refl _, trivial⟩ rfl rfl ?_; rotate_right; rintro x rout ⟨⟨u3, hu3, rfl⟩, ⟨c, c1, c2, rfl⟩⟩; refine ⟨rfl, ?_⟩; conv => whnf)
    | (refine CallX.of (s84 n L hL _ ?_ ?_ _ ?_) [(1000000, 1000000)] rfl ⟨SV.le_refl _, SV.le_refl _, trivial⟩ ⟨Res.le_refl _, trivial⟩ rfl rfl ?_; rotate_right; rintro x rout ⟨⟨f, rfl⟩, ⟨c, c1, c2, rfl⟩⟩; refine ⟨rfl, ?_⟩; conv => whnf)
    | (refine CallX.of (s86 n L hL _ ?_ ?_ _ ?_) [(1000000, 1000000)] rfl ⟨SV.le_refl _, SV.le_refl _, trivial⟩ ⟨Res.le_refl _, trivial⟩ rfl rfl ?_; rotate_right; rintro x rout ⟨⟨j, hj1, hj2, hj3, rfl⟩, ⟨c, c1, c2, rfl⟩⟩; refine ⟨rfl, ?_⟩; conv => whnf)
    | (refine CallX.of (s15 n L hL _ ?_ ?_ [_, [], [100, 111, 111, 114]] (by simp) (by simp)) [(1000000, 1000000)] rfl ⟨SV.le_refl _, SV.le_lit rfl rfl, trivial⟩ ⟨Res.le_refl _, trivial⟩ rfl rfl ?_; rotate_right; rintro x rout ⟨⟨u4, hu4, rfl⟩, ⟨c, c1, c2, rfl⟩⟩; refine ⟨rfl, ?_⟩; conv => whnf)
    | (refine CallX.of (s104 n L hL _ ?_ ?_ 1 5000 ?_ ?_ ?_) [(1000000, 1000000)] rfl ⟨SV.le_refl _, SV.le_refl _, SV.le_refl _, trivial⟩ ⟨Res.le_refl _, trivial⟩ rfl rfl ?_; rotate_right; rintro x rout ⟨⟨u5, hk1, hk2, rfl⟩, ⟨c, c1, c2, rfl⟩⟩; refine ⟨rfl, ?_⟩; conv => whnf)
    | (refine CallX.of (s104 n L hL _ ?_ ?_ 0 1000000 ?_ ?_ ?_) [(1000000, 1000000)] rfl ⟨SV.le_refl _, SV.le_refl _, SV.le_refl _, trivial⟩ ⟨Res.le_refl _, trivial⟩ rfl rfl ?_; rotate_right; rintro x rout ⟨⟨u6, hk3, hk4, rfl⟩, ⟨c, c1, c2, rfl⟩⟩; refine ⟨rfl, ?_⟩; conv => whnf)
    | (refine CallX.of (s33 n L hL _ ?_ ?_ [1, 2, 3, 3] ?_ ?_) [(1000000, 1000000)] rfl ⟨SV.le_refl _, SV.le_lit rfl rfl, trivial⟩ ⟨Res.le_refl _, trivial⟩ rfl rfl ?_; rotate_right; rintro x rout ⟨⟨u7, hu7, rfl⟩, ⟨c, c1, c2, rfl⟩⟩; have hw7 := pick3 hu7; refine ⟨rfl, ?_⟩; conv => whnf)
    | (refine SliceX.freeze 58 4 _ _ rfl ?_; conv => whnf)
    | (refine br_intro (fun hb => ?_) (fun hb => ?_) <;> (try simp only [decide_eq_true_eq, decide_eq_false_iff_not, Bool.not_eq_true', Bool.not_eq_false', Bool.and_eq_true, Bool.or_eq_true, beq_iff_eq, not_and, Int.not_le, Int.not_lt, Int.toNat_natCast, beq_eq_false_iff_ne, ne_eq, eq_self, not_true_eq_false, not_false_eq_true] at hb) <;> (conv => whnf))
    | omega
    | (refine And.intro ?_ ?_; ((try dsimp only); first | omega | (refine ⟨by omega, by omega, Int.le_trans (Int.mul_le_mul_of_nonneg_right (Int.ofNat_le.2 (Nat.le_of_ble_eq_true (rfl : Nat.ble _ 1024 = true))) (by omega)) (by omega), by omega⟩) | (refine Nat.le_trans (Nat.mul_le_mul_left _ (Nat.le_of_ble_eq_true (rfl : Nat.ble _ 1024 = true))) ?_; omega) | (unfold inI64; omega) | (constructor <;> omega) | (simp only [inI64, List.length_cons, List.length_append, List.length_nil, List.length_set] at *; omega) | decide | (unfold inI64; decide)); conv => whnf)
    | omega | decide | assumption)
  · have hj : j = 0 ∨ j = 1 ∨ j = 2 := by omega
    rcases hj with rfl | rfl | rfl
    all_goals
      conv => whnf
      repeat' (first
        | (refine CallX.of (s33 n L hL _ ?_ ?_ [0, 3000, 9000] ?_ ?_) [(1000000, 1000000)] rfl ⟨SV.le_refl _, SV.le_lit rfl rfl, trivial⟩ ⟨Res.le_refl _, trivial⟩ rfl rfl ?_; rotate_right; rintro x rout ⟨⟨u1, hu1, rfl⟩, ⟨c, c1, c2, rfl⟩⟩; refine ⟨rfl, ?_⟩; conv => whnf)
        | (refine CallX.of (s33 n L hL _ ?_ ?_ [50, 1200] ?_ ?_) [(1000000, 1000000)] rfl ⟨SV.le_refl _, SV.le_lit rfl rfl, trivial⟩ ⟨Res.le_refl _, trivial⟩ rfl rfl ?_; rotate_right; rintro x rout ⟨⟨u2, hu2, rfl⟩, ⟨c, c1, c2, rfl⟩⟩; refine ⟨rfl, ?_⟩; conv => whnf)
        | (refine CallX.of (s33 n L hL _ ?_ ?_ [5000, 1000000] ?_ ?_) [(1000000, 1000000)] rfl ⟨SV.le_refl _, SV.le_lit rfl rfl, trivial⟩ ⟨Res.le_refl _, trivial⟩ rfl rfl ?_; rotate_right; rintro x rout ⟨⟨u3, hu3, rfl⟩, ⟨c, c1, c2, rfl⟩⟩; refine ⟨rfl, ?_⟩; conv => whnf)
        | (refine CallX.of (s84 n L hL _ ?_ ?_ _ ?_) [(1000000, 1000000)] rfl ⟨SV.le_refl _, SV.le_refl _, trivial⟩ ⟨Res.le_refl _, trivial⟩ rfl rfl ?_; rotate_right; rintro x rout ⟨⟨f, rfl⟩, ⟨c, c1, c2, rfl⟩⟩; refine ⟨rfl, ?_⟩; conv => whnf)
        | (refine CallX.of (s86 n L hL _ ?_ ?_ _ ?_) [(1000000, 1000000)] rfl ⟨SV.le_refl _, SV.le_refl _, trivial⟩ ⟨Res.le_refl _, trivial⟩ rfl rfl ?_; rotate_right; rintro x rout ⟨⟨j, hj1, hj2, hj3, rfl⟩, ⟨c, c1, c2, rfl⟩⟩; refine ⟨rfl, ?_⟩; conv => whnf)
        | (refine CallX.of (s15 n L hL _ ?_ ?_ [_, [], [100, 111, 111, 114]] (by simp) (by simp)) [(1000000, 1000000)] rfl ⟨SV.le_refl _, SV.le_lit rfl rfl, trivial⟩ ⟨Res.le_refl _, trivial⟩ rfl rfl ?_; rotate_right; rintro x rout ⟨⟨u4, hu4, rfl⟩, ⟨c, c1, c2, rfl⟩⟩; refine ⟨rfl, ?_⟩; conv => whnf)
        | (refine CallX.of (s104 n L hL _ ?_ ?_ 1 5000 ?_ ?_ ?_) [(1000000, 1000000)] rfl ⟨SV.le_refl _, SV.le_refl _, SV.le_refl _, trivial⟩ ⟨Res.le_refl _, trivial⟩ rfl rfl ?_; rotate_right; rintro x rout ⟨⟨u5, hk1, hk2, rfl⟩, ⟨c, c1, c2, rfl⟩⟩; refine ⟨rfl, ?_⟩; conv => whnf)
        | (refine CallX.of (s104 n L hL _ ?_ ?_ 0 1000000 ?_ ?_ ?_) [(1000000, 1000000)] rfl ⟨SV.le_refl _, SV.le_refl _, SV.le_refl _, trivial⟩ ⟨Res.le_refl _, trivial⟩ rfl rfl ?_; rotate_right; rintro x rout ⟨⟨u6, hk3, hk4, rfl⟩, ⟨c, c1, c2, rfl⟩⟩; refine ⟨rfl, ?_⟩; conv => whnf)
        | (refine CallX.of (s33 n L hL _ ?_ ?_ [1, 2, 3, 3] ?_ ?_) [(1000000, 1000000)] rfl ⟨SV.le_refl _, SV.le_lit rfl rfl, trivial⟩ ⟨Res.le_refl _, trivial⟩ rfl rfl ?_; rotate_right; rintro x rout ⟨⟨u7, hu7, rfl⟩, ⟨c, c1, c2, rfl⟩⟩; have hw7 := pick3 hu7; refine ⟨rfl, ?_⟩; conv => whnf)
        | (refine SliceX.freeze 58 4 _ _ rfl ?_; conv => whnf)
        | (refine br_intro (fun hb => ?_) (fun hb => ?_) <;> (try simp only [decide_eq_true_eq, decide_eq_false_iff_not, Bool.not_eq_true', Bool.not_eq_false', Bool.and_eq_true, Bool.or_eq_true, beq_iff_eq, not_and, Int.not_le, Int.not_lt, Int.toNat_natCast, beq_eq_false_iff_ne, ne_eq, eq_self, not_true_eq_false, not_false_eq_true] at hb) <;> (conv => whnf))
        | omega
        | (refine And.intro ?_ ?_; ((try dsimp only); first | omega | (refine ⟨by omega, by omega, Int.le_trans (Int.mul_le_mul_of_nonneg_right (Int.ofNat_le.2 (Nat.le_of_ble_eq_true (rfl : Nat.ble _ 1024 = true))) (by omega)) (by omega), by omega⟩) | (refine Nat.le_trans (Nat.mul_le_mul_left _ (Nat.le_of_ble_eq_true (rfl : Nat.ble _ 1024 = true))) ?_; omega) | (unfold inI64; omega) | (constructor <;> omega) | (simp only [inI64, List.length_cons, List.length_append, List.length_nil, List.length_set] at *; omega) | decide | (unfold inI64; decide)); conv => whnf)
        | omega | decide | assumption)
      refine .weak _ ?_
      (conv => whnf)
      have hu : u4.length ≤ 8 := mem_len hu4 rfl
      refine ⟨_, [(1000000, strm n L _)], SV.le_take (f := pnF) (d := pn0) (rows_updG (rows_updG (rows_updG (pnLit_rows u1 u2 u3) (fun y : Pnl => (⟨u4, y.w, y.h, y.pr⟩ : Pnl)) (fun _ => rfl)) (fun y : Pnl => (⟨y.key, u5, y.h, y.pr⟩ : Pnl)) (fun _ => rfl)) (fun y : Pnl => (⟨y.key, y.w, y.h, u6⟩ : Pnl)) (fun _ => rfl)) (by simp [pnLit]; omega), ⟨⟨_, ?_, rfl⟩, _, by omega, by omega, rfl⟩, Res.le_refl _, trivial⟩
      exact allK_take (allK_upd (g := fun y : Pnl => (⟨y.key, y.w, y.h, u6⟩ : Pnl)) (allK_upd (g := fun y : Pnl => (⟨y.key, u5, y.h, y.pr⟩ : Pnl)) (allK_upd (g := fun y : Pnl => (⟨u4, y.w, y.h, y.pr⟩ : Pnl)) (pnLit_ok u1 u2 u3) (fun y hy => hu)) (fun y hy => hy)) (fun y hy => hy))
  · refine .weak _ ?_
    (conv => whnf)
    exact ⟨_, [(1000000, strm n L _)], SV.le_take (l := pnLit u1 u2 u3) (pnLit_rows u1 u2 u3) (by show (u7 - 0).toNat ≤ 3; omega), ⟨⟨_, allK_take (pnLit_ok u1 u2 u3), rfl⟩, _, by omega, by omega, rfl⟩, Res.le_refl _, trivial⟩
-- Rules
theorem s97 (n : Nat) (L : Nat → Int) (hL : Rok n L) (a : Int) (h0 : 0 ≤ a) (ha : a ≤ 2^38) :
    FSpec Tryz.prog 6 [.ptr 1000000 0] [(1000000, strm n L a)] (fun y r => (∃ z : Rul, y = .agg ((ruF z).map .d)) ∧ Moved n L a 20 r) := by
  refine spec_of hT (C := []) Tryz.func6 rfl Tryz.call6 rfl rfl rfl ?_
  conv => whnf
  repeat' (first
    | (refine CallX.of (s33 n L hL _ ?_ ?_ [0, 5, 13, 20, 20, 50] ?_ ?_) [(1000000, 1000000)] rfl ⟨SV.le_refl _, SV.le_lit rfl rfl, trivial⟩ ⟨Res.le_refl _, trivial⟩ rfl rfl ?_; rotate_right; rintro x rout ⟨⟨u1, hu1, rfl⟩, ⟨c, c1, c2, rfl⟩⟩; refine ⟨rfl, ?_⟩; conv => whnf)
    | (refine CallX.of (s33 n L hL _ ?_ ?_ [0, 1, 2, 2] ?_ ?_) [(1000000, 1000000)] rfl ⟨SV.le_refl _, SV.le_lit rfl rfl, trivial⟩ ⟨Res.le_refl _, trivial⟩ rfl rfl ?_; rotate_right; rintro x rout ⟨⟨u2, hu2, rfl⟩, ⟨c, c1, c2, rfl⟩⟩; refine ⟨rfl, ?_⟩; conv => whnf)
    | (refine CallX.of (s33 n L hL _ ?_ ?_ [0, 10, 30, 50, 100] ?_ ?_) [(1000000, 1000000)] rfl ⟨SV.le_refl _, SV.le_lit rfl rfl, trivial⟩ ⟨Res.le_refl _, trivial⟩ rfl rfl ?_; rotate_right; rintro x rout ⟨⟨u3, hu3, rfl⟩, ⟨c, c1, c2, rfl⟩⟩; refine ⟨rfl, ?_⟩; conv => whnf)
    | (refine CallX.of (s33 n L hL _ ?_ ?_ [0, 333, 500, 1000] ?_ ?_) [(1000000, 1000000)] rfl ⟨SV.le_refl _, SV.le_lit rfl rfl, trivial⟩ ⟨Res.le_refl _, trivial⟩ rfl rfl ?_; rotate_right; rintro x rout ⟨⟨u4, hu4, rfl⟩, ⟨c, c1, c2, rfl⟩⟩; refine ⟨rfl, ?_⟩; conv => whnf)
    | (refine CallX.of (s84 n L hL _ ?_ ?_ _ ?_) [(1000000, 1000000)] rfl ⟨SV.le_refl _, SV.le_refl _, trivial⟩ ⟨Res.le_refl _, trivial⟩ rfl rfl ?_; rotate_right; rintro x rout ⟨⟨f, rfl⟩, ⟨c, c1, c2, rfl⟩⟩; refine ⟨rfl, ?_⟩; conv => whnf)
    | (refine CallX.of (s104 n L hL _ ?_ ?_ _ _ ?_ ?_ ?_) [(1000000, 1000000)] rfl ⟨SV.le_refl _, SV.le_refl _, SV.le_refl _, trivial⟩ ⟨Res.le_refl _, trivial⟩ rfl rfl ?_; rotate_right; rintro x rout ⟨⟨u5, hk1, hk2, rfl⟩, ⟨c, c1, c2, rfl⟩⟩; refine ⟨rfl, ?_⟩; conv => whnf)
    | (refine br_intro (fun hb => ?_) (fun hb => ?_) <;> (try simp only [decide_eq_true_eq, decide_eq_false_iff_not, Bool.not_eq_true', Bool.not_eq_false', Bool.and_eq_true, Bool.or_eq_true, beq_iff_eq, not_and, Int.not_le, Int.not_lt, Int.toNat_natCast, beq_eq_false_iff_ne, ne_eq, eq_self, not_true_eq_false, not_false_eq_true] at hb) <;> (conv => whnf))
    | omega
    | (refine And.intro ?_ ?_; ((try dsimp only); first | omega | (refine ⟨by omega, by omega, Int.le_trans (Int.mul_le_mul_of_nonneg_right (Int.ofNat_le.2 (Nat.le_of_ble_eq_true (rfl : Nat.ble _ 1024 = true))) (by omega)) (by omega), by omega⟩) | (refine Nat.le_trans (Nat.mul_le_mul_left _ (Nat.le_of_ble_eq_true (rfl : Nat.ble _ 1024 = true))) ?_; omega) | (unfold inI64; omega) | (constructor <;> omega) | (simp only [inI64, List.length_cons, List.length_append, List.length_nil, List.length_set] at *; omega) | decide | (unfold inI64; decide)); conv => whnf)
    | omega | decide | assumption)
  all_goals
    refine .ret _ ?_
    conv => whnf
    exact ⟨[(1000000, strm n L _)], ⟨⟨⟨_, _, _, _⟩, rfl⟩, _, by omega, by omega, rfl⟩, Res.le_refl _, trivial⟩
def mkB (c : Int) (m : Mrk) : Prop := m.pan.length ≤ 8 ∧ (-c ≤ m.x ∧ m.x ≤ c) ∧ (-c ≤ m.y ∧ m.y ≤ c) ∧ (-c ≤ m.size ∧ m.size ≤ c)
abbrev mkG (m : Mrk) : Prop := mkB 1099511627776 m
theorem pk {l : List Int} {x : Int} (h : x ∈ l) (hl : (l.all fun y => decide (-1099511627776 ≤ y) && decide (y ≤ 1099511627776)) = true) : -1099511627776 ≤ x ∧ x ≤ 1099511627776 := by
  have := List.all_eq_true.1 hl x h
  simpa using this
-- Marks
theorem s96 (n : Nat) (L : Nat → Int) (hL : Rok n L) (a : Int) (h0 : 0 ≤ a) (ha : a ≤ 2^38) (m : Int) (hm1 : 0 ≤ m) (hm2 : m ≤ 12) :
    FSpec Tryz.prog 7 [.ptr 1000000 0, .d (.int .i64 m)] [(1000000, strm n L a)] (fun y r => (∃ l, allK mkG m.toNat l ∧ y = .d (mrks l)) ∧ Moved n L a 90 r) := by
  refine spec_of hT (C := []) Tryz.func7 rfl Tryz.call7 rfl rfl rfl ?_
  conv => whnf
  refine LoopX.rule hT (C := []) (ι := Int × List Mrk × Nat) (fun (b, l, k) => (a ≤ b ∧ b ≤ a + 6 * k ∧ (k : Int) ≤ m) ∧ allK mkG k l)
    (fun (b, l, k) => mkSt [(0, .ptr 1000000 0), (5, .buf 5), (7, .d (.int .i64 m)), (8, .d (.int .i64 k))] [(1000000, strm n L b), (5, seqB 43 5 mkF mk0 l)])
    (fun (_, _, k) => 12 - k) (a, [], 0) ⟨⟨by simp, by simp, by simpa using hm1⟩, ⟨by simp, by simp⟩⟩ ?_ ?_
  · exact (Entails.nil 5 5 43 5 (rowF mkF mk0 []) rfl rfl (by decide)).trans (by (refine Entails.mk' [(1000000, 1000000), (5, 5)] rfl rfl ?_ ?_ <;> repeat' (first | exact True.intro | exact SV.le_refl _ | exact Res.le_refl _ | exact SV.le_int (by omega) | exact SV.le_any _ | refine And.intro ?_ ?_)); done)
  rintro ⟨b, l, k⟩ ⟨⟨p1, p2, p3⟩, q1⟩
  have hl1 := q1.1
  conv => whnf
  repeat' (first
    | (refine CallX.of (s15 n L hL _ ?_ ?_ [[100, 111, 111, 114], [100, 111, 111, 114], [100, 111, 111, 114], [104, 111, 111, 100]] ?_ ?_) [(1000000, 1000000)] rfl ⟨SV.le_refl _, SV.le_lit rfl rfl, trivial⟩ ⟨Res.le_refl _, trivial⟩ rfl rfl ?_; rotate_right; rintro x rout ⟨⟨u1, hu1, rfl⟩, ⟨c, c1, c2, rfl⟩⟩; refine ⟨rfl, ?_⟩; conv => whnf)
    | (refine CallX.of (s33 n L hL _ ?_ ?_ [1, 1, 1, 2, 3] ?_ ?_) [(1000000, 1000000)] rfl ⟨SV.le_refl _, SV.le_lit rfl rfl, trivial⟩ ⟨Res.le_refl _, trivial⟩ rfl rfl ?_; rotate_right; rintro x rout ⟨⟨u2, hu2, rfl⟩, ⟨c, c1, c2, rfl⟩⟩; refine ⟨rfl, ?_⟩; conv => whnf)
    | (refine CallX.of (s33 n L hL _ ?_ ?_ [0, 10, 20, 30, 40, 40, 100, 140] ?_ ?_) [(1000000, 1000000)] rfl ⟨SV.le_refl _, SV.le_lit rfl rfl, trivial⟩ ⟨Res.le_refl _, trivial⟩ rfl rfl ?_; rotate_right; rintro x rout ⟨⟨u3, hu3, rfl⟩, ⟨c, c1, c2, rfl⟩⟩; refine ⟨rfl, ?_⟩; conv => whnf)
    | (refine CallX.of (s33 n L hL _ ?_ ?_ [0, 0, 10, 20] ?_ ?_) [(1000000, 1000000)] rfl ⟨SV.le_refl _, SV.le_lit rfl rfl, trivial⟩ ⟨Res.le_refl _, trivial⟩ rfl rfl ?_; rotate_right; rintro x rout ⟨⟨u4, hu4, rfl⟩, ⟨c, c1, c2, rfl⟩⟩; refine ⟨rfl, ?_⟩; conv => whnf)
    | (refine CallX.of (s33 n L hL _ ?_ ?_ [1, 5, 8, 10, 12, 50] ?_ ?_) [(1000000, 1000000)] rfl ⟨SV.le_refl _, SV.le_lit rfl rfl, trivial⟩ ⟨Res.le_refl _, trivial⟩ rfl rfl ?_; rotate_right; rintro x rout ⟨⟨u5, hu5, rfl⟩, ⟨c, c1, c2, rfl⟩⟩; refine ⟨rfl, ?_⟩; conv => whnf)
    | (refine br_intro (fun hb => ?_) (fun hb => ?_) <;> (try simp only [decide_eq_true_eq, decide_eq_false_iff_not, Bool.not_eq_true', Bool.not_eq_false', Bool.and_eq_true, Bool.or_eq_true, beq_iff_eq, not_and, Int.not_le, Int.not_lt, Int.toNat_natCast, beq_eq_false_iff_ne, ne_eq, eq_self, not_true_eq_false, not_false_eq_true] at hb) <;> (conv => whnf))
    | omega
    | (refine And.intro ?_ ?_; ((try dsimp only); first | omega | (refine ⟨by omega, by omega, Int.le_trans (Int.mul_le_mul_of_nonneg_right (Int.ofNat_le.2 (Nat.le_of_ble_eq_true (rfl : Nat.ble _ 1024 = true))) (by omega)) (by omega), by omega⟩) | (refine Nat.le_trans (Nat.mul_le_mul_left _ (Nat.le_of_ble_eq_true (rfl : Nat.ble _ 1024 = true))) ?_; omega) | (unfold inI64; omega) | (constructor <;> omega) | (simp only [inI64, List.length_cons, List.length_append, List.length_nil, List.length_set] at *; omega) | decide | (unfold inI64; decide)); conv => whnf)
    | omega | decide | assumption)
  · refine ⟨(_, _, k + 1), ?_, ?_, Entails.mk' [(1000000, 1000000), (5, 28)] rfl rfl ⟨SV.le_refl _, SV.le_refl _, SV.le_refl _, SV.le_refl _, trivial⟩ ⟨Res.le_refl _, Res.le_snocF (x := ⟨_, _, _, _, _⟩) rfl, trivial⟩⟩
    · exact ⟨⟨by omega, by omega, by omega⟩, allK_snoc q1 (Nat.le_refl _) ⟨mem_len hu1 rfl, pk hu3 rfl, pk hu4 rfl, pk hu5 rfl⟩⟩
    · show 12 - (k + 1) < 12 - k; omega
  refine CallX.of (s156 28 mrkCmp l (by omega) (fun p q _ _ => s157 p q)) [(1000001, 5)] rfl ⟨SV.le_refl _, SV.le_refl _, trivial⟩ ⟨Res.le_refl _, trivial⟩ rfl rfl ?_
  rintro x rout ⟨rfl, c, hc, rfl⟩
  refine ⟨rfl, ?_⟩
  conv => whnf
  repeat' (first
    | (refine br_intro (fun hb => ?_) (fun hb => ?_) <;> (try simp only [decide_eq_true_eq, decide_eq_false_iff_not, Bool.not_eq_true', Bool.not_eq_false', Bool.and_eq_true, Bool.or_eq_true, beq_iff_eq, not_and, Int.not_le, Int.not_lt, Int.toNat_natCast, beq_eq_false_iff_ne, ne_eq, eq_self, not_true_eq_false, not_false_eq_true] at hb) <;> (conv => whnf))
    | omega
    | (refine And.intro ?_ ?_; ((try dsimp only); first | omega | (refine ⟨by omega, by omega, Int.le_trans (Int.mul_le_mul_of_nonneg_right (Int.ofNat_le.2 (Nat.le_of_ble_eq_true (rfl : Nat.ble _ 1024 = true))) (by omega)) (by omega), by omega⟩) | (refine Nat.le_trans (Nat.mul_le_mul_left _ (Nat.le_of_ble_eq_true (rfl : Nat.ble _ 1024 = true))) ?_; omega) | (unfold inI64; omega) | (constructor <;> omega) | (simp only [inI64, List.length_cons, List.length_append, List.length_nil, List.length_set] at *; omega) | decide | (unfold inI64; decide)); conv => whnf)
    | omega | decide | assumption)
  refine CallX.of (s158 c (by have := hc.1; omega)) [(1000001, 5), (59, 100)] rfl ⟨SV.le_refl _, trivial⟩ ⟨Res.le_refl _, trivial⟩ rfl rfl ?_
  rintro x rout ⟨e, he, d, hd, rfl, rfl⟩
  have hsh : allK mkG m.toNat e := ⟨by have := hc.1; have := he.1; omega, fun p hp => q1.2 p (hc.2 p (he.2 p hp))⟩
  have hl2 := hsh.1
  rcases hd with rfl | rfl
  · refine ⟨rfl, ?_⟩
    conv => whnf
    repeat' (first
      | (refine CallX.of (s84 n L hL _ ?_ ?_ _ ?_) [(1000000, 1000000)] rfl ⟨SV.le_refl _, SV.le_refl _, trivial⟩ ⟨Res.le_refl _, trivial⟩ rfl rfl ?_; rotate_right; rintro x rout ⟨⟨f, rfl⟩, ⟨c, c1, c2, rfl⟩⟩; refine ⟨rfl, ?_⟩; conv => whnf)
      | (refine CallX.of (s86 n L hL _ ?_ ?_ _ ?_) [(1000000, 1000000)] rfl ⟨SV.le_refl _, SV.le_refl _, trivial⟩ ⟨Res.le_refl _, trivial⟩ rfl rfl ?_; rotate_right; rintro x rout ⟨⟨j, hj1, hj2, hj3, rfl⟩, ⟨c, c1, c2, rfl⟩⟩; refine ⟨rfl, ?_⟩; conv => whnf)
      | (refine CallX.of (s15 n L hL _ ?_ ?_ [[], [110, 111, 110, 101], [65]] ?_ ?_) [(1000000, 1000000)] rfl ⟨SV.le_refl _, SV.le_lit rfl rfl, trivial⟩ ⟨Res.le_refl _, trivial⟩ rfl rfl ?_; rotate_right; rintro x rout ⟨⟨u4, hu4, rfl⟩, ⟨c, c1, c2, rfl⟩⟩; have hw4 := mem_len hu4 rfl; refine ⟨rfl, ?_⟩; conv => whnf)
      | (refine CallX.of (s104 n L hL _ ?_ ?_ 1 4 ?_ ?_ ?_) [(1000000, 1000000)] rfl ⟨SV.le_refl _, SV.le_refl _, SV.le_refl _, trivial⟩ ⟨Res.le_refl _, trivial⟩ rfl rfl ?_; rotate_right; rintro x rout ⟨⟨u5, hk1, hk2, rfl⟩, ⟨c, c1, c2, rfl⟩⟩; refine ⟨rfl, ?_⟩; conv => whnf)
      | (refine CallX.of (s104 n L hL _ ?_ ?_ 0 5000 ?_ ?_ ?_) [(1000000, 1000000)] rfl ⟨SV.le_refl _, SV.le_refl _, SV.le_refl _, trivial⟩ ⟨Res.le_refl _, trivial⟩ rfl rfl ?_; rotate_right; rintro x rout ⟨⟨u6, hk3, hk4, rfl⟩, ⟨c, c1, c2, rfl⟩⟩; refine ⟨rfl, ?_⟩; conv => whnf)
      | (refine CallX.of (s33 n L hL _ ?_ ?_ [0, 799, 800, 900] ?_ ?_) [(1000000, 1000000)] rfl ⟨SV.le_refl _, SV.le_lit rfl rfl, trivial⟩ ⟨Res.le_refl _, trivial⟩ rfl rfl ?_; rotate_right; rintro x rout ⟨⟨u7, hu7, rfl⟩, ⟨c, c1, c2, rfl⟩⟩; refine ⟨rfl, ?_⟩; conv => whnf)
      | (refine CallX.of (s104 n L hL _ ?_ ?_ 1 2000 ?_ ?_ ?_) [(1000000, 1000000)] rfl ⟨SV.le_refl _, SV.le_refl _, SV.le_refl _, trivial⟩ ⟨Res.le_refl _, trivial⟩ rfl rfl ?_; rotate_right; rintro x rout ⟨⟨u8, hk5, hk6, rfl⟩, ⟨c, c1, c2, rfl⟩⟩; refine ⟨rfl, ?_⟩; conv => whnf)
      | (refine br_intro (fun hb => ?_) (fun hb => ?_) <;> (try simp only [decide_eq_true_eq, decide_eq_false_iff_not, Bool.not_eq_true', Bool.not_eq_false', Bool.and_eq_true, Bool.or_eq_true, beq_iff_eq, not_and, Int.not_le, Int.not_lt, Int.toNat_natCast, beq_eq_false_iff_ne, ne_eq, eq_self, not_true_eq_false, not_false_eq_true] at hb) <;> (conv => whnf))
      | omega
      | (refine And.intro ?_ ?_; ((try dsimp only); first | omega | (refine ⟨by omega, by omega, Int.le_trans (Int.mul_le_mul_of_nonneg_right (Int.ofNat_le.2 (Nat.le_of_ble_eq_true (rfl : Nat.ble _ 1024 = true))) (by omega)) (by omega), by omega⟩) | (refine Nat.le_trans (Nat.mul_le_mul_left _ (Nat.le_of_ble_eq_true (rfl : Nat.ble _ 1024 = true))) ?_; omega) | (unfold inI64; omega) | (constructor <;> omega) | (simp only [inI64, List.length_cons, List.length_append, List.length_nil, List.length_set] at *; omega) | decide | (unfold inI64; decide)); conv => whnf)
      | omega | decide | assumption)
    · first
        | refine .freeze _ 5 43 5 _ _ rfl (.weak _ ?_)
        | refine .freeze _ 100 43 5 _ _ rfl (.weak _ ?_)
      (conv => whnf)
      refine ⟨_, [(1000000, strm n L _)], SV.le_upd (fun p : Mrk => (⟨u4, p.kind, p.x, p.y, p.size⟩ : Mrk)) (fun _ => rfl), ⟨⟨_, ?_, rfl⟩, _, by omega, by omega, rfl⟩, Res.le_refl _, trivial⟩
      exact allK_upd (g := fun p : Mrk => (⟨u4, p.kind, p.x, p.y, p.size⟩ : Mrk)) hsh (fun y hy => ⟨hw4, hy.2⟩)
    · first
        | refine .freeze _ 5 43 5 _ _ rfl (.weak _ ?_)
        | refine .freeze _ 100 43 5 _ _ rfl (.weak _ ?_)
      (conv => whnf)
      refine ⟨_, [(1000000, strm n L _)], SV.le_upd (fun p : Mrk => (⟨p.pan, u5, p.x, p.y, p.size⟩ : Mrk)) (fun _ => rfl), ⟨⟨_, ?_, rfl⟩, _, by omega, by omega, rfl⟩, Res.le_refl _, trivial⟩
      exact allK_upd (g := fun p : Mrk => (⟨p.pan, u5, p.x, p.y, p.size⟩ : Mrk)) hsh (fun y hy => hy)
    · first
        | refine .freeze _ 5 43 5 _ _ rfl (.weak _ ?_)
        | refine .freeze _ 100 43 5 _ _ rfl (.weak _ ?_)
      (conv => whnf)
      refine ⟨_, [(1000000, strm n L _)], SV.le_upd2 (f := mkF) (d := mk0) (l := e) (fun p : Mrk => (⟨p.pan, p.kind, u6, p.y, p.size⟩ : Mrk)) (fun p : Mrk => (⟨p.pan, p.kind, p.x, u7, p.size⟩ : Mrk)) (fun _ => rfl) (fun _ => rfl), ⟨⟨_, ?_, rfl⟩, _, by omega, by omega, rfl⟩, Res.le_refl _, trivial⟩
      exact allK_upd (g := fun p : Mrk => (⟨p.pan, p.kind, p.x, u7, p.size⟩ : Mrk)) (allK_upd (g := fun p : Mrk => (⟨p.pan, p.kind, u6, p.y, p.size⟩ : Mrk)) hsh (fun y hy => ⟨hy.1, (show -1099511627776 ≤ u6 ∧ u6 ≤ 1099511627776 from by omega), hy.2.2⟩)) (fun y hy => ⟨hy.1, hy.2.1, pk hu7 rfl, hy.2.2.2⟩)
    · first
        | refine .freeze _ 5 43 5 _ _ rfl (.weak _ ?_)
        | refine .freeze _ 100 43 5 _ _ rfl (.weak _ ?_)
      (conv => whnf)
      refine ⟨_, [(1000000, strm n L _)], SV.le_upd (fun p : Mrk => (⟨p.pan, p.kind, p.x, p.y, u8⟩ : Mrk)) (fun _ => rfl), ⟨⟨_, ?_, rfl⟩, _, by omega, by omega, rfl⟩, Res.le_refl _, trivial⟩
      exact allK_upd (g := fun p : Mrk => (⟨p.pan, p.kind, p.x, p.y, u8⟩ : Mrk)) hsh (fun y hy => ⟨hy.1, hy.2.1, hy.2.2.1, (show -1099511627776 ≤ u8 ∧ u8 ≤ 1099511627776 from by omega)⟩)
    all_goals
      first
        | refine .freeze _ 5 43 5 _ _ rfl (.weak _ ?_)
        | refine .freeze _ 100 43 5 _ _ rfl (.weak _ ?_)
      (conv => whnf)
      exact ⟨_, [(1000000, strm n L _)], SV.le_refl _, ⟨⟨e, hsh, rfl⟩, _, by omega, by omega, rfl⟩, Res.le_refl _, trivial⟩
  · refine ⟨rfl, ?_⟩
    conv => whnf
    repeat' (first
      | (refine CallX.of (s84 n L hL _ ?_ ?_ _ ?_) [(1000000, 1000000)] rfl ⟨SV.le_refl _, SV.le_refl _, trivial⟩ ⟨Res.le_refl _, trivial⟩ rfl rfl ?_; rotate_right; rintro x rout ⟨⟨f, rfl⟩, ⟨c, c1, c2, rfl⟩⟩; refine ⟨rfl, ?_⟩; conv => whnf)
      | (refine CallX.of (s86 n L hL _ ?_ ?_ _ ?_) [(1000000, 1000000)] rfl ⟨SV.le_refl _, SV.le_refl _, trivial⟩ ⟨Res.le_refl _, trivial⟩ rfl rfl ?_; rotate_right; rintro x rout ⟨⟨j, hj1, hj2, hj3, rfl⟩, ⟨c, c1, c2, rfl⟩⟩; refine ⟨rfl, ?_⟩; conv => whnf)
      | (refine CallX.of (s15 n L hL _ ?_ ?_ [[], [110, 111, 110, 101], [65]] ?_ ?_) [(1000000, 1000000)] rfl ⟨SV.le_refl _, SV.le_lit rfl rfl, trivial⟩ ⟨Res.le_refl _, trivial⟩ rfl rfl ?_; rotate_right; rintro x rout ⟨⟨u4, hu4, rfl⟩, ⟨c, c1, c2, rfl⟩⟩; have hw4 := mem_len hu4 rfl; refine ⟨rfl, ?_⟩; conv => whnf)
      | (refine CallX.of (s104 n L hL _ ?_ ?_ 1 4 ?_ ?_ ?_) [(1000000, 1000000)] rfl ⟨SV.le_refl _, SV.le_refl _, SV.le_refl _, trivial⟩ ⟨Res.le_refl _, trivial⟩ rfl rfl ?_; rotate_right; rintro x rout ⟨⟨u5, hk1, hk2, rfl⟩, ⟨c, c1, c2, rfl⟩⟩; refine ⟨rfl, ?_⟩; conv => whnf)
      | (refine CallX.of (s104 n L hL _ ?_ ?_ 0 5000 ?_ ?_ ?_) [(1000000, 1000000)] rfl ⟨SV.le_refl _, SV.le_refl _, SV.le_refl _, trivial⟩ ⟨Res.le_refl _, trivial⟩ rfl rfl ?_; rotate_right; rintro x rout ⟨⟨u6, hk3, hk4, rfl⟩, ⟨c, c1, c2, rfl⟩⟩; refine ⟨rfl, ?_⟩; conv => whnf)
      | (refine CallX.of (s33 n L hL _ ?_ ?_ [0, 799, 800, 900] ?_ ?_) [(1000000, 1000000)] rfl ⟨SV.le_refl _, SV.le_lit rfl rfl, trivial⟩ ⟨Res.le_refl _, trivial⟩ rfl rfl ?_; rotate_right; rintro x rout ⟨⟨u7, hu7, rfl⟩, ⟨c, c1, c2, rfl⟩⟩; refine ⟨rfl, ?_⟩; conv => whnf)
      | (refine CallX.of (s104 n L hL _ ?_ ?_ 1 2000 ?_ ?_ ?_) [(1000000, 1000000)] rfl ⟨SV.le_refl _, SV.le_refl _, SV.le_refl _, trivial⟩ ⟨Res.le_refl _, trivial⟩ rfl rfl ?_; rotate_right; rintro x rout ⟨⟨u8, hk5, hk6, rfl⟩, ⟨c, c1, c2, rfl⟩⟩; refine ⟨rfl, ?_⟩; conv => whnf)
      | (refine br_intro (fun hb => ?_) (fun hb => ?_) <;> (try simp only [decide_eq_true_eq, decide_eq_false_iff_not, Bool.not_eq_true', Bool.not_eq_false', Bool.and_eq_true, Bool.or_eq_true, beq_iff_eq, not_and, Int.not_le, Int.not_lt, Int.toNat_natCast, beq_eq_false_iff_ne, ne_eq, eq_self, not_true_eq_false, not_false_eq_true] at hb) <;> (conv => whnf))
      | omega
      | (refine And.intro ?_ ?_; ((try dsimp only); first | omega | (refine ⟨by omega, by omega, Int.le_trans (Int.mul_le_mul_of_nonneg_right (Int.ofNat_le.2 (Nat.le_of_ble_eq_true (rfl : Nat.ble _ 1024 = true))) (by omega)) (by omega), by omega⟩) | (refine Nat.le_trans (Nat.mul_le_mul_left _ (Nat.le_of_ble_eq_true (rfl : Nat.ble _ 1024 = true))) ?_; omega) | (unfold inI64; omega) | (constructor <;> omega) | (simp only [inI64, List.length_cons, List.length_append, List.length_nil, List.length_set] at *; omega) | decide | (unfold inI64; decide)); conv => whnf)
      | omega | decide | assumption)
    · first
        | refine .freeze _ 5 43 5 _ _ rfl (.weak _ ?_)
        | refine .freeze _ 100 43 5 _ _ rfl (.weak _ ?_)
      (conv => whnf)
      refine ⟨_, [(1000000, strm n L _)], SV.le_upd (fun p : Mrk => (⟨u4, p.kind, p.x, p.y, p.size⟩ : Mrk)) (fun _ => rfl), ⟨⟨_, ?_, rfl⟩, _, by omega, by omega, rfl⟩, Res.le_refl _, trivial⟩
      exact allK_upd (g := fun p : Mrk => (⟨u4, p.kind, p.x, p.y, p.size⟩ : Mrk)) hsh (fun y hy => ⟨hw4, hy.2⟩)
    · first
        | refine .freeze _ 5 43 5 _ _ rfl (.weak _ ?_)
        | refine .freeze _ 100 43 5 _ _ rfl (.weak _ ?_)
      (conv => whnf)
      refine ⟨_, [(1000000, strm n L _)], SV.le_upd (fun p : Mrk => (⟨p.pan, u5, p.x, p.y, p.size⟩ : Mrk)) (fun _ => rfl), ⟨⟨_, ?_, rfl⟩, _, by omega, by omega, rfl⟩, Res.le_refl _, trivial⟩
      exact allK_upd (g := fun p : Mrk => (⟨p.pan, u5, p.x, p.y, p.size⟩ : Mrk)) hsh (fun y hy => hy)
    · first
        | refine .freeze _ 5 43 5 _ _ rfl (.weak _ ?_)
        | refine .freeze _ 100 43 5 _ _ rfl (.weak _ ?_)
      (conv => whnf)
      refine ⟨_, [(1000000, strm n L _)], SV.le_upd2 (f := mkF) (d := mk0) (l := e) (fun p : Mrk => (⟨p.pan, p.kind, u6, p.y, p.size⟩ : Mrk)) (fun p : Mrk => (⟨p.pan, p.kind, p.x, u7, p.size⟩ : Mrk)) (fun _ => rfl) (fun _ => rfl), ⟨⟨_, ?_, rfl⟩, _, by omega, by omega, rfl⟩, Res.le_refl _, trivial⟩
      exact allK_upd (g := fun p : Mrk => (⟨p.pan, p.kind, p.x, u7, p.size⟩ : Mrk)) (allK_upd (g := fun p : Mrk => (⟨p.pan, p.kind, u6, p.y, p.size⟩ : Mrk)) hsh (fun y hy => ⟨hy.1, (show -1099511627776 ≤ u6 ∧ u6 ≤ 1099511627776 from by omega), hy.2.2⟩)) (fun y hy => ⟨hy.1, hy.2.1, pk hu7 rfl, hy.2.2.2⟩)
    · first
        | refine .freeze _ 5 43 5 _ _ rfl (.weak _ ?_)
        | refine .freeze _ 100 43 5 _ _ rfl (.weak _ ?_)
      (conv => whnf)
      refine ⟨_, [(1000000, strm n L _)], SV.le_upd (fun p : Mrk => (⟨p.pan, p.kind, p.x, p.y, u8⟩ : Mrk)) (fun _ => rfl), ⟨⟨_, ?_, rfl⟩, _, by omega, by omega, rfl⟩, Res.le_refl _, trivial⟩
      exact allK_upd (g := fun p : Mrk => (⟨p.pan, p.kind, p.x, p.y, u8⟩ : Mrk)) hsh (fun y hy => ⟨hy.1, hy.2.1, hy.2.2.1, (show -1099511627776 ≤ u8 ∧ u8 ≤ 1099511627776 from by omega)⟩)
    all_goals
      first
        | refine .freeze _ 5 43 5 _ _ rfl (.weak _ ?_)
        | refine .freeze _ 100 43 5 _ _ rfl (.weak _ ?_)
      (conv => whnf)
      exact ⟨_, [(1000000, strm n L _)], SV.le_refl _, ⟨⟨e, hsh, rfl⟩, _, by omega, by omega, rfl⟩, Res.le_refl _, trivial⟩
end Go.Proofs.YtnchgjpdggembaaGreat
set_option maxRecDepth 20000
namespace Go.Proofs.YtnchgjpdggembaaGreat
open Go Go.Eng
end Go.Proofs.YtnchgjpdggembaaGreat
set_option maxRecDepth 20000
namespace Go.Proofs.YtnchgjpdggembaaGreat
open Go Go.Eng
def twoE (p : List Pnl) (r : Rul) (a b : List Mrk) : Int := firstE [rulE r, mrksPE p a, onPE p b]
theorem twoE_zero {p : List Pnl} {r : Rul} {a b : List Mrk} (h : twoE p r a b = 0) : rulE r = 0 ∧ pansE p = 0 ∧ onPE p a = 0 ∧ onPE p b = 0 := by
  unfold twoE mrksPE at h
  simp only [firstE] at h
  grind
theorem rulE_bd {r : Rul} (h : rulE r = 0) : rBd r := by
  unfold rulE at h
  unfold rBd
  grind
theorem onPE_mBd {p : List Pnl} {l : List Mrk} (h : onPE p l = 0) : l.length ≤ 60 ∧ ∀ i, i < l.length → mBd (l.getD i mk0) := by
  obtain ⟨h1, h2⟩ := mrks_bd (onPE_bd h).1
  refine ⟨h1, fun i hi => ?_⟩
  have := h2 i hi
  unfold mBd
  omega
-- mark.checkTwo
theorem z145 (p : List Pnl) (r : Rul) (a b : List Mrk) (hp : pnOk p) (ha : mkOk a) (hb1 : mkOk b) : FSpec Tryz.prog 30 [.d (pnls p), .agg ((ruF r).map .d), .d (mrks a), .d (mrks b)] [] (fun x r' => x = .d (.int .i64 (twoE p r a b)) ∧ r' = []) := by
  refine spec_of hT (C := []) Tryz.func30 rfl Tryz.call30 rfl rfl rfl ?_
  conv => whnf
  repeat' (first
    | (refine CallX.exact (s102 r) rfl rfl ?_; rotate_right; conv => whnf)
    | (refine CallX.exact (s100 p a hp ha) rfl rfl ?_; rotate_right; conv => whnf)
    | (refine CallX.exact (s159 p b hp.1 hb1) rfl rfl ?_; rotate_right; conv => whnf)
    | (refine CallX.pure (s105 [_, _, _] (by simp)) ⟨SV.le_lit (by rfl) (by rfl), trivial⟩ rfl ?_; conv => whnf)
    | (refine br_intro (fun hb => ?_) (fun hb => ?_) <;> (try simp only [decide_eq_true_eq, decide_eq_false_iff_not, Bool.not_eq_true', Bool.not_eq_false', Bool.and_eq_true, Bool.or_eq_true, beq_iff_eq, not_and, Int.not_le, Int.not_lt, Int.toNat_natCast, beq_eq_false_iff_ne, ne_eq, eq_self, not_true_eq_false, not_false_eq_true] at hb) <;> (conv => whnf))
    | omega
    | (refine And.intro ?_ ?_; ((try dsimp only); first | omega | (refine ⟨by omega, by omega, Int.le_trans (Int.mul_le_mul_of_nonneg_right (Int.ofNat_le.2 (Nat.le_of_ble_eq_true (rfl : Nat.ble _ 1024 = true))) (by omega)) (by omega), by omega⟩) | (refine Nat.le_trans (Nat.mul_le_mul_left _ (Nat.le_of_ble_eq_true (rfl : Nat.ble _ 1024 = true))) ?_; omega) | (unfold inI64; omega) | (constructor <;> omega) | (simp only [inI64, List.length_cons, List.length_append, List.length_nil, List.length_set] at *; omega) | decide | (unfold inI64; decide)); conv => whnf)
    | omega | decide | assumption)
  refine .ret _ ?_
  conv => whnf
  refine ⟨[], ⟨?_, rfl⟩, trivial⟩
  conv => lhs; whnf
  rfl
theorem mkOk_of {c : Int} {k : Nat} {l : List Mrk} (h : allK (mkB c) k l) (hk : k ≤ 100) : mkOk l :=
  ⟨by have := h.1; omega, fun x hx => by have := (h.2 x hx).1; unfold mkK; omega⟩
theorem pnOk_of {k : Nat} {l : List Pnl} (h : allK pnG k l) (hk : k ≤ 100) : pnOk l :=
  ⟨by have := h.1; omega, fun x hx => by have := h.2 x hx; unfold pnG at this; unfold pnK; omega⟩
-- sketchOf
end Go.Proofs.YtnchgjpdggembaaGreat
set_option maxRecDepth 20000
namespace Go.Proofs.YtnchgjpdggembaaGreat
open Go Go.Eng
def matchV (p : List Pnl) (r : Rul) (a b : List Mrk) : SV := if twoE p r a b = 0 then .tup [.d (prgs (mtL r a b)), .d (.int .i64 0)] else .tup [.d .nilsl, .d (.int .i64 (twoE p r a b))]
-- mark.Match
theorem z60 (p : List Pnl) (r : Rul) (a b : List Mrk) (hp : pnOk p) (ha : mkOk a) (hb1 : mkOk b) : FSpec Tryz.prog 10 [.d (pnls p), .agg ((ruF r).map .d), .d (mrks a), .d (mrks b)] [] (fun x r' => x = matchV p r a b ∧ r' = []) := by
  unfold matchV
  have h145 := z145 p r a b hp ha hb1
  by_cases hz : twoE p r a b = 0
  · rw [if_pos hz]
    rw [hz] at h145
    obtain ⟨h1, h2, h3, h4⟩ := twoE_zero hz
    have h157 := z157 r a b (rulE_bd h1) (onPE_mBd h3) (onPE_mBd h4)
    refine spec_of hT (C := []) Tryz.func10 rfl Tryz.call10 rfl rfl rfl ?_
    conv => whnf
    repeat' (first
      | (refine CallX.exact (h145) rfl rfl ?_; rotate_right; conv => whnf)
      | (refine CallX.exact (h157) rfl rfl ?_; rotate_right; conv => whnf)
      | (refine br_intro (fun hb => ?_) (fun hb => ?_) <;> (try simp only [decide_eq_true_eq, decide_eq_false_iff_not, Bool.not_eq_true', Bool.not_eq_false', Bool.and_eq_true, Bool.or_eq_true, beq_iff_eq, not_and, Int.not_le, Int.not_lt, Int.toNat_natCast, beq_eq_false_iff_ne, ne_eq, eq_self, not_true_eq_false, not_false_eq_true] at hb) <;> (conv => whnf))
      | omega
      | (refine And.intro ?_ ?_; ((try dsimp only); first | omega | (refine ⟨by omega, by omega, Int.le_trans (Int.mul_le_mul_of_nonneg_right (Int.ofNat_le.2 (Nat.le_of_ble_eq_true (rfl : Nat.ble _ 1024 = true))) (by omega)) (by omega), by omega⟩) | (refine Nat.le_trans (Nat.mul_le_mul_left _ (Nat.le_of_ble_eq_true (rfl : Nat.ble _ 1024 = true))) ?_; omega) | (unfold inI64; omega) | (constructor <;> omega) | (simp only [inI64, List.length_cons, List.length_append, List.length_nil, List.length_set] at *; omega) | decide | (unfold inI64; decide)); conv => whnf)
      | omega | decide | assumption)
    refine .ret _ ?_
    conv => whnf
    refine ⟨[], ⟨congrArg SV.tup ?_, rfl⟩, trivial⟩
    repeat' (refine cons_eq ?_ ?_)
    all_goals (conv => lhs; whnf)
    all_goals try (with_reducible rfl)
    all_goals rfl
  · rw [if_neg hz]
    generalize twoE p r a b = e at h145 hz
    refine spec_of hT (C := []) Tryz.func10 rfl Tryz.call10 rfl rfl rfl ?_
    conv => whnf
    repeat' (first
      | (refine CallX.exact (h145) rfl rfl ?_; rotate_right; conv => whnf)
      | (refine br_intro (fun hb => ?_) (fun hb => ?_) <;> (try simp only [decide_eq_true_eq, decide_eq_false_iff_not, Bool.not_eq_true', Bool.not_eq_false', Bool.and_eq_true, Bool.or_eq_true, beq_iff_eq, not_and, Int.not_le, Int.not_lt, Int.toNat_natCast, beq_eq_false_iff_ne, ne_eq, eq_self, not_true_eq_false, not_false_eq_true] at hb) <;> (conv => whnf))
      | omega
      | (refine And.intro ?_ ?_; ((try dsimp only); first | omega | (refine ⟨by omega, by omega, Int.le_trans (Int.mul_le_mul_of_nonneg_right (Int.ofNat_le.2 (Nat.le_of_ble_eq_true (rfl : Nat.ble _ 1024 = true))) (by omega)) (by omega), by omega⟩) | (refine Nat.le_trans (Nat.mul_le_mul_left _ (Nat.le_of_ble_eq_true (rfl : Nat.ble _ 1024 = true))) ?_; omega) | (unfold inI64; omega) | (constructor <;> omega) | (simp only [inI64, List.length_cons, List.length_append, List.length_nil, List.length_set] at *; omega) | decide | (unfold inI64; decide)); conv => whnf)
      | omega | decide | assumption)
    refine .ret _ ?_
    conv => whnf
    refine ⟨[], ⟨congrArg SV.tup ?_, rfl⟩, trivial⟩
    repeat' (refine cons_eq ?_ ?_)
    all_goals (conv => lhs; whnf)
    all_goals try (with_reducible rfl)
    all_goals rfl
-- MarksMatch
end Go.Proofs.YtnchgjpdggembaaGreat
set_option maxRecDepth 20000
namespace Go.Proofs.YtnchgjpdggembaaGreat
open Go Go.Eng
def numL (p : Nat → Bool) (n : Nat) : List Int := toI ((List.range n).filter p)
theorem numL_succ (p : Nat → Bool) (n : Nat) : numL p (n + 1) = if p n = true then numL p n ++ [(n : Int)] else numL p n := by
  unfold numL
  rw [List.range_succ, List.filter_append]
  by_cases h : p n = true
  · rw [if_pos h, List.filter_cons_of_pos h, toI]; simp [toI]
  · rw [if_neg h, List.filter_cons_of_neg h]; simp
theorem numL_len (p : Nat → Bool) (n : Nat) : (numL p n).length ≤ n := by
  unfold numL; rw [toI_len]; exact Nat.le_trans (List.length_filter_le _ _) (by simp)
def newB (m : List Prg) (k : Nat) : Bool := !(m.any fun x => x.b == (k : Int))
def bigB (r : Rul) (a b : List Mrk) (k : Nat) (x : Prg) : Bool := decide (r.slack < (b.getD k mk0).size - (a.getD x.a.toNat mk0).size)
def growB (r : Rul) (a b : List Mrk) (m : List Prg) (k : Nat) : Bool := m.any fun x => x.b == (k : Int) && bigB r a b k x
end Go.Proofs.YtnchgjpdggembaaGreat
set_option maxRecDepth 20000
namespace Go.Proofs.YtnchgjpdggembaaGreat
open Go Go.Eng
theorem SV.le_takeP {α : Type} {f : α → List DV} {d : α} {l : List α} {k n m : Nat} {h : Nat → List DV} (hn : n = m) (hm : m ≤ l.length) (hg : ∀ i, i < m → h i = rowF f d l i) :
    SV.le (.d (.ro k n h)) (.d (seqD k f d (l.take m))) :=
  SV.le_ro (by rw [List.length_take]; omega) (fun i hi => by
    rw [hg i (by omega)]
    simp only [rowF]
    rw [List.getD_eq_getElem?_getD, List.getD_eq_getElem?_getD, List.getElem?_take_of_lt (by omega)])
def hadB (m : List Prg) (i : Nat) : Bool := (m.take i).any fun x => x.b == (m.getD i pr0).b
def prE1 (r : Rul) (a b : List Mrk) (m : List Prg) (i : Nat) : Int :=
  if ¬ ((0 ≤ (m.getD i pr0).a ∧ (m.getD i pr0).a ≤ (a.length : Int) - 1) ∧ (0 ≤ (m.getD i pr0).b ∧ (m.getD i pr0).b ≤ (b.length : Int) - 1)) then 8
  else if 0 < i ∧ (m.getD i pr0).a ≤ (m.getD (i - 1) pr0).a then 7
  else if hadB m i = true then 6
  else if canB r (a.getD (m.getD i pr0).a.toNat mk0) (b.getD (m.getD i pr0).b.toNat mk0) = false then 16 else 0
def prsE (r : Rul) (a b : List Mrk) (m : List Prg) : Int := firstAt (prE1 r a b m) m.length
def apN (a b : List Mrk) (m : List Prg) : Nat → Int
  | 0 => 0
  | i + 1 => apN a b m i + distM (a.getD (m.getD i pr0).a.toNat mk0) (b.getD (m.getD i pr0).b.toNat mk0)
abbrev mB (a : List Mrk) : Prop := a.length ≤ 60 ∧ ∀ i, i < a.length → mBd (a.getD i mk0)
theorem dist_bd {a b : Mrk} (ha : mBd a) (hb : mBd b) : 0 ≤ distM a b ∧ distM a b ≤ 50000000 := by
  unfold mBd at ha hb
  exact distM_bd ⟨ha.1, ha.2.1, ha.2.2.1, ha.2.2.2.1⟩ ⟨hb.1, hb.2.1, hb.2.2.1, hb.2.2.2.1⟩
-- PairingsFault
-- ApartOf
def apE (p : List Pnl) (r : Rul) (a b : List Mrk) (m : List Prg) : Int := if twoE p r a b ≠ 0 then twoE p r a b else prsE r a b m
-- mark.Apart
set_option maxHeartbeats 1000000 in
theorem z50 (p : List Pnl) (r : Rul) (a b : List Mrk) (m : List Prg) (hp : pnOk p) (hka : mkOk a) (hkb : mkOk b) (hml : m.length ≤ 2^20) : FSpec Tryz.prog 19 [.d (pnls p), .agg ((ruF r).map .d), .d (mrks a), .d (mrks b), .d (prgs m)] [] (fun x r' => x = .tup [.d (.int .i64 (if apE p r a b m = 0 then apN a b m m.length else 0)), .d (.int .i64 (apE p r a b m))] ∧ r' = []) := by
  have h145 := z145 p r a b hp hka hkb
  by_cases hz : twoE p r a b = 0
  · rw [hz] at h145
    obtain ⟨q1, q2, q3, q4⟩ := twoE_zero hz
    have hr := rulE_bd q1
    have ha : mB a := onPE_mBd q3
    have hb2 : mB b := onPE_mBd q4
    have ha1 := ha.1
    have hb1 := hb2.1
    have hE : apE p r a b m = prsE r a b m := by unfold apE; rw [if_neg (by omega)]
    rw [hE]
    refine spec_of hT (C := []) Tryz.func19 rfl Tryz.call19 rfl rfl rfl ?_
    conv => whnf
    repeat' (first
      | (refine CallX.exact (h145) rfl rfl ?_; rotate_right; conv => whnf)
      | (refine br_intro (fun hb => ?_) (fun hb => ?_) <;> (try simp only [decide_eq_true_eq, decide_eq_false_iff_not, Bool.not_eq_true', Bool.not_eq_false', Bool.and_eq_true, Bool.or_eq_true, beq_iff_eq, not_and, Int.not_le, Int.not_lt, Int.toNat_natCast, beq_eq_false_iff_ne, ne_eq, eq_self, not_true_eq_false, not_false_eq_true] at hb) <;> (conv => whnf))
      | (refine RegX.rule (id := 10) hT rfl [] [(0, []), (1, []), (2, []), (3, []), (4, []), (5, [3, 4]), (6, [3, 4, 5]), (7, [3, 4, 5]), (8, [3, 4]), (9, [3, 4]), (10, [3, 4]), (11, []), (12, []), (13, [])] (by decide +kernel) ?_; conv => whnf)
      | (refine RegX.rule (id := 14) hT rfl [] [(0, []), (1, [0]), (2, [0, 1]), (3, [0, 1]), (4, [0]), (5, [0]), (6, [0, 1, 2, 3, 4, 5]), (7, [0, 1, 2, 3, 4, 5, 6]), (8, [0, 1, 2, 3, 4, 5, 6]), (9, [0, 1, 2, 3, 4, 5]), (10, [0, 1, 2, 3, 4, 5]), (11, []), (12, []), (13, [])] (by decide +kernel) ?_; conv => whnf)
      | (refine RegX.rule (id := 16) hT rfl [] [(0, []), (1, [0]), (2, [0, 1]), (3, [0, 1]), (4, [0]), (5, [0]), (6, [0, 1, 2, 3, 4, 5]), (7, [0, 1, 2, 3, 4, 5, 6]), (8, [0, 1, 2, 3, 4, 5, 6]), (9, [0, 1, 2, 3, 4, 5]), (10, [0, 1, 2, 3, 4, 5]), (11, [0]), (12, []), (13, [])] (by decide +kernel) ?_; conv => whnf)
      | omega
      | (refine And.intro ?_ ?_; ((try dsimp only); first | omega | (refine ⟨by omega, by omega, Int.le_trans (Int.mul_le_mul_of_nonneg_right (Int.ofNat_le.2 (Nat.le_of_ble_eq_true (rfl : Nat.ble _ 1024 = true))) (by omega)) (by omega), by omega⟩) | (refine Nat.le_trans (Nat.mul_le_mul_left _ (Nat.le_of_ble_eq_true (rfl : Nat.ble _ 1024 = true))) ?_; omega) | (unfold inI64; omega) | (constructor <;> omega) | (simp only [inI64, List.length_cons, List.length_append, List.length_nil, List.length_set] at *; omega) | decide | (unfold inI64; decide)); conv => whnf)
      | omega | decide | assumption)
    refine LoopX.rule hT (C := []) (ι := Nat) (fun i => (i ≤ m.length ∧ ∀ j, j < i → prE1 r a b m j = 0) ∧ (0 ≤ apN a b m i ∧ apN a b m i ≤ 50000000 * i)) (fun i => mkSt [(2, .d (mrks a)), (3, .d (mrks b)), (4, .d (prgs m)), (6, .ptr 6 0), (13, .d (.int .i64 (apN a b m i))), (24, .d (prgs m)), (25, .d (.int .i64 m.length)), (26, .d (.int .i64 i))] [(6, .cells 29 ((ruF r).map .d))]) (fun i => m.length - i) 0 ⟨⟨by omega, by omega⟩, by simp [apN]⟩ (by (refine Entails.mk' [(6, 6)] rfl rfl ?_ ?_ <;> repeat' (first | exact True.intro | exact SV.le_refl _ | exact Res.le_refl _ | exact SV.le_int (by omega) | exact SV.le_any _ | refine And.intro ?_ ?_)); done) ?_
    rintro i ⟨⟨p1, p2⟩, p3⟩
    have e1 : (i : Int).toNat = i := Int.toNat_natCast i
    have hqa : (m.getD (i : Int).toNat pr0).a = (m.getD i pr0).a := rfl
    have hqb : (m.getD (i : Int).toNat pr0).b = (m.getD i pr0).b := rfl
    have hbad : ∀ e : Int, i < m.length → e ≠ 0 → prE1 r a b m i = e → prsE r a b m = e := fun e h h1 h2 => firstAt_eq h p2 h1 h2
    have h146 := z146p (m.getD (i : Int).toNat pr0) 41 (m.take i) (by rw [List.length_take]; omega) (fun x => x.b == (m.getD (i : Int).toNat pr0).b) (fun x _ => z147 x _)
    rw [show (m.take i).any (fun x => x.b == (m.getD (i : Int).toNat pr0).b) = hadB m i from rfl] at h146
    have h148 := fun (h1 : 0 ≤ (m.getD i pr0).a ∧ (m.getD i pr0).a < (a.length : Int)) (h2 : 0 ≤ (m.getD i pr0).b ∧ (m.getD i pr0).b < (b.length : Int)) => z148 r (a.getD (m.getD i pr0).a.toNat mk0) (b.getD (m.getD i pr0).b.toNat mk0) hr (ha.2 _ (by omega)) (hb2.2 _ (by omega))
    have h149 := fun (h1 : 0 ≤ (m.getD i pr0).a ∧ (m.getD i pr0).a < (a.length : Int)) (h2 : 0 ≤ (m.getD i pr0).b ∧ (m.getD i pr0).b < (b.length : Int)) => z149 (a.getD (m.getD i pr0).a.toNat mk0) (b.getD (m.getD i pr0).b.toNat mk0) (ha.2 _ (by omega)) (hb2.2 _ (by omega))
    have hd := fun (h1 : 0 ≤ (m.getD i pr0).a ∧ (m.getD i pr0).a < (a.length : Int)) (h2 : 0 ≤ (m.getD i pr0).b ∧ (m.getD i pr0).b < (b.length : Int)) => dist_bd (ha.2 (m.getD i pr0).a.toNat (by omega)) (hb2.2 (m.getD i pr0).b.toNat (by omega))
    have hs : apN a b m (i + 1) = apN a b m i + distM (a.getD (m.getD i pr0).a.toNat mk0) (b.getD (m.getD i pr0).b.toNat mk0) := rfl
    conv => whnf
    repeat' (first
      | (refine CallX.exact (s119 _ _ _) rfl rfl ?_; rotate_right; conv => whnf)
      | (refine CallX.of h146 [(1000001, 15)] rfl ⟨SV.le_takeP (m := i) (by omega) (by omega) (fun j hj => by rw [show Int.toNat 0 + j = j by simp]), SV.le_refl _, trivial⟩ ⟨Res.le_refl _, trivial⟩ rfl rfl ?_; rintro x rout ⟨rfl, rfl⟩; refine ⟨rfl, ?_⟩; conv => whnf)
      | (refine CallX.exact (h148 (by omega) (by omega)) rfl rfl ?_; rotate_right; conv => whnf)
      | (refine CallX.exact (h149 (by omega) (by omega)) rfl rfl ?_; rotate_right; conv => whnf)
      | (refine And.intro (by have := hd (by omega) (by omega); unfold inI64; omega) ?_; conv => whnf)
      | (refine br_intro (fun hb => ?_) (fun hb => ?_) <;> (try simp only [decide_eq_true_eq, decide_eq_false_iff_not, Bool.not_eq_true', Bool.not_eq_false', Bool.and_eq_true, Bool.or_eq_true, beq_iff_eq, not_and, Int.not_le, Int.not_lt, Int.toNat_natCast, beq_eq_false_iff_ne, ne_eq, eq_self, not_true_eq_false, not_false_eq_true] at hb) <;> (conv => whnf))
      | (refine RegX.rule (id := 10) hT rfl [] [(0, []), (1, []), (2, []), (3, []), (4, []), (5, [3, 4]), (6, [3, 4, 5]), (7, [3, 4, 5]), (8, [3, 4]), (9, [3, 4]), (10, [3, 4]), (11, []), (12, []), (13, [])] (by decide +kernel) ?_; conv => whnf)
      | (refine RegX.rule (id := 14) hT rfl [] [(0, []), (1, [0]), (2, [0, 1]), (3, [0, 1]), (4, [0]), (5, [0]), (6, [0, 1, 2, 3, 4, 5]), (7, [0, 1, 2, 3, 4, 5, 6]), (8, [0, 1, 2, 3, 4, 5, 6]), (9, [0, 1, 2, 3, 4, 5]), (10, [0, 1, 2, 3, 4, 5]), (11, []), (12, []), (13, [])] (by decide +kernel) ?_; conv => whnf)
      | (refine RegX.rule (id := 16) hT rfl [] [(0, []), (1, [0]), (2, [0, 1]), (3, [0, 1]), (4, [0]), (5, [0]), (6, [0, 1, 2, 3, 4, 5]), (7, [0, 1, 2, 3, 4, 5, 6]), (8, [0, 1, 2, 3, 4, 5, 6]), (9, [0, 1, 2, 3, 4, 5]), (10, [0, 1, 2, 3, 4, 5]), (11, [0]), (12, []), (13, [])] (by decide +kernel) ?_; conv => whnf)
      | omega
      | (refine And.intro ?_ ?_; ((try dsimp only); first | omega | (refine ⟨by omega, by omega, Int.le_trans (Int.mul_le_mul_of_nonneg_right (Int.ofNat_le.2 (Nat.le_of_ble_eq_true (rfl : Nat.ble _ 1024 = true))) (by omega)) (by omega), by omega⟩) | (refine Nat.le_trans (Nat.mul_le_mul_left _ (Nat.le_of_ble_eq_true (rfl : Nat.ble _ 1024 = true))) ?_; omega) | (unfold inI64; omega) | (constructor <;> omega) | (simp only [inI64, List.length_cons, List.length_append, List.length_nil, List.length_set] at *; omega) | decide | (unfold inI64; decide)); conv => whnf)
      | omega | decide | assumption)
    all_goals first
      | (refine ⟨i + 1, ⟨⟨by omega, first_step p2 (by clear p2 hbad h146 h148 h149 hd ha hb2 hr; simp only [e1, toNat_pred] at *; unfold prE1; grind)⟩, by (rw [hs]; have := hd (by omega) (by omega); omega)⟩, by omega, Entails.mk' [(6, 6)] rfl rfl ⟨SV.le_refl _, SV.le_refl _, SV.le_refl _, SV.le_refl _, SV.le_refl _, SV.le_refl _, SV.le_refl _, SV.le_refl _, trivial⟩ ⟨Res.le_refl _, trivial⟩⟩)
      | (have : i = m.length := by omega
         subst this
         have hq : prsE r a b m = 0 := by unfold prsE; rw [firstAt_zero p2]
         rw [hq, if_pos rfl]
         refine .ret _ ?_
         conv => whnf
         exact ⟨[], ⟨rfl, rfl⟩, trivial⟩)
      | (have hq : prsE r a b m = 8 := hbad _ (by omega) (by decide) (by clear p2 hbad h146 h148 h149 hd ha hb2 hr; simp only [e1, toNat_pred] at *; unfold prE1; grind)
         rw [hq]
         refine .ret _ ?_
         conv => whnf
         exact ⟨[], ⟨rfl, rfl⟩, trivial⟩)
      | (have hq : prsE r a b m = 7 := hbad _ (by omega) (by decide) (by clear p2 hbad h146 h148 h149 hd ha hb2 hr; simp only [e1, toNat_pred] at *; unfold prE1; grind)
         rw [hq]
         refine .ret _ ?_
         conv => whnf
         exact ⟨[], ⟨rfl, rfl⟩, trivial⟩)
      | (have hq : prsE r a b m = 6 := hbad _ (by omega) (by decide) (by clear p2 hbad h146 h148 h149 hd ha hb2 hr; simp only [e1, toNat_pred] at *; unfold prE1; grind)
         rw [hq]
         refine .ret _ ?_
         conv => whnf
         exact ⟨[], ⟨rfl, rfl⟩, trivial⟩)
      | (have hq : prsE r a b m = 16 := hbad _ (by omega) (by decide) (by clear p2 hbad h146 h148 h149 hd ha hb2 hr; simp only [e1, toNat_pred] at *; unfold prE1; grind)
         rw [hq]
         refine .ret _ ?_
         conv => whnf
         exact ⟨[], ⟨rfl, rfl⟩, trivial⟩)
  · have hE : apE p r a b m = twoE p r a b := by unfold apE; rw [if_pos hz]
    rw [hE, if_neg hz]
    generalize twoE p r a b = e at h145 hz
    refine spec_of hT (C := []) Tryz.func19 rfl Tryz.call19 rfl rfl rfl ?_
    conv => whnf
    repeat' (first
      | (refine CallX.exact (h145) rfl rfl ?_; rotate_right; conv => whnf)
      | (refine br_intro (fun hb => ?_) (fun hb => ?_) <;> (try simp only [decide_eq_true_eq, decide_eq_false_iff_not, Bool.not_eq_true', Bool.not_eq_false', Bool.and_eq_true, Bool.or_eq_true, beq_iff_eq, not_and, Int.not_le, Int.not_lt, Int.toNat_natCast, beq_eq_false_iff_ne, ne_eq, eq_self, not_true_eq_false, not_false_eq_true] at hb) <;> (conv => whnf))
      | (refine RegX.rule (id := 10) hT rfl [] [(0, []), (1, []), (2, []), (3, []), (4, []), (5, [3, 4]), (6, [3, 4, 5]), (7, [3, 4, 5]), (8, [3, 4]), (9, [3, 4]), (10, [3, 4]), (11, []), (12, []), (13, [])] (by decide +kernel) ?_; conv => whnf)
      | (refine RegX.rule (id := 14) hT rfl [] [(0, []), (1, [0]), (2, [0, 1]), (3, [0, 1]), (4, [0]), (5, [0]), (6, [0, 1, 2, 3, 4, 5]), (7, [0, 1, 2, 3, 4, 5, 6]), (8, [0, 1, 2, 3, 4, 5, 6]), (9, [0, 1, 2, 3, 4, 5]), (10, [0, 1, 2, 3, 4, 5]), (11, []), (12, []), (13, [])] (by decide +kernel) ?_; conv => whnf)
      | (refine RegX.rule (id := 16) hT rfl [] [(0, []), (1, [0]), (2, [0, 1]), (3, [0, 1]), (4, [0]), (5, [0]), (6, [0, 1, 2, 3, 4, 5]), (7, [0, 1, 2, 3, 4, 5, 6]), (8, [0, 1, 2, 3, 4, 5, 6]), (9, [0, 1, 2, 3, 4, 5]), (10, [0, 1, 2, 3, 4, 5]), (11, [0]), (12, []), (13, [])] (by decide +kernel) ?_; conv => whnf)
      | omega
      | (refine And.intro ?_ ?_; ((try dsimp only); first | omega | (refine ⟨by omega, by omega, Int.le_trans (Int.mul_le_mul_of_nonneg_right (Int.ofNat_le.2 (Nat.le_of_ble_eq_true (rfl : Nat.ble _ 1024 = true))) (by omega)) (by omega), by omega⟩) | (refine Nat.le_trans (Nat.mul_le_mul_left _ (Nat.le_of_ble_eq_true (rfl : Nat.ble _ 1024 = true))) ?_; omega) | (unfold inI64; omega) | (constructor <;> omega) | (simp only [inI64, List.length_cons, List.length_append, List.length_nil, List.length_set] at *; omega) | decide | (unfold inI64; decide)); conv => whnf)
      | omega | decide | assumption)
    refine .ret _ ?_
    conv => whnf
    refine ⟨[], ⟨congrArg SV.tup ?_, rfl⟩, trivial⟩
    repeat' (refine cons_eq ?_ ?_)
    all_goals (conv => lhs; whnf)
    all_goals try (with_reducible rfl)
    all_goals rfl
end Go.Proofs.YtnchgjpdggembaaGreat
set_option maxRecDepth 20000
namespace Go.Proofs.YtnchgjpdggembaaGreat
open Go Go.Eng
abbrev mscell (l : List Mrk) : Res := .cells 31 [.d (mrks l)]
abbrev rucell (r : Rul) : Res := .cells 29 ((ruF r).map .d)
abbrev prcell (m : List Prg) : Res := .cells 35 [.d (prgs m)]
-- slices.IndexFunc of pairings
theorem z159q (r : Rul) (a b : List Mrk) (k : Int) (g : FuncId) (l : List Prg) (hl : l.length ≤ 2^40) (p : Prg → Bool)
    (hg : ∀ x, x ∈ l → FSpec Tryz.prog g [.agg ((prF x).map .d), .ptr 1000001 0, .ptr 1000002 0, .ptr 1000003 0, .ptr 1000004 0] [(1000001, icelm k), (1000002, mscell b), (1000003, mscell a), (1000004, rucell r)] (fun y ro => y = .d (.bool (p x)) ∧ ro = [(1000001, icelm k), (1000002, mscell b), (1000003, mscell a), (1000004, rucell r)])) :
    FSpec Tryz.prog 37 [.d (prgs l), .fn g [.ptr 1000001 0, .ptr 1000002 0, .ptr 1000003 0, .ptr 1000004 0]] [(1000001, icelm k), (1000002, mscell b), (1000003, mscell a), (1000004, rucell r)] (fun y ro => y = .d (.int .i64 (pIx p l)) ∧ ro = [(1000001, icelm k), (1000002, mscell b), (1000003, mscell a), (1000004, rucell r)]) := by
  refine spec_of hT (C := []) Tryz.func37 rfl Tryz.call37 rfl rfl rfl ?_
  conv => whnf
  refine LoopX.rule hT (C := []) (ι := Nat) (fun i => i ≤ l.length ∧ ∀ j, j < i → p (l.getD j pr0) = false) (fun i => mkSt [(0, .d (prgs l)), (1, .fn g [.ptr 1000001 0, .ptr 1000002 0, .ptr 1000003 0, .ptr 1000004 0]), (7, .d (.int .i64 l.length)), (8, .d (.int .i64 i))] [(1000001, icelm k), (1000002, mscell b), (1000003, mscell a), (1000004, rucell r)]) (fun i => l.length - i) 0 ⟨by omega, by omega⟩ (by (refine Entails.mk' [(1000001, 1000001), (1000002, 1000002), (1000003, 1000003), (1000004, 1000004)] rfl rfl ?_ ?_ <;> repeat' (first | exact True.intro | exact SV.le_refl _ | exact Res.le_refl _ | exact SV.le_int (by omega) | exact SV.le_any _ | refine And.intro ?_ ?_)); done) ?_
  rintro i ⟨p1, p2⟩
  have e1 : (i : Int).toNat = i := Int.toNat_natCast i
  conv => whnf
  repeat' (first
    | (refine CallX.of (hg (l.getD i pr0) (getD_mem (by omega))) [(1000001, 1000001), (1000002, 1000002), (1000003, 1000003), (1000004, 1000004)] rfl ⟨SV.le_refl _, SV.le_refl _, SV.le_refl _, SV.le_refl _, SV.le_refl _, trivial⟩ ⟨Res.le_refl _, Res.le_refl _, Res.le_refl _, Res.le_refl _, trivial⟩ rfl rfl ?_; rintro x rout ⟨rfl, rfl⟩; refine ⟨rfl, ?_⟩; conv => whnf)
    | (refine br_intro (fun hb => ?_) (fun hb => ?_) <;> (try simp only [decide_eq_true_eq, decide_eq_false_iff_not, Bool.not_eq_true', Bool.not_eq_false', Bool.and_eq_true, Bool.or_eq_true, beq_iff_eq, not_and, Int.not_le, Int.not_lt, Int.toNat_natCast, beq_eq_false_iff_ne, ne_eq, eq_self, not_true_eq_false, not_false_eq_true] at hb) <;> (conv => whnf))
    | omega
    | (refine And.intro ?_ ?_; ((try dsimp only); first | omega | (refine ⟨by omega, by omega, Int.le_trans (Int.mul_le_mul_of_nonneg_right (Int.ofNat_le.2 (Nat.le_of_ble_eq_true (rfl : Nat.ble _ 1024 = true))) (by omega)) (by omega), by omega⟩) | (refine Nat.le_trans (Nat.mul_le_mul_left _ (Nat.le_of_ble_eq_true (rfl : Nat.ble _ 1024 = true))) ?_; omega) | (unfold inI64; omega) | (constructor <;> omega) | (simp only [inI64, List.length_cons, List.length_append, List.length_nil, List.length_set] at *; omega) | decide | (unfold inI64; decide)); conv => whnf)
    | omega | decide | assumption)
  · refine .ret _ ?_
    conv => whnf
    refine ⟨[(1000001, icelm k), (1000002, mscell b), (1000003, mscell a), (1000004, rucell r)], ⟨?_, rfl⟩, Res.le_refl _, Res.le_refl _, Res.le_refl _, Res.le_refl _, trivial⟩
    conv => lhs; whnf
    congr 2
    exact (ixF_hit (by omega) p2 (by simpa using hb)).symm
  · exact ⟨i + 1, ⟨by omega, all_step p2 (by simpa using hb)⟩, by omega, (by (refine Entails.mk' [(1000001, 1000001), (1000002, 1000002), (1000003, 1000003), (1000004, 1000004)] rfl rfl ?_ ?_ <;> repeat' (first | exact True.intro | exact SV.le_refl _ | exact Res.le_refl _ | exact SV.le_int (by omega) | exact SV.le_any _ | refine And.intro ?_ ?_)); done)⟩
  · refine .ret _ ?_
    conv => whnf
    refine ⟨[(1000001, icelm k), (1000002, mscell b), (1000003, mscell a), (1000004, rucell r)], ⟨?_, rfl⟩, Res.le_refl _, Res.le_refl _, Res.le_refl _, Res.le_refl _, trivial⟩
    conv => lhs; whnf
    congr 2
    have : i = l.length := by omega
    subst this
    exact (ixF_none p2).symm
-- slices.ContainsFunc of pairings
theorem z146q (r : Rul) (a b : List Mrk) (k : Int) (g : FuncId) (l : List Prg) (hl : l.length ≤ 2^40) (p : Prg → Bool)
    (hg : ∀ x, x ∈ l → FSpec Tryz.prog g [.agg ((prF x).map .d), .ptr 1000001 0, .ptr 1000002 0, .ptr 1000003 0, .ptr 1000004 0] [(1000001, icelm k), (1000002, mscell b), (1000003, mscell a), (1000004, rucell r)] (fun y ro => y = .d (.bool (p x)) ∧ ro = [(1000001, icelm k), (1000002, mscell b), (1000003, mscell a), (1000004, rucell r)])) :
    FSpec Tryz.prog 14 [.d (prgs l), .fn g [.ptr 1000001 0, .ptr 1000002 0, .ptr 1000003 0, .ptr 1000004 0]] [(1000001, icelm k), (1000002, mscell b), (1000003, mscell a), (1000004, rucell r)] (fun y ro => y = .d (.bool (l.any p)) ∧ ro = [(1000001, icelm k), (1000002, mscell b), (1000003, mscell a), (1000004, rucell r)]) := by
  refine spec_of hT (C := []) Tryz.func14 rfl Tryz.call14 rfl rfl rfl ?_
  conv => whnf
  repeat' (first
    | (refine CallX.of (z159q r a b k g l hl p hg) [(1000001, 1000001), (1000002, 1000002), (1000003, 1000003), (1000004, 1000004)] rfl ⟨SV.le_refl _, SV.le_refl _, trivial⟩ ⟨Res.le_refl _, Res.le_refl _, Res.le_refl _, Res.le_refl _, trivial⟩ rfl rfl ?_; rintro x rout ⟨rfl, rfl⟩; refine ⟨rfl, ?_⟩; conv => whnf)
    | (refine br_intro (fun hb => ?_) (fun hb => ?_) <;> (try simp only [decide_eq_true_eq, decide_eq_false_iff_not, Bool.not_eq_true', Bool.not_eq_false', Bool.and_eq_true, Bool.or_eq_true, beq_iff_eq, not_and, Int.not_le, Int.not_lt, Int.toNat_natCast, beq_eq_false_iff_ne, ne_eq, eq_self, not_true_eq_false, not_false_eq_true] at hb) <;> (conv => whnf))
    | omega
    | (refine And.intro ?_ ?_; ((try dsimp only); first | omega | (refine ⟨by omega, by omega, Int.le_trans (Int.mul_le_mul_of_nonneg_right (Int.ofNat_le.2 (Nat.le_of_ble_eq_true (rfl : Nat.ble _ 1024 = true))) (by omega)) (by omega), by omega⟩) | (refine Nat.le_trans (Nat.mul_le_mul_left _ (Nat.le_of_ble_eq_true (rfl : Nat.ble _ 1024 = true))) ?_; omega) | (unfold inI64; omega) | (constructor <;> omega) | (simp only [inI64, List.length_cons, List.length_append, List.length_nil, List.length_set] at *; omega) | decide | (unfold inI64; decide)); conv => whnf)
    | omega | decide | assumption)
  refine .ret _ ?_
  conv => whnf
  refine ⟨[(1000001, icelm k), (1000002, mscell b), (1000003, mscell a), (1000004, rucell r)], ⟨?_, rfl⟩, Res.le_refl _, Res.le_refl _, Res.le_refl _, Res.le_refl _, trivial⟩
  conv => lhs; whnf
  rw [← pIx_any]
-- mark.Grown$1$1
theorem z178 (r : Rul) (a b : List Mrk) (hr : rBd r) (ha : mB a) (hb2 : mB b) (k : Nat) (hk : k < b.length) (x : Prg) (hx : 0 ≤ x.a ∧ x.a < (a.length : Int)) : FSpec Tryz.prog 50 [.agg ((prF x).map .d), .ptr 1000001 0, .ptr 1000002 0, .ptr 1000003 0, .ptr 1000004 0] [(1000001, icelm k), (1000002, mscell b), (1000003, mscell a), (1000004, rucell r)] (fun y r' => y = .d (.bool (x.b == (k : Int) && bigB r a b k x)) ∧ r' = [(1000001, icelm k), (1000002, mscell b), (1000003, mscell a), (1000004, rucell r)]) := by
  have h1 : mBd (a.getD x.a.toNat mk0) := ha.2 _ (by omega)
  have h2 : mBd (b.getD (k : Int).toNat mk0) := hb2.2 _ (by omega)
  unfold mBd at h1 h2
  refine spec_of hT (C := []) Tryz.func50 rfl Tryz.call50 rfl rfl rfl ?_
  conv => whnf
  repeat' (first
    | (refine br_intro (fun hb => ?_) (fun hb => ?_) <;> (try simp only [decide_eq_true_eq, decide_eq_false_iff_not, Bool.not_eq_true', Bool.not_eq_false', Bool.and_eq_true, Bool.or_eq_true, beq_iff_eq, not_and, Int.not_le, Int.not_lt, Int.toNat_natCast, beq_eq_false_iff_ne, ne_eq, eq_self, not_true_eq_false, not_false_eq_true] at hb) <;> (conv => whnf))
    | (refine RegX.rule (id := 1) hT rfl [] [(0, []), (1, []), (2, [0, 1]), (3, []), (4, []), (5, []), (6, [5]), (7, []), (8, []), (9, []), (10, [5, 6, 7, 8, 9]), (11, [5, 6, 7, 8, 9, 10]), (12, [5, 6, 7, 8, 9, 10]), (13, [5, 6, 7, 8, 9]), (14, [5, 6, 7, 8, 9]), (15, [5, 6, 7, 8, 9]), (16, []), (17, [5, 6, 7, 8, 9, 10, 11, 12, 13, 14, 15, 16]), (18, [5, 6, 7, 8, 9, 10, 11, 12, 13, 14, 15, 16]), (19, []), (20, []), (21, [])] (by decide +kernel) ?_; conv => whnf)
    | omega
    | (refine And.intro ?_ ?_; ((try dsimp only); first | omega | (refine ⟨by omega, by omega, Int.le_trans (Int.mul_le_mul_of_nonneg_right (Int.ofNat_le.2 (Nat.le_of_ble_eq_true (rfl : Nat.ble _ 1024 = true))) (by omega)) (by omega), by omega⟩) | (refine Nat.le_trans (Nat.mul_le_mul_left _ (Nat.le_of_ble_eq_true (rfl : Nat.ble _ 1024 = true))) ?_; omega) | (unfold inI64; omega) | (constructor <;> omega) | (simp only [inI64, List.length_cons, List.length_append, List.length_nil, List.length_set] at *; omega) | decide | (unfold inI64; decide)); conv => whnf)
    | omega | decide | assumption)
  all_goals
    refine .ret _ ?_
    conv => whnf
    refine ⟨[(1000001, icelm k), (1000002, mscell b), (1000003, mscell a), (1000004, rucell r)], ⟨?_, rfl⟩, Res.le_refl _, Res.le_refl _, Res.le_refl _, Res.le_refl _, trivial⟩
    conv => lhs; whnf
    congr 2
    first
      | (rw [show (x.b == (k : Int)) = true from by simpa using hb]; rfl)
      | (rw [show (x.b == (k : Int)) = false from by simpa using hb]; rfl)
-- mark.Grown$1
theorem z177 (r : Rul) (a b : List Mrk) (hr : rBd r) (ha : mB a) (hb2 : mB b) (m : List Prg) (hm : m.length ≤ 2^40) (hx : ∀ x ∈ m, 0 ≤ x.a ∧ x.a < (a.length : Int)) (k : Nat) (hk : k < b.length) : FSpec Tryz.prog 49 [.d (.int .i64 k), .ptr 1000001 0, .ptr 1000002 0, .ptr 1000003 0, .ptr 1000004 0] [(1000001, prcell m), (1000002, mscell b), (1000003, mscell a), (1000004, rucell r)] (fun y r' => y = .d (.bool (growB r a b m k)) ∧ r' = [(1000001, prcell m), (1000002, mscell b), (1000003, mscell a), (1000004, rucell r)]) := by
  have h146 := z146q r a b k 50 m hm (fun x => x.b == (k : Int) && bigB r a b k x) (fun x h => z178 r a b hr ha hb2 k hk x (hx x h))
  refine spec_of hT (C := []) Tryz.func49 rfl Tryz.call49 rfl rfl rfl ?_
  conv => whnf
  repeat' (first
    | (refine CallX.of h146 [(1000001, 5), (1000002, 1000002), (1000003, 1000003), (1000004, 1000004)] rfl ⟨SV.le_refl _, SV.le_refl _, trivial⟩ ⟨Res.le_refl _, Res.le_refl _, Res.le_refl _, Res.le_refl _, trivial⟩ rfl rfl ?_; rintro x rout ⟨rfl, rfl⟩; refine ⟨rfl, ?_⟩; conv => whnf)
    | (refine br_intro (fun hb => ?_) (fun hb => ?_) <;> (try simp only [decide_eq_true_eq, decide_eq_false_iff_not, Bool.not_eq_true', Bool.not_eq_false', Bool.and_eq_true, Bool.or_eq_true, beq_iff_eq, not_and, Int.not_le, Int.not_lt, Int.toNat_natCast, beq_eq_false_iff_ne, ne_eq, eq_self, not_true_eq_false, not_false_eq_true] at hb) <;> (conv => whnf))
    | omega
    | (refine And.intro ?_ ?_; ((try dsimp only); first | omega | (refine ⟨by omega, by omega, Int.le_trans (Int.mul_le_mul_of_nonneg_right (Int.ofNat_le.2 (Nat.le_of_ble_eq_true (rfl : Nat.ble _ 1024 = true))) (by omega)) (by omega), by omega⟩) | (refine Nat.le_trans (Nat.mul_le_mul_left _ (Nat.le_of_ble_eq_true (rfl : Nat.ble _ 1024 = true))) ?_; omega) | (unfold inI64; omega) | (constructor <;> omega) | (simp only [inI64, List.length_cons, List.length_append, List.length_nil, List.length_set] at *; omega) | decide | (unfold inI64; decide)); conv => whnf)
    | omega | decide | assumption)
  refine .ret _ ?_
  conv => whnf
  exact ⟨[(1000001, prcell m), (1000002, mscell b), (1000003, mscell a), (1000004, rucell r)], ⟨rfl, rfl⟩, Res.le_refl _, Res.le_refl _, Res.le_refl _, Res.le_refl _, trivial⟩
-- mark.News$1
theorem z175 (m : List Prg) (hm : m.length ≤ 2^40) (k : Nat) : FSpec Tryz.prog 45 [.d (.int .i64 k), .ptr 1000001 0] [(1000001, prcell m)] (fun y r' => y = .d (.bool (newB m k)) ∧ r' = [(1000001, prcell m)]) := by
  have h146 := z146i k 46 m hm (fun x => x.b == (k : Int)) (fun x _ => z176 x k)
  refine spec_of hT (C := []) Tryz.func45 rfl Tryz.call45 rfl rfl rfl ?_
  conv => whnf
  repeat' (first
    | (refine CallX.of h146 [(1000001, 2)] rfl ⟨SV.le_refl _, SV.le_refl _, trivial⟩ ⟨Res.le_refl _, trivial⟩ rfl rfl ?_; rintro x rout ⟨rfl, rfl⟩; refine ⟨rfl, ?_⟩; conv => whnf)
    | (refine br_intro (fun hb => ?_) (fun hb => ?_) <;> (try simp only [decide_eq_true_eq, decide_eq_false_iff_not, Bool.not_eq_true', Bool.not_eq_false', Bool.and_eq_true, Bool.or_eq_true, beq_iff_eq, not_and, Int.not_le, Int.not_lt, Int.toNat_natCast, beq_eq_false_iff_ne, ne_eq, eq_self, not_true_eq_false, not_false_eq_true] at hb) <;> (conv => whnf))
    | omega
    | (refine And.intro ?_ ?_; ((try dsimp only); first | omega | (refine ⟨by omega, by omega, Int.le_trans (Int.mul_le_mul_of_nonneg_right (Int.ofNat_le.2 (Nat.le_of_ble_eq_true (rfl : Nat.ble _ 1024 = true))) (by omega)) (by omega), by omega⟩) | (refine Nat.le_trans (Nat.mul_le_mul_left _ (Nat.le_of_ble_eq_true (rfl : Nat.ble _ 1024 = true))) ?_; omega) | (unfold inI64; omega) | (constructor <;> omega) | (simp only [inI64, List.length_cons, List.length_append, List.length_nil, List.length_set] at *; omega) | decide | (unfold inI64; decide)); conv => whnf)
    | omega | decide | assumption)
  refine .ret _ ?_
  conv => whnf
  exact ⟨[(1000001, prcell m)], ⟨rfl, rfl⟩, Res.le_refl _, trivial⟩
-- mark.numbers
theorem z174m (m : List Prg) (g : FuncId) (n : Nat) (hn : n ≤ 2^20) (p : Nat → Bool)
    (hg : ∀ k : Nat, k < n → FSpec Tryz.prog g [.d (.int .i64 k), .ptr 1000001 0] [(1000001, prcell m)] (fun y r' => y = .d (.bool (p k)) ∧ r' = [(1000001, prcell m)])) :
    FSpec Tryz.prog 44 [.d (.int .i64 n), .fn g [.ptr 1000001 0]] [(1000001, prcell m)] (fun y r' => y = .d (ints (numL p n)) ∧ r' = [(1000001, prcell m)]) := by
  refine spec_of hT (C := []) Tryz.func44 rfl Tryz.call44 rfl rfl rfl ?_
  conv => whnf
  refine LoopX.rule hT (C := []) (ι := Nat) (fun i => i ≤ n) (fun i => mkSt [(1, .fn g [.ptr 1000001 0]), (5, .buf 5), (7, .d (.int .i64 n)), (8, .d (.int .i64 i))] [(1000001, prcell m), (5, seqB 3 1 iF 0 (numL p i))]) (fun i => n - i) 0 (by omega) ?_ ?_
  · exact (Entails.nil 5 5 3 1 (rowF iF 0 []) rfl rfl (by decide)).trans (by (refine Entails.mk' [(1000001, 1000001), (5, 5)] rfl rfl ?_ ?_ <;> repeat' (first | exact True.intro | exact SV.le_refl _ | exact Res.le_refl _ | exact SV.le_int (by omega) | exact SV.le_any _ | refine And.intro ?_ ?_)); done)
  rintro i i1
  have hl := numL_len p i
  have hs := numL_succ p i
  conv => whnf
  repeat' (first
    | (refine CallX.of (hg i (by omega)) [(1000001, 1000001)] rfl ⟨SV.le_refl _, SV.le_refl _, trivial⟩ ⟨Res.le_refl _, trivial⟩ rfl rfl ?_; rintro x rout ⟨rfl, rfl⟩; refine ⟨rfl, ?_⟩; conv => whnf)
    | (refine br_intro (fun hb => ?_) (fun hb => ?_) <;> (try simp only [decide_eq_true_eq, decide_eq_false_iff_not, Bool.not_eq_true', Bool.not_eq_false', Bool.and_eq_true, Bool.or_eq_true, beq_iff_eq, not_and, Int.not_le, Int.not_lt, Int.toNat_natCast, beq_eq_false_iff_ne, ne_eq, eq_self, not_true_eq_false, not_false_eq_true] at hb) <;> (conv => whnf))
    | omega
    | (refine And.intro ?_ ?_; ((try dsimp only); first | omega | (refine ⟨by omega, by omega, Int.le_trans (Int.mul_le_mul_of_nonneg_right (Int.ofNat_le.2 (Nat.le_of_ble_eq_true (rfl : Nat.ble _ 1024 = true))) (by omega)) (by omega), by omega⟩) | (refine Nat.le_trans (Nat.mul_le_mul_left _ (Nat.le_of_ble_eq_true (rfl : Nat.ble _ 1024 = true))) ?_; omega) | (unfold inI64; omega) | (constructor <;> omega) | (simp only [inI64, List.length_cons, List.length_append, List.length_nil, List.length_set] at *; omega) | decide | (unfold inI64; decide)); conv => whnf)
    | omega | decide | assumption)
  · refine ⟨i + 1, by omega, by omega, ?_⟩
    rw [hs, if_pos (by simpa using hb)]
    exact Entails.mk' [(1000001, 1000001), (5, 17)] rfl rfl ⟨SV.le_refl _, SV.le_refl _, SV.le_refl _, SV.le_refl _, trivial⟩ ⟨Res.le_refl _, Res.le_snocF (x := (i : Int)) rfl, trivial⟩
  · refine ⟨i + 1, by omega, by omega, ?_⟩
    rw [hs, if_neg (by simpa using hb)]
    exact Entails.mk' [(1000001, 1000001), (5, 5)] rfl rfl ⟨SV.le_refl _, SV.le_refl _, SV.le_refl _, SV.le_refl _, trivial⟩ ⟨Res.le_refl _, Res.le_refl _, trivial⟩
  · obtain rfl : i = n := by omega
    refine .freeze _ 5 3 1 _ _ rfl (.weak _ ?_)
    conv => whnf
    exact ⟨_, [(1000001, prcell m)], SV.le_refl _, ⟨rfl, rfl⟩, Res.le_refl _, trivial⟩
-- mark.numbers
theorem z174q (r : Rul) (a b : List Mrk) (m : List Prg) (g : FuncId) (n : Nat) (hn : n ≤ 2^20) (p : Nat → Bool)
    (hg : ∀ k : Nat, k < n → FSpec Tryz.prog g [.d (.int .i64 k), .ptr 1000001 0, .ptr 1000002 0, .ptr 1000003 0, .ptr 1000004 0] [(1000001, prcell m), (1000002, mscell b), (1000003, mscell a), (1000004, rucell r)] (fun y r' => y = .d (.bool (p k)) ∧ r' = [(1000001, prcell m), (1000002, mscell b), (1000003, mscell a), (1000004, rucell r)])) :
    FSpec Tryz.prog 44 [.d (.int .i64 n), .fn g [.ptr 1000001 0, .ptr 1000002 0, .ptr 1000003 0, .ptr 1000004 0]] [(1000001, prcell m), (1000002, mscell b), (1000003, mscell a), (1000004, rucell r)] (fun y r' => y = .d (ints (numL p n)) ∧ r' = [(1000001, prcell m), (1000002, mscell b), (1000003, mscell a), (1000004, rucell r)]) := by
  refine spec_of hT (C := []) Tryz.func44 rfl Tryz.call44 rfl rfl rfl ?_
  conv => whnf
  refine LoopX.rule hT (C := []) (ι := Nat) (fun i => i ≤ n) (fun i => mkSt [(1, .fn g [.ptr 1000001 0, .ptr 1000002 0, .ptr 1000003 0, .ptr 1000004 0]), (5, .buf 5), (7, .d (.int .i64 n)), (8, .d (.int .i64 i))] [(1000001, prcell m), (1000002, mscell b), (1000003, mscell a), (1000004, rucell r), (5, seqB 3 1 iF 0 (numL p i))]) (fun i => n - i) 0 (by omega) ?_ ?_
  · exact (Entails.nil 5 5 3 1 (rowF iF 0 []) rfl rfl (by decide)).trans (by (refine Entails.mk' [(1000001, 1000001), (1000002, 1000002), (1000003, 1000003), (1000004, 1000004), (5, 5)] rfl rfl ?_ ?_ <;> repeat' (first | exact True.intro | exact SV.le_refl _ | exact Res.le_refl _ | exact SV.le_int (by omega) | exact SV.le_any _ | refine And.intro ?_ ?_)); done)
  rintro i i1
  have hl := numL_len p i
  have hs := numL_succ p i
  conv => whnf
  repeat' (first
    | (refine CallX.of (hg i (by omega)) [(1000001, 1000001), (1000002, 1000002), (1000003, 1000003), (1000004, 1000004)] rfl ⟨SV.le_refl _, SV.le_refl _, SV.le_refl _, SV.le_refl _, SV.le_refl _, trivial⟩ ⟨Res.le_refl _, Res.le_refl _, Res.le_refl _, Res.le_refl _, trivial⟩ rfl rfl ?_; rintro x rout ⟨rfl, rfl⟩; refine ⟨rfl, ?_⟩; conv => whnf)
    | (refine br_intro (fun hb => ?_) (fun hb => ?_) <;> (try simp only [decide_eq_true_eq, decide_eq_false_iff_not, Bool.not_eq_true', Bool.not_eq_false', Bool.and_eq_true, Bool.or_eq_true, beq_iff_eq, not_and, Int.not_le, Int.not_lt, Int.toNat_natCast, beq_eq_false_iff_ne, ne_eq, eq_self, not_true_eq_false, not_false_eq_true] at hb) <;> (conv => whnf))
    | omega
    | (refine And.intro ?_ ?_; ((try dsimp only); first | omega | (refine ⟨by omega, by omega, Int.le_trans (Int.mul_le_mul_of_nonneg_right (Int.ofNat_le.2 (Nat.le_of_ble_eq_true (rfl : Nat.ble _ 1024 = true))) (by omega)) (by omega), by omega⟩) | (refine Nat.le_trans (Nat.mul_le_mul_left _ (Nat.le_of_ble_eq_true (rfl : Nat.ble _ 1024 = true))) ?_; omega) | (unfold inI64; omega) | (constructor <;> omega) | (simp only [inI64, List.length_cons, List.length_append, List.length_nil, List.length_set] at *; omega) | decide | (unfold inI64; decide)); conv => whnf)
    | omega | decide | assumption)
  · refine ⟨i + 1, by omega, by omega, ?_⟩
    rw [hs, if_pos (by simpa using hb)]
    exact Entails.mk' [(1000001, 1000001), (1000002, 1000002), (1000003, 1000003), (1000004, 1000004), (5, 17)] rfl rfl ⟨SV.le_refl _, SV.le_refl _, SV.le_refl _, SV.le_refl _, trivial⟩ ⟨Res.le_refl _, Res.le_refl _, Res.le_refl _, Res.le_refl _, Res.le_snocF (x := (i : Int)) rfl, trivial⟩
  · refine ⟨i + 1, by omega, by omega, ?_⟩
    rw [hs, if_neg (by simpa using hb)]
    exact Entails.mk' [(1000001, 1000001), (1000002, 1000002), (1000003, 1000003), (1000004, 1000004), (5, 5)] rfl rfl ⟨SV.le_refl _, SV.le_refl _, SV.le_refl _, SV.le_refl _, trivial⟩ ⟨Res.le_refl _, Res.le_refl _, Res.le_refl _, Res.le_refl _, Res.le_refl _, trivial⟩
  · obtain rfl : i = n := by omega
    refine .freeze _ 5 3 1 _ _ rfl (.weak _ ?_)
    conv => whnf
    exact ⟨_, [(1000001, prcell m), (1000002, mscell b), (1000003, mscell a), (1000004, rucell r)], SV.le_refl _, ⟨rfl, rfl⟩, Res.le_refl _, Res.le_refl _, Res.le_refl _, Res.le_refl _, trivial⟩
def chV (e : Int) (l : List Int) : SV := if e = 0 then .tup [.d (ints l), .d (.int .i64 0)] else .tup [.d .nilsl, .d (.int .i64 e)]
theorem mtL_in {r : Rul} {a b : List Mrk} : ∀ x ∈ mtL r a b, 0 ≤ x.a ∧ x.a < (a.length : Int) := fun x hx => by
  obtain ⟨i, k, rfl, h1, h2⟩ := (mtL_ok r a b).2 x hx
  constructor
  · show (0 : Int) ≤ (i : Int); omega
  · show (i : Int) < a.length; omega
-- mark.News
theorem z76 (p : List Pnl) (r : Rul) (a b : List Mrk) (hp : pnOk p) (hka : mkOk a) (hkb : mkOk b) : FSpec Tryz.prog 20 [.d (pnls p), .agg ((ruF r).map .d), .d (mrks a), .d (mrks b)] [] (fun x r' => x = chV (twoE p r a b) (numL (newB (mtL r a b)) b.length) ∧ r' = []) := by
  have h60 := z60 p r a b hp hka hkb
  unfold matchV at h60
  unfold chV
  by_cases hz : twoE p r a b = 0
  · rw [if_pos hz] at h60 ⊢
    obtain ⟨q1, q2, q3, q4⟩ := twoE_zero hz
    have hr := rulE_bd q1
    have ha : mB a := onPE_mBd q3
    have hb2 : mB b := onPE_mBd q4
    have ha1 := ha.1
    have hb1 := hb2.1
    have hml := (mtL_ok r a b).1
    refine spec_of hT (C := []) Tryz.func20 rfl Tryz.call20 rfl rfl rfl ?_
    conv => whnf
    repeat' (first
      | (refine CallX.exact (h60) rfl rfl ?_; rotate_right; conv => whnf)
      | (refine CallX.of (z174m (mtL r a b) 45 b.length (by omega) (newB (mtL r a b)) (fun k _ => z175 (mtL r a b) (by omega) k)) [(1000001, 10)] rfl ⟨SV.le_refl _, SV.le_refl _, trivial⟩ ?_ rfl rfl ?_; exact (by first | exact ⟨Res.le_refl _, trivial⟩ | exact ⟨Res.le_refl _, Res.le_refl _, Res.le_refl _, Res.le_refl _, trivial⟩); rintro x rout ⟨rfl, rfl⟩; refine ⟨rfl, ?_⟩; conv => whnf)
      | (refine br_intro (fun hb => ?_) (fun hb => ?_) <;> (try simp only [decide_eq_true_eq, decide_eq_false_iff_not, Bool.not_eq_true', Bool.not_eq_false', Bool.and_eq_true, Bool.or_eq_true, beq_iff_eq, not_and, Int.not_le, Int.not_lt, Int.toNat_natCast, beq_eq_false_iff_ne, ne_eq, eq_self, not_true_eq_false, not_false_eq_true] at hb) <;> (conv => whnf))
      | omega
      | (refine And.intro ?_ ?_; ((try dsimp only); first | omega | (refine ⟨by omega, by omega, Int.le_trans (Int.mul_le_mul_of_nonneg_right (Int.ofNat_le.2 (Nat.le_of_ble_eq_true (rfl : Nat.ble _ 1024 = true))) (by omega)) (by omega), by omega⟩) | (refine Nat.le_trans (Nat.mul_le_mul_left _ (Nat.le_of_ble_eq_true (rfl : Nat.ble _ 1024 = true))) ?_; omega) | (unfold inI64; omega) | (constructor <;> omega) | (simp only [inI64, List.length_cons, List.length_append, List.length_nil, List.length_set] at *; omega) | decide | (unfold inI64; decide)); conv => whnf)
      | omega | decide | assumption)
    refine .ret _ ?_
    conv => whnf
    refine ⟨[], ⟨congrArg SV.tup ?_, rfl⟩, trivial⟩
    repeat' (refine cons_eq ?_ ?_)
    all_goals (conv => lhs; whnf)
    all_goals try (with_reducible rfl)
    all_goals rfl
  · rw [if_neg hz] at h60 ⊢
    generalize twoE p r a b = e at h60 hz ⊢
    refine spec_of hT (C := []) Tryz.func20 rfl Tryz.call20 rfl rfl rfl ?_
    conv => whnf
    repeat' (first
      | (refine CallX.exact (h60) rfl rfl ?_; rotate_right; conv => whnf)
      | (refine br_intro (fun hb => ?_) (fun hb => ?_) <;> (try simp only [decide_eq_true_eq, decide_eq_false_iff_not, Bool.not_eq_true', Bool.not_eq_false', Bool.and_eq_true, Bool.or_eq_true, beq_iff_eq, not_and, Int.not_le, Int.not_lt, Int.toNat_natCast, beq_eq_false_iff_ne, ne_eq, eq_self, not_true_eq_false, not_false_eq_true] at hb) <;> (conv => whnf))
      | omega
      | (refine And.intro ?_ ?_; ((try dsimp only); first | omega | (refine ⟨by omega, by omega, Int.le_trans (Int.mul_le_mul_of_nonneg_right (Int.ofNat_le.2 (Nat.le_of_ble_eq_true (rfl : Nat.ble _ 1024 = true))) (by omega)) (by omega), by omega⟩) | (refine Nat.le_trans (Nat.mul_le_mul_left _ (Nat.le_of_ble_eq_true (rfl : Nat.ble _ 1024 = true))) ?_; omega) | (unfold inI64; omega) | (constructor <;> omega) | (simp only [inI64, List.length_cons, List.length_append, List.length_nil, List.length_set] at *; omega) | decide | (unfold inI64; decide)); conv => whnf)
      | omega | decide | assumption)
    refine .ret _ ?_
    conv => whnf
    refine ⟨[], ⟨congrArg SV.tup ?_, rfl⟩, trivial⟩
    repeat' (refine cons_eq ?_ ?_)
    all_goals (conv => lhs; whnf)
    all_goals try (with_reducible rfl)
    all_goals rfl
-- mark.Grown
theorem z77 (p : List Pnl) (r : Rul) (a b : List Mrk) (hp : pnOk p) (hka : mkOk a) (hkb : mkOk b) : FSpec Tryz.prog 22 [.d (pnls p), .agg ((ruF r).map .d), .d (mrks a), .d (mrks b)] [] (fun x r' => x = chV (twoE p r a b) (numL (growB r a b (mtL r a b)) b.length) ∧ r' = []) := by
  have h60 := z60 p r a b hp hka hkb
  unfold matchV at h60
  unfold chV
  by_cases hz : twoE p r a b = 0
  · rw [if_pos hz] at h60 ⊢
    obtain ⟨q1, q2, q3, q4⟩ := twoE_zero hz
    have hr := rulE_bd q1
    have ha : mB a := onPE_mBd q3
    have hb2 : mB b := onPE_mBd q4
    have ha1 := ha.1
    have hb1 := hb2.1
    have hml := (mtL_ok r a b).1
    refine spec_of hT (C := []) Tryz.func22 rfl Tryz.call22 rfl rfl rfl ?_
    conv => whnf
    repeat' (first
      | (refine CallX.exact (h60) rfl rfl ?_; rotate_right; conv => whnf)
      | (refine CallX.of (z174q r a b (mtL r a b) 49 b.length (by omega) (growB r a b (mtL r a b)) (fun k hk => z177 r a b hr ha hb2 (mtL r a b) (by omega) mtL_in k hk)) [(1000001, 10), (1000002, 7), (1000003, 6), (1000004, 5)] rfl ⟨SV.le_refl _, SV.le_refl _, trivial⟩ ?_ rfl rfl ?_; exact (by first | exact ⟨Res.le_refl _, trivial⟩ | exact ⟨Res.le_refl _, Res.le_refl _, Res.le_refl _, Res.le_refl _, trivial⟩); rintro x rout ⟨rfl, rfl⟩; refine ⟨rfl, ?_⟩; conv => whnf)
      | (refine br_intro (fun hb => ?_) (fun hb => ?_) <;> (try simp only [decide_eq_true_eq, decide_eq_false_iff_not, Bool.not_eq_true', Bool.not_eq_false', Bool.and_eq_true, Bool.or_eq_true, beq_iff_eq, not_and, Int.not_le, Int.not_lt, Int.toNat_natCast, beq_eq_false_iff_ne, ne_eq, eq_self, not_true_eq_false, not_false_eq_true] at hb) <;> (conv => whnf))
      | omega
      | (refine And.intro ?_ ?_; ((try dsimp only); first | omega | (refine ⟨by omega, by omega, Int.le_trans (Int.mul_le_mul_of_nonneg_right (Int.ofNat_le.2 (Nat.le_of_ble_eq_true (rfl : Nat.ble _ 1024 = true))) (by omega)) (by omega), by omega⟩) | (refine Nat.le_trans (Nat.mul_le_mul_left _ (Nat.le_of_ble_eq_true (rfl : Nat.ble _ 1024 = true))) ?_; omega) | (unfold inI64; omega) | (constructor <;> omega) | (simp only [inI64, List.length_cons, List.length_append, List.length_nil, List.length_set] at *; omega) | decide | (unfold inI64; decide)); conv => whnf)
      | omega | decide | assumption)
    refine .ret _ ?_
    conv => whnf
    refine ⟨[], ⟨congrArg SV.tup ?_, rfl⟩, trivial⟩
    repeat' (refine cons_eq ?_ ?_)
    all_goals (conv => lhs; whnf)
    all_goals try (with_reducible rfl)
    all_goals rfl
  · rw [if_neg hz] at h60 ⊢
    generalize twoE p r a b = e at h60 hz ⊢
    refine spec_of hT (C := []) Tryz.func22 rfl Tryz.call22 rfl rfl rfl ?_
    conv => whnf
    repeat' (first
      | (refine CallX.exact (h60) rfl rfl ?_; rotate_right; conv => whnf)
      | (refine br_intro (fun hb => ?_) (fun hb => ?_) <;> (try simp only [decide_eq_true_eq, decide_eq_false_iff_not, Bool.not_eq_true', Bool.not_eq_false', Bool.and_eq_true, Bool.or_eq_true, beq_iff_eq, not_and, Int.not_le, Int.not_lt, Int.toNat_natCast, beq_eq_false_iff_ne, ne_eq, eq_self, not_true_eq_false, not_false_eq_true] at hb) <;> (conv => whnf))
      | omega
      | (refine And.intro ?_ ?_; ((try dsimp only); first | omega | (refine ⟨by omega, by omega, Int.le_trans (Int.mul_le_mul_of_nonneg_right (Int.ofNat_le.2 (Nat.le_of_ble_eq_true (rfl : Nat.ble _ 1024 = true))) (by omega)) (by omega), by omega⟩) | (refine Nat.le_trans (Nat.mul_le_mul_left _ (Nat.le_of_ble_eq_true (rfl : Nat.ble _ 1024 = true))) ?_; omega) | (unfold inI64; omega) | (constructor <;> omega) | (simp only [inI64, List.length_cons, List.length_append, List.length_nil, List.length_set] at *; omega) | decide | (unfold inI64; decide)); conv => whnf)
      | omega | decide | assumption)
    refine .ret _ ?_
    conv => whnf
    refine ⟨[], ⟨congrArg SV.tup ?_, rfl⟩, trivial⟩
    repeat' (refine cons_eq ?_ ?_)
    all_goals (conv => lhs; whnf)
    all_goals try (with_reducible rfl)
    all_goals rfl
end Go.Proofs.YtnchgjpdggembaaGreat
set_option maxRecDepth 20000
namespace Go.Proofs.YtnchgjpdggembaaGreat
open Go Go.Eng
theorem idP_get : ∀ (d i j : Nat), j < d → (idP i d).getD j pr0 = ⟨((i + j : Nat) : Int), ((i + j : Nat) : Int)⟩ := by
  intro d
  induction d with
  | zero => intro i j h; omega
  | succ d ih =>
    intro i j h
    cases j with
    | zero => simp [idP]
    | succ j =>
      rw [idP, List.getD_cons_succ, ih (i + 1) j (by omega), show i + 1 + j = i + (j + 1) by omega]
theorem idP_mem {d i : Nat} {x : Prg} (h : x ∈ idP i d) : ∃ j : Nat, i ≤ j ∧ j < i + d ∧ x = ⟨(j : Int), (j : Int)⟩ := by
  obtain ⟨k, hk, rfl⟩ := mem_getD (d := pr0) h
  rw [idP_len] at hk
  exact ⟨i + k, by omega, by omega, idP_get d i k hk⟩
theorem mem_idP {d i j : Nat} (h1 : i ≤ j) (h2 : j < i + d) : (⟨(j : Int), (j : Int)⟩ : Prg) ∈ idP i d := by
  have h := idP_get d i (j - i) (by omega)
  rw [show i + (j - i) = j by omega] at h
  rw [← h]
  exact getD_mem (by rw [idP_len]; omega)
theorem newB_id {n k : Nat} (h : k < n) : newB (idP 0 n) k = false := by
  unfold newB
  rw [Bool.not_eq_false', List.any_eq_true]
  exact ⟨_, mem_idP (Nat.zero_le k) (by omega), by simp⟩
theorem growB_id {r : Rul} {a : List Mrk} (hr : 0 ≤ r.slack) {n k : Nat} : growB r a a (idP 0 n) k = false := by
  unfold growB
  rw [List.any_eq_false]
  intro x hx
  obtain ⟨j, _, _, rfl⟩ := idP_mem hx
  unfold bigB
  by_cases q : j = k
  · subst q
    simp
    omega
  · have : ¬ ((j : Int) = (k : Int)) := by omega
    simp [this]
theorem numL_nil {p : Nat → Bool} : ∀ {n : Nat}, (∀ k, k < n → p k = false) → numL p n = [] := by
  intro n
  induction n with
  | zero => intro _; rfl
  | succ n ih => intro h; rw [numL_succ, if_neg (by rw [h n (by omega)]; decide), ih (fun k hk => h k (by omega))]
theorem apN_id {a : List Mrk} {n : Nat} : ∀ k, k ≤ n → apN a a (idP 0 n) k = 0 := by
  intro k
  induction k with
  | zero => intro _; rfl
  | succ k ih =>
    intro h
    rw [apN, ih (by omega), idP_get n 0 k (by omega)]
    simp only [Nat.zero_add, Int.toNat_natCast]
    rw [distM_self]; rfl
theorem prsE_id {r : Rul} {a : List Mrk} (hr : rBd r) : prsE r a a (idP 0 a.length) = 0 := by
  unfold prsE
  rw [idP_len]
  refine firstAt_zero (fun i hi => ?_)
  have g := idP_get a.length 0 i hi
  rw [Nat.zero_add] at g
  have hno : hadB (idP 0 a.length) i = false := by
    unfold hadB
    rw [List.any_eq_false]
    intro x hx
    obtain ⟨k, hk, rfl⟩ := mem_getD (d := pr0) hx
    rw [List.length_take, idP_len] at hk
    have e : ((idP 0 a.length).take i).getD k pr0 = (idP 0 a.length).getD k pr0 := by
      rw [List.getD_eq_getElem?_getD, List.getElem?_take_of_lt (by omega), ← List.getD_eq_getElem?_getD]
    rw [e, g, idP_get a.length 0 k (by omega), Nat.zero_add]
    have : ¬ ((k : Int) = (i : Int)) := by omega
    simp [this]
  unfold prE1
  rw [hno, g]
  simp only [Int.toNat_natCast]
  simp only [canB_self hr]
  rw [if_neg (by omega)]
  by_cases q : 0 < i
  · have g2 := idP_get a.length 0 (i - 1) (by omega)
    rw [Nat.zero_add] at g2
    rw [g2]
    rw [if_neg (fun h => by have h2 : (i : Int) ≤ ((i - 1 : Nat) : Int) := h.2; omega)]
    simp
  · rw [if_neg (fun h => q h.1)]
    simp
end Go.Proofs.YtnchgjpdggembaaGreat
set_option maxRecDepth 20000
namespace Go.Proofs.YtnchgjpdggembaaGreat
open Go Go.Eng
structure Ntr where
  name : Int
  pay : Int
  step : Int
  late : Int
def ntrF : Ntr → List DV := fun r => [.int .i64 r.name, .int .i64 r.pay, .int .i64 r.step, .int .i64 r.late]
structure Ntc where
  key : List UInt8
  plate : List UInt8
  tm : Int
  came : Int
  cents : Int
def ntcF : Ntc → List DV := fun n => [.str n.key, .str n.plate, .int .i64 n.tm, .int .i64 n.came, .int .i64 n.cents]
def ntc0 : Ntc := ⟨[], [], 0, 0, 0⟩
abbrev ntcs (l : List Ntc) : DV := seqD 5 ntcF ntc0 l
def ntrE (r : Ntr) : Int := if (0 ≤ r.name ∧ r.name ≤ 4000) ∧ (0 ≤ r.pay ∧ r.pay ≤ 4000) ∧ (1 ≤ r.step ∧ r.step ≤ 4000) ∧ (0 ≤ r.late ∧ r.late ≤ 1000000) then 0 else 1
def ntcE (l : List Ntc) (i : Nat) : Int :=
  if isKeyB (l.getD i ntc0).key = false then 5 else if 0 < i ∧ strLe (l.getD i ntc0).key (l.getD (i - 1) ntc0).key = true then 7 else if isPlateB (l.getD i ntc0).plate = false then 3
  else if ¬ ((0 ≤ (l.getD i ntc0).tm ∧ (l.getD i ntc0).tm ≤ (l.getD i ntc0).came) ∧ (0 ≤ (l.getD i ntc0).came ∧ (l.getD i ntc0).came ≤ 5761439) ∧ (0 ≤ (l.getD i ntc0).cents ∧ (l.getD i ntc0).cents ≤ 1000000)) then 1 else 0
def ntcsE (l : List Ntc) : Int := if 200 < l.length then 2 else firstAt (ntcE l) l.length
def ntK (n : Ntc) : Prop := n.key.length ≤ 2^40 ∧ n.plate.length ≤ 2^40
def ntOk (l : List Ntc) : Prop := l.length ≤ 2^40 ∧ ∀ x ∈ l, ntK x
-- toll.CheckNoticeRules
theorem sNtRules (r : Ntr) : FSpec Tryz.prog 62 [.agg ((ntrF r).map .d)] [] (fun x o => x = .d (.int .i64 (ntrE r)) ∧ o = []) := by
  refine spec_of hT (C := []) Tryz.func62 rfl Tryz.call62 rfl rfl rfl ?_
  conv => whnf
  repeat' (first
    | (refine CallX.exact (s119 _ _ _) rfl rfl ?_; rotate_right; conv => whnf)
    | (refine CallX.exact (s107 _ _) rfl rfl ?_; rotate_right; conv => whnf)
    | (refine br_intro (fun hb => ?_) (fun hb => ?_) <;> (try simp only [decide_eq_true_eq, decide_eq_false_iff_not, Bool.not_eq_true', Bool.not_eq_false', Bool.and_eq_true, Bool.or_eq_true, beq_iff_eq, not_and, Int.not_le, Int.not_lt, Int.toNat_natCast, beq_eq_false_iff_ne, ne_eq, eq_self, not_true_eq_false, not_false_eq_true] at hb) <;> (conv => whnf))
    | omega
    | (refine And.intro ?_ ?_; ((try dsimp only); first | omega | (refine ⟨by omega, by omega, Int.le_trans (Int.mul_le_mul_of_nonneg_right (Int.ofNat_le.2 (Nat.le_of_ble_eq_true (rfl : Nat.ble _ 1024 = true))) (by omega)) (by omega), by omega⟩) | (refine Nat.le_trans (Nat.mul_le_mul_left _ (Nat.le_of_ble_eq_true (rfl : Nat.ble _ 1024 = true))) ?_; omega) | (unfold inI64; omega) | (constructor <;> omega) | (simp only [inI64, List.length_cons, List.length_append, List.length_nil, List.length_set] at *; omega) | decide | (unfold inI64; decide)); conv => whnf)
    | omega | decide | assumption)
  all_goals
    refine .ret _ ?_
    conv => whnf
    refine ⟨[], ⟨?_, rfl⟩, trivial⟩
    conv => lhs; whnf
    congr 2
    unfold ntrE; grind
-- word.Moment
theorem sMoment (n : Int) : FSpec Tryz.prog 64 [.d (.int .i64 n)] [] (fun x o => x = .d (.int .i64 (if 0 ≤ n ∧ n ≤ 5761439 then 0 else 1)) ∧ o = []) := by
  refine spec_of hT (C := []) Tryz.func64 rfl Tryz.call64 rfl rfl rfl ?_
  conv => whnf
  repeat' (first
    | (refine CallX.exact (s154 _) rfl rfl ?_; rotate_right; conv => whnf)
    | (refine CallX.exact (s107 _ _) rfl rfl ?_; rotate_right; conv => whnf)
    | (refine br_intro (fun hb => ?_) (fun hb => ?_) <;> (try simp only [decide_eq_true_eq, decide_eq_false_iff_not, Bool.not_eq_true', Bool.not_eq_false', Bool.and_eq_true, Bool.or_eq_true, beq_iff_eq, not_and, Int.not_le, Int.not_lt, Int.toNat_natCast, beq_eq_false_iff_ne, ne_eq, eq_self, not_true_eq_false, not_false_eq_true] at hb) <;> (conv => whnf))
    | omega
    | (refine And.intro ?_ ?_; ((try dsimp only); first | omega | (refine ⟨by omega, by omega, Int.le_trans (Int.mul_le_mul_of_nonneg_right (Int.ofNat_le.2 (Nat.le_of_ble_eq_true (rfl : Nat.ble _ 1024 = true))) (by omega)) (by omega), by omega⟩) | (refine Nat.le_trans (Nat.mul_le_mul_left _ (Nat.le_of_ble_eq_true (rfl : Nat.ble _ 1024 = true))) ?_; omega) | (unfold inI64; omega) | (constructor <;> omega) | (simp only [inI64, List.length_cons, List.length_append, List.length_nil, List.length_set] at *; omega) | decide | (unfold inI64; decide)); conv => whnf)
    | omega | decide | assumption)
  refine .ret _ ?_
  conv => whnf
  refine ⟨[], ⟨?_, rfl⟩, trivial⟩
  conv => lhs; whnf
  congr 2
  grind
-- toll.CheckNotices
theorem sNotices (l : List Ntc) (hk : ntOk l) : FSpec Tryz.prog 63 [.d (ntcs l)] [] (fun x r => x = .d (.int .i64 (ntcsE l)) ∧ r = []) := by
  refine spec_of hT (C := []) Tryz.func63 rfl Tryz.call63 rfl rfl rfl ?_
  conv => whnf
  refine br_intro (fun h0 => ?_) (fun h0 => ?_)
  · simp at h0
    conv => whnf
    refine .ret _ ?_
    conv => whnf
    refine ⟨[], ⟨?_, rfl⟩, trivial⟩
    conv => lhs; whnf
    unfold ntcsE; rw [if_pos (by omega)]
  simp at h0
  conv => whnf
  refine LoopX.rule hT (C := []) (ι := Nat) (fun i => i ≤ l.length ∧ ∀ j, j < i → ntcE l j = 0) (fun i => mkSt [(0, .d (ntcs l)), (8, .d (ntcs l)), (9, .d (.int .i64 l.length)), (10, .d (.int .i64 i))] []) (fun i => l.length - i) 0 ⟨by omega, by omega⟩ (by (refine Entails.mk' [] rfl rfl ?_ ?_ <;> repeat' (first | exact True.intro | exact SV.le_refl _ | exact Res.le_refl _ | exact SV.le_int (by omega) | exact SV.le_any _ | refine And.intro ?_ ?_)); done) ?_
  rintro i ⟨p1, p2⟩
  have hx : (i : Int) < l.length → ntK (l.getD (i : Int).toNat ntc0) := fun hi => hk.2 _ (getD_mem (by omega))
  have e1 : (i : Int).toNat = i := Int.toNat_natCast i
  have hbad : ∀ e : Int, i < l.length → e ≠ 0 → ntcE l i = e → ntcsE l = e := fun e h h1 h2 => by
    unfold ntcsE; rw [if_neg (by omega)]
    exact firstAt_eq h p2 h1 h2
  conv => whnf
  repeat' (first
    | (refine CallX.exact (s108 _ (hx (by omega)).1) rfl rfl ?_; rotate_right; conv => whnf)
    | (refine CallX.exact (s185 _ (hx (by omega)).2) rfl rfl ?_; rotate_right; conv => whnf)
    | (refine CallX.exact (s119 _ _ _) rfl rfl ?_; rotate_right; conv => whnf)
    | (refine CallX.exact (s154 _) rfl rfl ?_; rotate_right; conv => whnf)
    | (refine br_intro (fun hb => ?_) (fun hb => ?_) <;> (try simp only [decide_eq_true_eq, decide_eq_false_iff_not, Bool.not_eq_true', Bool.not_eq_false', Bool.and_eq_true, Bool.or_eq_true, beq_iff_eq, not_and, Int.not_le, Int.not_lt, Int.toNat_natCast, beq_eq_false_iff_ne, ne_eq, eq_self, not_true_eq_false, not_false_eq_true] at hb) <;> (conv => whnf))
    | (refine RegX.rule (id := 8) hT rfl [] [(0, []), (1, []), (2, []), (3, []), (4, []), (5, [3, 4]), (6, [3, 4, 5]), (7, [3, 4, 5]), (8, [3, 4]), (9, [3, 4]), (10, [3, 4]), (11, []), (12, []), (13, [])] (by decide +kernel) ?_; conv => whnf)
    | omega
    | (refine And.intro ?_ ?_; ((try dsimp only); first | omega | (refine ⟨by omega, by omega, Int.le_trans (Int.mul_le_mul_of_nonneg_right (Int.ofNat_le.2 (Nat.le_of_ble_eq_true (rfl : Nat.ble _ 1024 = true))) (by omega)) (by omega), by omega⟩) | (refine Nat.le_trans (Nat.mul_le_mul_left _ (Nat.le_of_ble_eq_true (rfl : Nat.ble _ 1024 = true))) ?_; omega) | (unfold inI64; omega) | (constructor <;> omega) | (simp only [inI64, List.length_cons, List.length_append, List.length_nil, List.length_set] at *; omega) | decide | (unfold inI64; decide)); conv => whnf)
    | omega | decide | assumption)
  all_goals first
    | (refine ⟨i + 1, ⟨by omega, first_step p2 (by clear p2 hbad hk hx; simp only [e1, toNat_pred] at *; unfold ntcE strLe; grind)⟩, by omega, (by (refine Entails.mk' [] rfl rfl ?_ ?_ <;> repeat' (first | exact True.intro | exact SV.le_refl _ | exact Res.le_refl _ | exact SV.le_int (by omega) | exact SV.le_any _ | refine And.intro ?_ ?_)); done)⟩)
    | (refine .ret _ ?_
       conv => whnf
       refine ⟨[], ⟨?_, rfl⟩, trivial⟩
       conv => lhs; whnf
       congr 2
       first
         | exact (hbad _ (by omega) (by decide) (by clear p2 hbad hk hx; simp only [e1, toNat_pred] at *; unfold ntcE strLe; grind)).symm
         | (have : i = l.length := by omega
            subst this
            unfold ntcsE; rw [if_neg (by omega), firstAt_zero p2]))
def dueE (r : Ntr) (n : Ntc) (t : Int) : Int := firstE [ntrE r, ntcsE [n], if 0 ≤ t ∧ t ≤ 5761439 then 0 else 1, if t < n.came then 11 else 0]
def dueO (r : Ntr) (n : Ntc) (t : Int) : Int := (max 0 (t.tdiv 1440 - n.came.tdiv 1440 - r.pay) + r.step - 1).tdiv r.step
def dueV (r : Ntr) (n : Ntc) (t : Int) : Int := n.cents + dueO r n t * r.late
theorem ntc_one {n : Ntc} (h : ntcsE [n] = 0) : isKeyB n.key = true ∧ isPlateB n.plate = true ∧ (0 ≤ n.tm ∧ n.tm ≤ n.came) ∧ (0 ≤ n.came ∧ n.came ≤ 5761439) ∧ (0 ≤ n.cents ∧ n.cents ≤ 1000000) := by
  have h : ntcE [n] 0 = 0 := by simpa [ntcsE, firstAt] using h
  unfold ntcE at h
  simp only [List.getD_cons_zero] at h
  grind
theorem ntr_zero {r : Ntr} (h : ntrE r = 0) : (0 ≤ r.name ∧ r.name ≤ 4000) ∧ (0 ≤ r.pay ∧ r.pay ≤ 4000) ∧ (1 ≤ r.step ∧ r.step ≤ 4000) ∧ (0 ≤ r.late ∧ r.late ≤ 1000000) := by unfold ntrE at h; grind
theorem dueE_zero {r : Ntr} {n : Ntc} {t : Int} (h : dueE r n t = 0) : ntrE r = 0 ∧ ntcsE [n] = 0 ∧ (0 ≤ t ∧ t ≤ 5761439) ∧ n.came ≤ t := by
  unfold dueE at h
  simp only [firstE] at h
  grind
theorem mul_bd {a b A B : Int} (h0 : 0 ≤ a) (h1 : a ≤ A) (h2 : 0 ≤ b) (h3 : b ≤ B) : 0 ≤ a * b ∧ a * b ≤ A * B :=
  ⟨Int.mul_nonneg h0 h2, Int.mul_le_mul h1 h3 h2 (by omega)⟩
theorem tdiv_bd {a b : Int} (h0 : 0 ≤ a) (h1 : 1 ≤ b) : 0 ≤ a.tdiv b ∧ a.tdiv b ≤ a := by
  refine ⟨Int.tdiv_nonneg h0 (by omega), ?_⟩
  have h4 := Int.tmod_add_mul_tdiv a b
  have h2 : 0 ≤ a.tmod b := Int.tmod_nonneg _ h0
  have h5 : a.tdiv b * 1 ≤ a.tdiv b * b := Int.mul_le_mul_of_nonneg_left h1 (Int.tdiv_nonneg h0 (by omega))
  rw [Int.mul_comm] at h4
  omega
theorem dueO_bd {r : Ntr} {n : Ntc} {t : Int} (h1 : ntrE r = 0) (hc : 0 ≤ n.came) (ht : n.came ≤ t) (ht2 : t ≤ 5761439) : 0 ≤ dueO r n t ∧ dueO r n t ≤ 10000 := by
  obtain ⟨_, h2, h3, _⟩ := ntr_zero h1
  unfold dueO
  have a1 := tdiv_bd (a := t) (b := 1440) (by omega) (by omega)
  have a2 := tdiv_bd (a := n.came) (b := 1440) (by omega) (by omega)
  have h4 := Int.tmod_add_mul_tdiv t 1440
  have h5 : 0 ≤ t.tmod 1440 := Int.tmod_nonneg _ (by omega)
  obtain ⟨q, hq⟩ : ∃ q, q = max 0 (t.tdiv 1440 - n.came.tdiv 1440 - r.pay) + r.step - 1 := ⟨_, rfl⟩
  have hq0 : 0 ≤ q ∧ q ≤ 10000 := by omega
  rw [← hq]
  have := tdiv_bd hq0.1 h3.1
  omega
def dueW (r : Ntr) (n : Ntc) (t : Int) : SV := if dueE r n t = 0 then .tup [.d (.int .i64 (dueV r n t)), .d (.int .i64 0)] else .tup [.d (.int .i64 0), .d (.int .i64 (dueE r n t))]
theorem ntOk_one {n : Ntc} (h : ntK n) : ntOk [n] := ⟨by simp, fun x hx => by rw [List.mem_singleton] at hx; rw [hx]; exact h⟩
-- toll.Due
theorem sDue (r : Ntr) (n : Ntc) (t : Int) (hn : ntK n) : FSpec Tryz.prog 33 [.agg ((ntrF r).map .d), .agg ((ntcF n).map .d), .d (.int .i64 t)] [] (fun x o => x = dueW r n t ∧ o = []) := by
  have h105 := s105 [ntrE r, ntcsE [n], if 0 ≤ t ∧ t ≤ 5761439 then 0 else 1, if decide (t < n.came) = true then 11 else 0] (by simp)
  have hE : firstE [ntrE r, ntcsE [n], if 0 ≤ t ∧ t ≤ 5761439 then 0 else 1, if decide (t < n.came) = true then 11 else 0] = dueE r n t := by
    unfold dueE; simp only [decide_eq_true_eq]
  rw [hE] at h105
  unfold dueW
  by_cases hz : dueE r n t = 0
  · rw [if_pos hz]
    rw [hz] at h105
    obtain ⟨h1, h2, h3, h4⟩ := dueE_zero hz
    obtain ⟨_, _, _, h5, h6⟩ := ntc_one h2
    obtain ⟨_, h7, h8, h9⟩ := ntr_zero h1
    have hO := dueO_bd h1 h5.1 h4 h3.2
    have hM := mul_bd hO.1 hO.2 h9.1 h9.2
    have a1 := tdiv_bd (a := t) (b := 1440) (by omega) (by omega)
    have a2 := tdiv_bd (a := n.came) (b := 1440) (by omega) (by omega)
    have hM1 : inI64 (dueO r n t * r.late) := by unfold inI64; omega
    have hM2 : inI64 (dueV r n t) := by unfold dueV inI64; omega
    have hq : inI64 (max 0 (t.tdiv 1440 - n.came.tdiv 1440 - r.pay) + r.step) := by unfold inI64; omega
    have hq2 : inI64 (max 0 (t.tdiv 1440 - n.came.tdiv 1440 - r.pay) + r.step - 1) := by unfold inI64; omega
    have hq3 : inI64 (dueO r n t) := by unfold inI64; omega
    refine spec_of hT (C := []) Tryz.func33 rfl Tryz.call33 rfl rfl rfl ?_
    conv => whnf
    repeat' (first
      | (refine CallX.exact (sNtRules r) rfl rfl ?_; rotate_right; conv => whnf)
      | (refine CallX.pure (sNotices [n] (ntOk_one hn)) ⟨SV.le_lit (by rfl) (by rfl), trivial⟩ rfl ?_; conv => whnf)
      | (refine CallX.exact (sMoment t) rfl rfl ?_; rotate_right; conv => whnf)
      | (refine CallX.exact (s107 _ _) rfl rfl ?_; rotate_right; conv => whnf)
      | (refine CallX.pure h105 ⟨SV.le_lit (by rfl) (by rfl), trivial⟩ rfl ?_; conv => whnf)
      | (refine And.intro hq ?_; conv => whnf)
      | (refine And.intro hq2 ?_; conv => whnf)
      | (refine And.intro hq3 ?_; conv => whnf)
      | (refine And.intro hM1 ?_; conv => whnf)
      | (refine And.intro hM2 ?_; conv => whnf)
      | (refine br_intro (fun hb => ?_) (fun hb => ?_) <;> (try simp only [decide_eq_true_eq, decide_eq_false_iff_not, Bool.not_eq_true', Bool.not_eq_false', Bool.and_eq_true, Bool.or_eq_true, beq_iff_eq, not_and, Int.not_le, Int.not_lt, Int.toNat_natCast, beq_eq_false_iff_ne, ne_eq, eq_self, not_true_eq_false, not_false_eq_true] at hb) <;> (conv => whnf))
      | (refine RegX.rule (id := 1) hT rfl [] [(0, []), (2, [0]), (3, [0]), (5, [0, 2, 3]), (7, [0, 2, 3, 5]), (8, [0, 2, 3, 5, 7]), (9, [0, 2, 3, 5, 7]), (10, [0, 2, 3, 5]), (1, [2, 3, 5, 7, 8, 9, 10]), (4, [5, 7, 8, 9, 10]), (6, [7, 8, 9, 10]), (11, []), (12, []), (13, []), (14, [])] (by decide +kernel) ?_; conv => whnf)
      | (refine RegX.rule (id := 5) hT rfl [] [(0, []), (1, []), (2, [0, 1]), (3, [0, 1, 2]), (4, [0, 1, 2]), (5, [0, 1]), (6, [0, 1]), (7, [0, 1, 2, 3, 4, 5, 6]), (8, [0, 1, 2, 3, 4, 5, 6]), (9, [0, 1]), (10, [0, 1, 2, 3, 4, 5, 6, 7, 8, 9]), (11, [0, 1, 2, 3, 4, 5, 6, 7, 8, 9]), (12, [0, 1]), (13, []), (14, []), (15, [])] (by decide +kernel) ?_; conv => whnf)
      | omega
      | (refine And.intro ?_ ?_; ((try dsimp only); first | omega | (refine ⟨by omega, by omega, Int.le_trans (Int.mul_le_mul_of_nonneg_right (Int.ofNat_le.2 (Nat.le_of_ble_eq_true (rfl : Nat.ble _ 1024 = true))) (by omega)) (by omega), by omega⟩) | (refine Nat.le_trans (Nat.mul_le_mul_left _ (Nat.le_of_ble_eq_true (rfl : Nat.ble _ 1024 = true))) ?_; omega) | (unfold inI64; omega) | (constructor <;> omega) | (simp only [inI64, List.length_cons, List.length_append, List.length_nil, List.length_set] at *; omega) | decide | (unfold inI64; decide)); conv => whnf)
      | omega | decide | assumption)
    refine .ret _ ?_
    conv => whnf
    refine ⟨[], ⟨congrArg SV.tup ?_, rfl⟩, trivial⟩
    repeat' (refine cons_eq ?_ ?_)
    all_goals (conv => lhs; whnf)
    all_goals try (with_reducible rfl)
    all_goals rfl
  · rw [if_neg hz]
    generalize dueE r n t = e at h105 hz
    refine spec_of hT (C := []) Tryz.func33 rfl Tryz.call33 rfl rfl rfl ?_
    conv => whnf
    repeat' (first
      | (refine CallX.exact (sNtRules r) rfl rfl ?_; rotate_right; conv => whnf)
      | (refine CallX.pure (sNotices [n] (ntOk_one hn)) ⟨SV.le_lit (by rfl) (by rfl), trivial⟩ rfl ?_; conv => whnf)
      | (refine CallX.exact (sMoment t) rfl rfl ?_; rotate_right; conv => whnf)
      | (refine CallX.exact (s107 _ _) rfl rfl ?_; rotate_right; conv => whnf)
      | (refine CallX.pure h105 ⟨SV.le_lit (by rfl) (by rfl), trivial⟩ rfl ?_; conv => whnf)
      | (refine br_intro (fun hb => ?_) (fun hb => ?_) <;> (try simp only [decide_eq_true_eq, decide_eq_false_iff_not, Bool.not_eq_true', Bool.not_eq_false', Bool.and_eq_true, Bool.or_eq_true, beq_iff_eq, not_and, Int.not_le, Int.not_lt, Int.toNat_natCast, beq_eq_false_iff_ne, ne_eq, eq_self, not_true_eq_false, not_false_eq_true] at hb) <;> (conv => whnf))
      | (refine RegX.rule (id := 1) hT rfl [] [(0, []), (2, [0]), (3, [0]), (5, [0, 2, 3]), (7, [0, 2, 3, 5]), (8, [0, 2, 3, 5, 7]), (9, [0, 2, 3, 5, 7]), (10, [0, 2, 3, 5]), (1, [2, 3, 5, 7, 8, 9, 10]), (4, [5, 7, 8, 9, 10]), (6, [7, 8, 9, 10]), (11, []), (12, []), (13, []), (14, [])] (by decide +kernel) ?_; conv => whnf)
      | (refine RegX.rule (id := 5) hT rfl [] [(0, []), (1, []), (2, [0, 1]), (3, [0, 1, 2]), (4, [0, 1, 2]), (5, [0, 1]), (6, [0, 1]), (7, [0, 1, 2, 3, 4, 5, 6]), (8, [0, 1, 2, 3, 4, 5, 6]), (9, [0, 1]), (10, [0, 1, 2, 3, 4, 5, 6, 7, 8, 9]), (11, [0, 1, 2, 3, 4, 5, 6, 7, 8, 9]), (12, [0, 1]), (13, []), (14, []), (15, [])] (by decide +kernel) ?_; conv => whnf)
      | omega
      | (refine And.intro ?_ ?_; ((try dsimp only); first | omega | (refine ⟨by omega, by omega, Int.le_trans (Int.mul_le_mul_of_nonneg_right (Int.ofNat_le.2 (Nat.le_of_ble_eq_true (rfl : Nat.ble _ 1024 = true))) (by omega)) (by omega), by omega⟩) | (refine Nat.le_trans (Nat.mul_le_mul_left _ (Nat.le_of_ble_eq_true (rfl : Nat.ble _ 1024 = true))) ?_; omega) | (unfold inI64; omega) | (constructor <;> omega) | (simp only [inI64, List.length_cons, List.length_append, List.length_nil, List.length_set] at *; omega) | decide | (unfold inI64; decide)); conv => whnf)
      | omega | decide | assumption)
    refine .ret _ ?_
    conv => whnf
    refine ⟨[], ⟨congrArg SV.tup ?_, rfl⟩, trivial⟩
    repeat' (refine cons_eq ?_ ?_)
    all_goals (conv => lhs; whnf)
    all_goals try (with_reducible rfl)
    all_goals rfl
-- NoticeRules
end Go.Proofs.YtnchgjpdggembaaGreat
set_option maxRecDepth 20000
namespace Go.Proofs.YtnchgjpdggembaaGreat
open Go Go.Eng
structure Slt where
  day : Int
  many : Int
structure Wnt where
  v : List UInt8
  fr : Int
  to : Int
def wn0 : Wnt := ⟨[], 0, 0⟩
structure Plc where
  v : List UInt8
  day : Int
def pl0 : Plc := ⟨[], 0⟩
structure Bsy where
  v : List UInt8
  fr : Int
  to : Int
  cents : Int
def namesB (w : List Wnt) (l : List Plc) : Prop := w.length = l.length ∧ ∀ i, i < w.length → (w.getD i wn0).v = (l.getD i pl0).v
instance (w : List Wnt) (l : List Plc) : Decidable (namesB w l) := inferInstanceAs (Decidable (_ ∧ _))
end Go.Proofs.YtnchgjpdggembaaGreat
set_option maxRecDepth 20000
namespace Go.Proofs.YtnchgjpdggembaaGreat
open Go Go.Eng
-- shift.span
-- shift.checkSlots
-- SlotsFault
-- shift.checkWanted
-- WantedFault
-- shift.checkPlacedList
-- PlacedForm
-- shift.checkBusy
-- BusyFault
end Go.Proofs.YtnchgjpdggembaaGreat
set_option maxRecDepth 20000
namespace Go.Proofs.YtnchgjpdggembaaGreat
open Go Go.Eng
-- slices.IndexFunc of slots
-- slices.ContainsFunc of slots
-- shift.slotAt
end Go.Proofs.YtnchgjpdggembaaGreat
set_option maxRecDepth 20000
namespace Go.Proofs.YtnchgjpdggembaaGreat
open Go Go.Eng
-- PlacedFault, all else right
-- shift.CheckPlaced
end Go.Proofs.YtnchgjpdggembaaGreat
set_option maxRecDepth 20000
namespace Go.Proofs.YtnchgjpdggembaaGreat
open Go Go.Eng
-- shift.Lost
-- LostOf
end Go.Proofs.YtnchgjpdggembaaGreat
set_option maxRecDepth 20000
namespace Go.Proofs.YtnchgjpdggembaaGreat
open Go Go.Eng
-- placed
end Go.Proofs.YtnchgjpdggembaaGreat
set_option maxRecDepth 20000
namespace Go.Proofs.YtnchgjpdggembaaGreat
open Go Go.Eng
structure Ned where
  st : List UInt8
  many : Int
def ndF : Ned → List DV := fun s => [.str s.st, .int .i64 s.many]
def nd0 : Ned := ⟨[], 0⟩
abbrev neds (l : List Ned) : DV := seqD 2 ndF nd0 l
structure Roa where
  a : List UInt8
  b : List UInt8
  car : Int
  ride : Int
def rdF : Roa → List DV := fun s => [.str s.a, .str s.b, .int .i64 s.car, .int .i64 s.ride]
def rd0 : Roa := ⟨[], [], 0, 0⟩
abbrev roas (l : List Roa) : DV := seqD 4 rdF rd0 l
structure Mov where
  a : List UInt8
  b : List UInt8
  many : Int
def mvF : Mov → List DV := fun s => [.str s.a, .str s.b, .int .i64 s.many]
def mv0 : Mov := ⟨[], [], 0⟩
abbrev movs (l : List Mov) : DV := seqD 3 mvF mv0 l
def ndE (l : List Ned) (i : Nat) : Int :=
  let x := l.getD i nd0
  if isKeyB x.st = false then 5 else if 0 < i ∧ strLe x.st (l.getD (i - 1) nd0).st = true then 7 else if ¬ (-20 ≤ x.many ∧ x.many ≤ 20) then 1 else 0
def ndsE (l : List Ned) : Int := if 10 < l.length then 2 else firstAt (ndE l) l.length
def ndK (x : Ned) : Prop := x.st.length ≤ 2^40
def ndOk (l : List Ned) : Prop := l.length ≤ 2^40 ∧ ∀ x ∈ l, ndK x
def endsC (a b c d : List UInt8) : Int := firstE [cmpS a c, cmpS b d]
def rdE (l : List Roa) (i : Nat) : Int :=
  let x := l.getD i rd0
  if isKeyB x.a = false ∨ isKeyB x.b = false then 5 else if x.a = x.b then 14 else if 0 < i ∧ 0 ≤ endsC (l.getD (i - 1) rd0).a (l.getD (i - 1) rd0).b x.a x.b then 7 else if ¬ ((0 ≤ x.car ∧ x.car ≤ 1000000) ∧ (0 ≤ x.ride ∧ x.ride ≤ 1000000)) then 1 else 0
def rdsE (l : List Roa) : Int := if 2500 < l.length then 2 else firstAt (rdE l) l.length
def rdK (x : Roa) : Prop := x.a.length ≤ 2^40 ∧ x.b.length ≤ 2^40
def rdOk (l : List Roa) : Prop := l.length ≤ 2^40 ∧ ∀ x ∈ l, rdK x
-- shift.byEnds
theorem s204 (a b c d : List UInt8) : FSpec Tryz.prog 132 [.d (.str a), .d (.str b), .d (.str c), .d (.str d)] [] (fun x r => x = .d (.int .i64 (endsC a b c d)) ∧ r = []) := by
  refine spec_of hT (C := []) Tryz.func132 rfl Tryz.call132 rfl rfl rfl ?_
  conv => whnf
  repeat' (first
    | (refine CallX.exact (s184 _ _) rfl rfl ?_; rotate_right; conv => whnf)
    | (refine CallX.pure (s182 [_, _] (by simp)) ⟨SV.le_lit (by rfl) (by rfl), trivial⟩ rfl ?_; conv => whnf)
    | (refine br_intro (fun hb => ?_) (fun hb => ?_) <;> (try simp only [decide_eq_true_eq, decide_eq_false_iff_not, Bool.not_eq_true', Bool.not_eq_false', Bool.and_eq_true, Bool.or_eq_true, beq_iff_eq, not_and, Int.not_le, Int.not_lt, Int.toNat_natCast, beq_eq_false_iff_ne, ne_eq, eq_self, not_true_eq_false, not_false_eq_true] at hb) <;> (conv => whnf))
    | omega
    | (refine And.intro ?_ ?_; ((try dsimp only); first | omega | (refine ⟨by omega, by omega, Int.le_trans (Int.mul_le_mul_of_nonneg_right (Int.ofNat_le.2 (Nat.le_of_ble_eq_true (rfl : Nat.ble _ 1024 = true))) (by omega)) (by omega), by omega⟩) | (refine Nat.le_trans (Nat.mul_le_mul_left _ (Nat.le_of_ble_eq_true (rfl : Nat.ble _ 1024 = true))) ?_; omega) | (unfold inI64; omega) | (constructor <;> omega) | (simp only [inI64, List.length_cons, List.length_append, List.length_nil, List.length_set] at *; omega) | decide | (unfold inI64; decide)); conv => whnf)
    | omega | decide | assumption)
  refine .ret _ ?_
  conv => whnf
  refine ⟨[], ⟨?_, rfl⟩, trivial⟩
  conv => lhs; whnf
  rfl
-- shift.CheckNeeds
theorem s163 (l : List Ned) (hk : ndOk l) : FSpec Tryz.prog 110 [.d (neds l)] [] (fun x r => x = .d (.int .i64 (ndsE l)) ∧ r = []) := by
  refine spec_of hT (C := []) Tryz.func110 rfl Tryz.call110 rfl rfl rfl ?_
  conv => whnf
  refine br_intro (fun h0 => ?_) (fun h0 => ?_)
  · simp at h0
    conv => whnf
    refine .ret _ ?_
    conv => whnf
    refine ⟨[], ⟨?_, rfl⟩, trivial⟩
    conv => lhs; whnf
    unfold ndsE; rw [if_pos (by omega)]
  simp at h0
  conv => whnf
  refine LoopX.rule hT (C := []) (ι := Nat) (fun i => i ≤ l.length ∧ ∀ j, j < i → ndE l j = 0) (fun i => mkSt [(0, .d (neds l)), (8, .d (neds l)), (9, .d (.int .i64 l.length)), (10, .d (.int .i64 i))] []) (fun i => l.length - i) 0 ⟨by omega, by omega⟩ (by (refine Entails.mk' [] rfl rfl ?_ ?_ <;> repeat' (first | exact True.intro | exact SV.le_refl _ | exact Res.le_refl _ | exact SV.le_int (by omega) | exact SV.le_any _ | refine And.intro ?_ ?_)); done) ?_
  rintro i ⟨p1, p2⟩
  have hx : (i : Int) < l.length → ndK (l.getD (i : Int).toNat nd0) := fun hi => hk.2 _ (getD_mem (by omega))
  have e1 : (i : Int).toNat = i := Int.toNat_natCast i
  have hbad : ∀ e : Int, i < l.length → e ≠ 0 → ndE l i = e → ndsE l = e := fun e h h1 h2 => by
    unfold ndsE; rw [if_neg (by omega)]
    exact firstAt_eq h p2 h1 h2
  conv => whnf
  repeat' (first
    | (refine CallX.exact (s108 _ (hx (by omega))) rfl rfl ?_; rotate_right; conv => whnf)
    | (refine CallX.exact (s119 _ _ _) rfl rfl ?_; rotate_right; conv => whnf)
    | (refine br_intro (fun hb => ?_) (fun hb => ?_) <;> (try simp only [decide_eq_true_eq, decide_eq_false_iff_not, Bool.not_eq_true', Bool.not_eq_false', Bool.and_eq_true, Bool.or_eq_true, beq_iff_eq, not_and, Int.not_le, Int.not_lt, Int.toNat_natCast, beq_eq_false_iff_ne, ne_eq, eq_self, not_true_eq_false, not_false_eq_true] at hb) <;> (conv => whnf))
    | (refine RegX.rule (id := 8) hT rfl [] [(0, []), (1, []), (2, []), (3, []), (4, []), (5, [3, 4]), (6, [3, 4, 5]), (7, [3, 4, 5]), (8, [3, 4]), (9, [3, 4]), (10, [3, 4]), (11, []), (12, []), (13, [])] (by decide +kernel) ?_; conv => whnf)
    | omega
    | (refine And.intro ?_ ?_; ((try dsimp only); first | omega | (refine ⟨by omega, by omega, Int.le_trans (Int.mul_le_mul_of_nonneg_right (Int.ofNat_le.2 (Nat.le_of_ble_eq_true (rfl : Nat.ble _ 1024 = true))) (by omega)) (by omega), by omega⟩) | (refine Nat.le_trans (Nat.mul_le_mul_left _ (Nat.le_of_ble_eq_true (rfl : Nat.ble _ 1024 = true))) ?_; omega) | (unfold inI64; omega) | (constructor <;> omega) | (simp only [inI64, List.length_cons, List.length_append, List.length_nil, List.length_set] at *; omega) | decide | (unfold inI64; decide)); conv => whnf)
    | omega | decide | assumption)
  all_goals first
    | (refine ⟨i + 1, ⟨by omega, first_step p2 (by clear p2 hbad hk hx; simp only [e1, toNat_pred] at *; unfold ndE strLe; grind)⟩, by omega, (by (refine Entails.mk' [] rfl rfl ?_ ?_ <;> repeat' (first | exact True.intro | exact SV.le_refl _ | exact Res.le_refl _ | exact SV.le_int (by omega) | exact SV.le_any _ | refine And.intro ?_ ?_)); done)⟩)
    | (refine .ret _ ?_
       conv => whnf
       refine ⟨[], ⟨?_, rfl⟩, trivial⟩
       conv => lhs; whnf
       congr 2
       first
         | exact (hbad _ (by omega) (by decide) (by clear p2 hbad hk hx; simp only [e1, toNat_pred] at *; unfold ndE strLe; grind)).symm
         | (have : i = l.length := by omega
            subst this
            unfold ndsE; rw [if_neg (by omega), firstAt_zero p2]))
-- shift.CheckRoads
theorem s164 (l : List Roa) (hk : rdOk l) : FSpec Tryz.prog 111 [.d (roas l)] [] (fun x r => x = .d (.int .i64 (rdsE l)) ∧ r = []) := by
  refine spec_of hT (C := []) Tryz.func111 rfl Tryz.call111 rfl rfl rfl ?_
  conv => whnf
  refine br_intro (fun h0 => ?_) (fun h0 => ?_)
  · simp at h0
    conv => whnf
    refine .ret _ ?_
    conv => whnf
    refine ⟨[], ⟨?_, rfl⟩, trivial⟩
    conv => lhs; whnf
    unfold rdsE; rw [if_pos (by omega)]
  simp at h0
  conv => whnf
  refine LoopX.rule hT (C := []) (ι := Nat) (fun i => i ≤ l.length ∧ ∀ j, j < i → rdE l j = 0) (fun i => mkSt [(0, .d (roas l)), (8, .d (roas l)), (9, .d (.int .i64 l.length)), (10, .d (.int .i64 i))] []) (fun i => l.length - i) 0 ⟨by omega, by omega⟩ (by (refine Entails.mk' [] rfl rfl ?_ ?_ <;> repeat' (first | exact True.intro | exact SV.le_refl _ | exact Res.le_refl _ | exact SV.le_int (by omega) | exact SV.le_any _ | refine And.intro ?_ ?_)); done) ?_
  rintro i ⟨p1, p2⟩
  have hx : (i : Int) < l.length → rdK (l.getD (i : Int).toNat rd0) := fun hi => hk.2 _ (getD_mem (by omega))
  have e1 : (i : Int).toNat = i := Int.toNat_natCast i
  have hbad : ∀ e : Int, i < l.length → e ≠ 0 → rdE l i = e → rdsE l = e := fun e h h1 h2 => by
    unfold rdsE; rw [if_neg (by omega)]
    exact firstAt_eq h p2 h1 h2
  conv => whnf
  repeat' (first
    | (refine CallX.exact (s108 _ (hx (by omega)).1) rfl rfl ?_; rotate_right; conv => whnf)
    | (refine CallX.exact (s108 _ (hx (by omega)).2) rfl rfl ?_; rotate_right; conv => whnf)
    | (refine CallX.exact (s204 _ _ _ _) rfl rfl ?_; rotate_right; conv => whnf)
    | (refine CallX.exact (s119 _ _ _) rfl rfl ?_; rotate_right; conv => whnf)
    | (refine br_intro (fun hb => ?_) (fun hb => ?_) <;> (try simp only [decide_eq_true_eq, decide_eq_false_iff_not, Bool.not_eq_true', Bool.not_eq_false', Bool.and_eq_true, Bool.or_eq_true, beq_iff_eq, not_and, Int.not_le, Int.not_lt, Int.toNat_natCast, beq_eq_false_iff_ne, ne_eq, eq_self, not_true_eq_false, not_false_eq_true] at hb) <;> (conv => whnf))
    | (refine RegX.rule (id := 10) hT rfl [] [(0, []), (1, []), (2, []), (3, []), (4, [3]), (5, [3]), (6, []), (7, []), (8, []), (9, [3, 4, 5, 6, 7, 8]), (10, [3, 4, 5, 6, 7, 8, 9]), (11, [3, 4, 5, 6, 7, 8, 9]), (12, [3, 4, 5, 6, 7, 8]), (13, [3, 4, 5, 6, 7, 8]), (14, [3, 4, 5, 6, 7, 8]), (15, [3, 4, 5, 6, 7, 8, 9, 10, 11, 12, 13, 14]), (16, [3, 4, 5, 6, 7, 8, 9, 10, 11, 12, 13, 14]), (17, [3, 4, 5, 6, 7, 8, 9, 10, 11, 12, 13, 14, 15, 16]), (18, [3, 4, 5, 6, 7, 8, 9, 10, 11, 12, 13, 14, 15, 16]), (19, []), (20, []), (21, []), (22, [])] (by decide +kernel) ?_; conv => whnf)
    | omega
    | (refine And.intro ?_ ?_; ((try dsimp only); first | omega | (refine ⟨by omega, by omega, Int.le_trans (Int.mul_le_mul_of_nonneg_right (Int.ofNat_le.2 (Nat.le_of_ble_eq_true (rfl : Nat.ble _ 1024 = true))) (by omega)) (by omega), by omega⟩) | (refine Nat.le_trans (Nat.mul_le_mul_left _ (Nat.le_of_ble_eq_true (rfl : Nat.ble _ 1024 = true))) ?_; omega) | (unfold inI64; omega) | (constructor <;> omega) | (simp only [inI64, List.length_cons, List.length_append, List.length_nil, List.length_set] at *; omega) | decide | (unfold inI64; decide)); conv => whnf)
    | omega | decide | assumption)
  all_goals first
    | (refine ⟨i + 1, ⟨by omega, first_step p2 (by clear p2 hbad hk hx; simp only [e1, toNat_pred] at *; unfold rdE ; grind)⟩, by omega, (by (refine Entails.mk' [] rfl rfl ?_ ?_ <;> repeat' (first | exact True.intro | exact SV.le_refl _ | exact Res.le_refl _ | exact SV.le_int (by omega) | exact SV.le_any _ | refine And.intro ?_ ?_)); done)⟩)
    | (refine .ret _ ?_
       conv => whnf
       refine ⟨[], ⟨?_, rfl⟩, trivial⟩
       conv => lhs; whnf
       congr 2
       first
         | exact (hbad _ (by omega) (by decide) (by clear p2 hbad hk hx; simp only [e1, toNat_pred] at *; unfold rdE ; grind)).symm
         | (have : i = l.length := by omega
            subst this
            unfold rdsE; rw [if_neg (by omega), firstAt_zero p2]))
-- shift.checkTask
theorem s113 (l : List Ned) (m : List Roa) (hl : ndOk l) (hm : rdOk m) : FSpec Tryz.prog 65 [.d (neds l), .d (roas m)] [] (fun x r => x = .d (.int .i64 (firstE [ndsE l, rdsE m])) ∧ r = []) := by
  refine spec_of hT (C := []) Tryz.func65 rfl Tryz.call65 rfl rfl rfl ?_
  conv => whnf
  repeat' (first
    | (refine CallX.exact (s163 l hl) rfl rfl ?_; rotate_right; conv => whnf)
    | (refine CallX.exact (s164 m hm) rfl rfl ?_; rotate_right; conv => whnf)
    | (refine CallX.pure (s105 [_, _] (by simp)) ⟨SV.le_lit (by rfl) (by rfl), trivial⟩ rfl ?_; conv => whnf)
    | (refine br_intro (fun hb => ?_) (fun hb => ?_) <;> (try simp only [decide_eq_true_eq, decide_eq_false_iff_not, Bool.not_eq_true', Bool.not_eq_false', Bool.and_eq_true, Bool.or_eq_true, beq_iff_eq, not_and, Int.not_le, Int.not_lt, Int.toNat_natCast, beq_eq_false_iff_ne, ne_eq, eq_self, not_true_eq_false, not_false_eq_true] at hb) <;> (conv => whnf))
    | omega
    | (refine And.intro ?_ ?_; ((try dsimp only); first | omega | (refine ⟨by omega, by omega, Int.le_trans (Int.mul_le_mul_of_nonneg_right (Int.ofNat_le.2 (Nat.le_of_ble_eq_true (rfl : Nat.ble _ 1024 = true))) (by omega)) (by omega), by omega⟩) | (refine Nat.le_trans (Nat.mul_le_mul_left _ (Nat.le_of_ble_eq_true (rfl : Nat.ble _ 1024 = true))) ?_; omega) | (unfold inI64; omega) | (constructor <;> omega) | (simp only [inI64, List.length_cons, List.length_append, List.length_nil, List.length_set] at *; omega) | decide | (unfold inI64; decide)); conv => whnf)
    | omega | decide | assumption)
  refine .ret _ ?_
  conv => whnf
  refine ⟨[], ⟨?_, rfl⟩, trivial⟩
  conv => lhs; whnf
-- the program's own try
def tN : List Ned := [⟨[97], 1⟩, ⟨[98], -1⟩]
def tR : List Roa := [⟨[97], [98], 4, 0⟩]
theorem s113t : FSpec Tryz.prog 65 [.d (neds tN), .d (roas tR)] [] (fun x r => x = .d (.int .i64 0) ∧ r = []) := by
  have h := s113 tN tR ⟨by simp [tN], by intro x hx; simp [tN] at hx; rcases hx with rfl | rfl <;> simp [ndK]⟩ ⟨by simp [tR], by intro x hx; simp [tR] at hx; subst hx; simp [rdK]⟩
  rwa [show firstE [ndsE tN, rdsE tR] = 0 by decide] at h
end Go.Proofs.YtnchgjpdggembaaGreat
