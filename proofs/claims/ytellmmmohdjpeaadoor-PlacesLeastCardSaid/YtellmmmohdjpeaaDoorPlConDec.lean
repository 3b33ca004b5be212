/- PlacesLeast is proved: for every input the law returns true, and its argument reads afterwards as it read before. Conditions: those of the given row alone. -/
import Derived.Test.YtellmmmohdjpeaaDoorPlConNov
import Derived.Test.YtellmmmohdjpeaaDoorPlEngTwo
import Derived.Test.YtellmmmohdjpeaaDoorPlConSep
set_option linter.unusedVariables false
set_option linter.unusedSimpArgs false
set_option maxRecDepth 20000
namespace Go.Proofs.YtellmmmohdjpeaaDoor
open Go Go.Eng
def costG (s : List Slt) (w : List Wnt) (b : List Bsy) : Nat → List DV := fun i => [.ro 1 s.length (fun k => [.int .i64 (lostP b ⟨(w.getD i wn0).v, (s.getD k sl0).day⟩)])]
abbrev plX (s : List Slt) (w : List Wnt) (now : SV) (st : PSt) : Res := .cells 230 [.d (slts s), .buf 1000001, .d (wnts w), .buf 1000003, now, .d (plcs st.1), .d (.int .i64 st.2)]
abbrev plR (s : List Slt) (w : List Wnt) (b : List Bsy) (l : List Plc) (nm : Nat) (st : PSt) : List (Nat × Res) :=
  [(1000000, plX s w (.buf nm) st), (1000001, seqB 3 1 iF 0 (roomL s l)), (1000003, .fro 1 w.length (costG s w b)), (nm, plB l)]
theorem Res.le_cut {l m : List Plc} {e k n : Nat} (hn : n = l.length) (h : ∀ i, i < l.length → m.getD i pl0 = l.getD i pl0) : Res.le (.buf e k n (rowF plF pl0 m)) (seqB e k plF pl0 l) :=
  Res.le_buf hn (fun i hi => by simp only [rowF]; rw [h i (by omega)])
-- place, at the leaves
theorem s138z (s : List Slt) (w : List Wnt) (b : List Bsy) (hw6 : w.length ≤ 6) (l : List Plc) (hd : l.length = w.length) (st : PSt) :
    FSpec Tryd.prog 138 [.ptr 1000000 0, .d (.int .i64 l.length), .d (.int .i64 (lostA b l))] (plR s w b l 1000002 st) (fun y r => y = .tup [] ∧ ∃ nm, (nm = 1000002 ∨ nm = 60) ∧ r = plR s w b l nm (srch s w b 0 l st)) := by
  refine spec_of hT (C := []) Tryd.func138 rfl Tryd.call138 rfl rfl rfl ?_
  conv => whnf
  repeat' (first
    | (refine CallX.of (s140 l (by omega)) [(1000001, 1000002)] rfl ⟨SV.le_refl _, trivial⟩ ⟨Res.le_refl _, trivial⟩ rfl rfl ?_; rintro x rout ⟨rfl, rfl⟩; refine ⟨rfl, ?_⟩; conv => whnf)
    | (refine br_intro (fun hb => ?_) (fun hb => ?_) <;> (try simp only [decide_eq_true_eq, decide_eq_false_iff_not, Bool.not_eq_true', Bool.not_eq_false', Bool.and_eq_true, Bool.or_eq_true, beq_iff_eq, not_and, Int.not_le, Int.not_lt, Int.toNat_natCast, beq_eq_false_iff_ne, ne_eq, eq_self, not_true_eq_false, not_false_eq_true] at hb) <;> (conv => whnf))
    | (refine RegX.rule (id := 6) hT rfl [] [(0, []), (1, []), (2, []), (3, []), (4, [0, 1, 2, 3]), (5, []), (6, []), (7, []), (8, []), (9, []), (10, []), (11, [9, 10]), (12, [9, 10]), (13, [9, 10]), (14, [9, 10]), (15, [9, 10, 11, 12, 13, 14]), (16, [9, 10]), (17, [9, 10]), (18, [9, 10]), (19, []), (20, []), (21, []), (22, []), (23, []), (24, [22, 23]), (25, [22, 23]), (26, [22, 23]), (27, [22, 23]), (28, [22, 23, 24, 25, 26, 27]), (29, [22, 23]), (30, [22, 23]), (31, [22, 23]), (32, []), (33, [])] (by decide +kernel) ?_; conv => whnf)
    | (refine RegX.rule (id := 8) hT rfl [] [(0, []), (1, [0]), (2, [0]), (3, [0]), (4, [0]), (5, [0, 1, 2, 3, 4]), (6, [0, 1, 2, 3, 4]), (7, [0, 1, 2, 3, 4]), (8, [0, 1, 2, 3, 4]), (9, [0, 1, 2, 3, 4, 5, 6, 7, 8]), (10, [0, 1, 2, 3, 4]), (11, [0, 1, 2, 3, 4]), (12, [0, 1, 2, 3, 4]), (13, [0, 1, 2, 3, 4, 5, 6, 7, 8, 9, 10, 11, 12]), (14, [0, 1, 2, 3, 4, 5, 6, 7, 8, 9, 10, 11, 12]), (15, [0, 1, 2, 3, 4]), (16, [0, 1, 2, 3, 4]), (17, [0]), (18, []), (19, []), (20, [])] (by decide +kernel) ?_; conv => whnf)
    | (refine RegX.rule (id := 10) hT rfl [140] [(0, []), (1, [0]), (2, [0]), (3, [0]), (4, [0]), (5, [0, 1, 2, 3, 4]), (6, [0, 1, 2, 3, 4]), (7, [0, 1, 2, 3, 4]), (8, [0, 1, 2, 3, 4]), (9, [0, 1, 2, 3, 4]), (10, [0, 1, 2, 3, 4]), (11, [0]), (12, []), (13, []), (14, [])] (by decide +kernel) ?_; conv => whnf)
    | omega
    | (refine And.intro ?_ ?_; ((try dsimp only); first | omega | (refine ⟨by omega, by omega, Int.le_trans (Int.mul_le_mul_of_nonneg_right (Int.ofNat_le.2 (Nat.le_of_ble_eq_true (rfl : Nat.ble _ 1024 = true))) (by omega)) (by omega), by omega⟩) | (refine Nat.le_trans (Nat.mul_le_mul_left _ (Nat.le_of_ble_eq_true (rfl : Nat.ble _ 1024 = true))) ?_; omega) | (unfold inI64; omega) | (constructor <;> omega) | (simp only [inI64, List.length_cons, List.length_append, List.length_nil, List.length_set] at *; omega) | decide | (unfold inI64; decide)); conv => whnf)
    | omega | decide | assumption)
  · rw [srch, if_pos ⟨by omega, by omega⟩]
    refine .ret _ ?_
    conv => whnf
    exact ⟨_, ⟨rfl, 1000002, .inl rfl, rfl⟩, Res.le_refl _, Res.le_refl _, Res.le_refl _, Res.le_refl _, trivial⟩
  all_goals
    rw [srch, if_neg (by omega)]
    refine .ret _ ?_
    conv => whnf
    exact ⟨_, ⟨rfl, 1000002, .inl rfl, rfl⟩, Res.le_refl _, Res.le_refl _, Res.le_refl _, Res.le_refl _, trivial⟩
end Go.Proofs.YtellmmmohdjpeaaDoor
set_option maxRecDepth 20000
namespace Go.Proofs.YtellmmmohdjpeaaDoor
open Go Go.Eng
theorem roomL_bd {s : List Slt} (hs : sltsE s = 0) (l : List Plc) (hl : l.length ≤ 6) {k : Nat} (hk : k < s.length) : -6 ≤ (roomL s l).getD k 0 ∧ (roomL s l).getD k 0 ≤ 20 := by
  have h1 := cntD_bd l (s.getD k sl0).day l.length
  have h2 := ((slts_bd hs).2 _ (getD_mem (x := sl0) hk)).2
  rw [roomL_get l hk]
  omega
-- place
set_option maxHeartbeats 8000000 in
theorem s138 (s : List Slt) (w : List Wnt) (b : List Bsy) (hs : sltsE s = 0) (hw6 : w.length ≤ 6) (hb0 : bsysE b = 0) : ∀ (d : Nat) (l : List Plc), l.length + d = w.length → good s w l → ∀ st : PSt,
    FSpec Tryd.prog 138 [.ptr 1000000 0, .d (.int .i64 l.length), .d (.int .i64 (lostA b l))] (plR s w b l 1000002 st) (fun y r => y = .tup [] ∧ ∃ nm, (nm = 1000002 ∨ nm = 60) ∧ r = plR s w b l nm (srch s w b d l st)) := by
  intro d
  induction d with
  | zero => intro l hd g st; exact s138z s w b hw6 l (by omega) st
  | succ d ih =>
    intro l hd g st
    have hs12 := (slts_bd hs).1
    have hla := lostA_bd hb0 l (by omega)
    have hrl := roomL_len s l
    refine spec_of hT (C := []) Tryd.func138 rfl Tryd.call138 rfl rfl rfl ?_
    conv => whnf
    repeat' (first
      | (refine br_intro (fun hb => ?_) (fun hb => ?_) <;> (try simp only [decide_eq_true_eq, decide_eq_false_iff_not, Bool.not_eq_true', Bool.not_eq_false', Bool.and_eq_true, Bool.or_eq_true, beq_iff_eq, not_and, Int.not_le, Int.not_lt, Int.toNat_natCast, beq_eq_false_iff_ne, ne_eq, eq_self, not_true_eq_false, not_false_eq_true] at hb) <;> (conv => whnf))
      | (refine RegX.rule (id := 6) hT rfl [] [(0, []), (1, []), (2, []), (3, []), (4, [0, 1, 2, 3]), (5, []), (6, []), (7, []), (8, []), (9, []), (10, []), (11, [9, 10]), (12, [9, 10]), (13, [9, 10]), (14, [9, 10]), (15, [9, 10, 11, 12, 13, 14]), (16, [9, 10]), (17, [9, 10]), (18, [9, 10]), (19, []), (20, []), (21, []), (22, []), (23, []), (24, [22, 23]), (25, [22, 23]), (26, [22, 23]), (27, [22, 23]), (28, [22, 23, 24, 25, 26, 27]), (29, [22, 23]), (30, [22, 23]), (31, [22, 23]), (32, []), (33, [])] (by decide +kernel) ?_; conv => whnf)
      | (refine RegX.rule (id := 8) hT rfl [] [(0, []), (1, [0]), (2, [0]), (3, [0]), (4, [0]), (5, [0, 1, 2, 3, 4]), (6, [0, 1, 2, 3, 4]), (7, [0, 1, 2, 3, 4]), (8, [0, 1, 2, 3, 4]), (9, [0, 1, 2, 3, 4, 5, 6, 7, 8]), (10, [0, 1, 2, 3, 4]), (11, [0, 1, 2, 3, 4]), (12, [0, 1, 2, 3, 4]), (13, [0, 1, 2, 3, 4, 5, 6, 7, 8, 9, 10, 11, 12]), (14, [0, 1, 2, 3, 4, 5, 6, 7, 8, 9, 10, 11, 12]), (15, [0, 1, 2, 3, 4]), (16, [0, 1, 2, 3, 4]), (17, [0]), (18, []), (19, []), (20, [])] (by decide +kernel) ?_; conv => whnf)
      | (refine RegX.rule (id := 10) hT rfl [140] [(0, []), (1, [0]), (2, [0]), (3, [0]), (4, [0]), (5, [0, 1, 2, 3, 4]), (6, [0, 1, 2, 3, 4]), (7, [0, 1, 2, 3, 4]), (8, [0, 1, 2, 3, 4]), (9, [0, 1, 2, 3, 4]), (10, [0, 1, 2, 3, 4]), (11, [0]), (12, []), (13, []), (14, [])] (by decide +kernel) ?_; conv => whnf)
      | omega
      | (refine And.intro ?_ ?_; ((try dsimp only); first | omega | (refine ⟨by omega, by omega, Int.le_trans (Int.mul_le_mul_of_nonneg_right (Int.ofNat_le.2 (Nat.le_of_ble_eq_true (rfl : Nat.ble _ 1024 = true))) (by omega)) (by omega), by omega⟩) | (refine Nat.le_trans (Nat.mul_le_mul_left _ (Nat.le_of_ble_eq_true (rfl : Nat.ble _ 1024 = true))) ?_; omega) | (unfold inI64; omega) | (constructor <;> omega) | (simp only [inI64, List.length_cons, List.length_append, List.length_nil, List.length_set] at *; omega) | decide | (unfold inI64; decide)); conv => whnf)
      | omega | decide | assumption)
    · rw [srch, if_pos ⟨by omega, by omega⟩]
      refine .ret _ ?_
      conv => whnf
      exact ⟨_, ⟨rfl, 1000002, .inl rfl, rfl⟩, Res.le_refl _, Res.le_refl _, Res.le_refl _, Res.le_refl _, trivial⟩
    all_goals
      rw [srch, if_neg (by omega)]
      refine LoopX.rule hT (C := []) (ι := Bool × Nat) (fun (_, k) => k ≤ s.length) (fun (c, k) => mkSt [(0, .ptr 1000000 0), (1, .d (.int .i64 l.length)), (2, .d (.int .i64 (lostA b l))), (43, .d (slts s)), (44, .d (.int .i64 s.length)), (45, .d (.int .i64 k))]
        (plR s w b l (bif c then 60 else 1000002) (foldN (fun k st => if canP s w l k then srch s w b d (l ++ [plN s w l k]) st else st) k st))) (fun (_, k) => s.length - k) (false, 0) (by simp) ?_ ?_
      · exact (by refine Entails.mk' [(1000000, 1000000), (1000001, 1000001), (1000003, 1000003), (1000002, 1000002)] rfl rfl ?_ ?_ <;> repeat' (first | exact True.intro | exact SV.le_refl _ | exact Res.le_refl _ | exact SV.le_int (by omega) | exact SV.le_any _ | refine And.intro ?_ ?_))
      rintro ⟨c, k⟩ p1
      have p1 : k ≤ s.length := p1
      have e1 : (k : Int).toNat = k := Int.toNat_natCast k
      have e2 : (l.length : Int).toNat = l.length := Int.toNat_natCast _
      obtain ⟨q, hq⟩ : ∃ q, q = foldN (fun k st => if canP s w l k then srch s w b d (l ++ [plN s w l k]) st else st) k st := ⟨_, rfl⟩
      have hstep : foldN (fun k st => if canP s w l k then srch s w b d (l ++ [plN s w l k]) st else st) (k + 1) st = if canP s w l k then srch s w b d (l ++ [plN s w l k]) q else q := by rw [hq]; rfl
      have hroom : k < s.length → (roomL s l).getD k 0 = (s.getD k sl0).many - cntD l (s.getD k sl0).day l.length ∧ cntD l (s.getD k sl0).day l.length ≤ (s.getD k sl0).many ∧ (s.getD k sl0).many ≤ 20 := fun hk => ⟨roomL_get l hk, g.room k hk, ((slts_bd hs).2 _ (getD_mem hk)).2.2⟩
      have hcb := cntD_bd l (s.getD k sl0).day l.length
      obtain ⟨m, hm⟩ : ∃ m, m = l ++ [plN s w l k] := ⟨_, rfl⟩
      have hml : m.length = l.length + 1 := by rw [hm]; simp
      have hrb := fun (x : List Plc) (hx : x.length ≤ 6) (hk : k < s.length) => roomL_bd hs x hx hk
      have hrm := roomL_len s m
      have hsnoc : k < s.length → Res.le (.buf 3 1 (roomL s l).length fun i => bif Nat.beq i k then setAtD (rowF iF 0 (roomL s l) i) 0 [.int .i64 ((roomL s l).getD k 0 - 1)] else rowF iF 0 (roomL s l) i) (seqB 3 1 iF 0 (roomL s m)) := fun hk => by
        rw [hm, ← roomL_snoc w l hs hk]; exact Res.le_upd (fun _ => (roomL s l).getD k 0 - 1) (fun _ => rfl)
      have hback : k < s.length → Res.le (.buf 3 1 (roomL s m).length fun i => bif Nat.beq i k then setAtD (rowF iF 0 (roomL s m) i) 0 [.int .i64 ((roomL s m).getD k 0 + 1)] else rowF iF 0 (roomL s m) i) (seqB 3 1 iF 0 (roomL s l)) := fun hk => by
        have h := Res.le_upd (f := iF) (d := 0) (l := roomL s m) (e := 3) (k := 1) (j := k) (off := 0) (ds := [.int .i64 ((roomL s m).getD k 0 + 1)]) (fun _ => (roomL s m).getD k 0 + 1) (fun _ => rfl)
        have h2 := roomL_back w l hs hk
        rw [← hm] at h2
        rwa [h2] at h
      show wpx _ _ _ _ _ (mkSt _ (plR s w b l _ (foldN _ k st)))
      rw [← hq]
      cases c
      all_goals
        conv => whnf
        repeat' (first
          | (refine CallX.of (ih m (by omega) (by rw [hm]; exact good_snoc hs g (by omega) (by omega) ⟨by have := hroom (by omega); omega, by omega, by omega⟩) q) [(1000000, 1000000), (1000001, 1000001), (1000003, 1000003), (1000002, 110), (60, 900)] rfl ⟨SV.le_refl _, SV.le_int (by rw [hml]; omega), SV.le_int (by rw [hm, lostA_snoc]; rfl), trivial⟩ ⟨Res.le_refl _, hsnoc (by omega), Res.le_refl _, by rw [hm]; exact Res.le_snocF (x := plN s w l k) rfl, trivial⟩ rfl rfl ?_; rintro x rout ⟨rfl, nm, (rfl | rfl), rfl⟩ <;> (refine ⟨rfl, ?_⟩; conv => whnf); conv => whnf)
          | (refine And.intro (by have := lostP_bd hb0 ⟨(w.getD (l.length : Int).toNat wn0).v, (s.getD (k : Int).toNat sl0).day⟩; unfold inI64; omega) ?_; conv => whnf)
          | (refine And.intro (by have h := hrb l (by omega) (by omega); rw [e1]; unfold inI64; omega) ?_; conv => whnf)
          | (refine And.intro (by have h := hrb m (by omega) (by omega); rw [e1]; unfold inI64; omega) ?_; conv => whnf)
          | (refine br_intro (fun hb => ?_) (fun hb => ?_) <;> (try simp only [decide_eq_true_eq, decide_eq_false_iff_not, Bool.not_eq_true', Bool.not_eq_false', Bool.and_eq_true, Bool.or_eq_true, beq_iff_eq, not_and, Int.not_le, Int.not_lt, Int.toNat_natCast, beq_eq_false_iff_ne, ne_eq, eq_self, not_true_eq_false, not_false_eq_true] at hb) <;> (conv => whnf))
          | (refine RegX.rule (id := 6) hT rfl [] [(0, []), (1, []), (2, []), (3, []), (4, [0, 1, 2, 3]), (5, []), (6, []), (7, []), (8, []), (9, []), (10, []), (11, [9, 10]), (12, [9, 10]), (13, [9, 10]), (14, [9, 10]), (15, [9, 10, 11, 12, 13, 14]), (16, [9, 10]), (17, [9, 10]), (18, [9, 10]), (19, []), (20, []), (21, []), (22, []), (23, []), (24, [22, 23]), (25, [22, 23]), (26, [22, 23]), (27, [22, 23]), (28, [22, 23, 24, 25, 26, 27]), (29, [22, 23]), (30, [22, 23]), (31, [22, 23]), (32, []), (33, [])] (by decide +kernel) ?_; conv => whnf)
          | (refine RegX.rule (id := 8) hT rfl [] [(0, []), (1, [0]), (2, [0]), (3, [0]), (4, [0]), (5, [0, 1, 2, 3, 4]), (6, [0, 1, 2, 3, 4]), (7, [0, 1, 2, 3, 4]), (8, [0, 1, 2, 3, 4]), (9, [0, 1, 2, 3, 4, 5, 6, 7, 8]), (10, [0, 1, 2, 3, 4]), (11, [0, 1, 2, 3, 4]), (12, [0, 1, 2, 3, 4]), (13, [0, 1, 2, 3, 4, 5, 6, 7, 8, 9, 10, 11, 12]), (14, [0, 1, 2, 3, 4, 5, 6, 7, 8, 9, 10, 11, 12]), (15, [0, 1, 2, 3, 4]), (16, [0, 1, 2, 3, 4]), (17, [0]), (18, []), (19, []), (20, [])] (by decide +kernel) ?_; conv => whnf)
          | (refine RegX.rule (id := 10) hT rfl [140] [(0, []), (1, [0]), (2, [0]), (3, [0]), (4, [0]), (5, [0, 1, 2, 3, 4]), (6, [0, 1, 2, 3, 4]), (7, [0, 1, 2, 3, 4]), (8, [0, 1, 2, 3, 4]), (9, [0, 1, 2, 3, 4]), (10, [0, 1, 2, 3, 4]), (11, [0]), (12, []), (13, []), (14, [])] (by decide +kernel) ?_; conv => whnf)
          | omega
          | (refine And.intro ?_ ?_; ((try dsimp only); first | omega | (refine ⟨by omega, by omega, Int.le_trans (Int.mul_le_mul_of_nonneg_right (Int.ofNat_le.2 (Nat.le_of_ble_eq_true (rfl : Nat.ble _ 1024 = true))) (by omega)) (by omega), by omega⟩) | (refine Nat.le_trans (Nat.mul_le_mul_left _ (Nat.le_of_ble_eq_true (rfl : Nat.ble _ 1024 = true))) ?_; omega) | (unfold inI64; omega) | (constructor <;> omega) | (simp only [inI64, List.length_cons, List.length_append, List.length_nil, List.length_set] at *; omega) | decide | (unfold inI64; decide)); conv => whnf)
          | omega | decide | assumption)
        all_goals first
          | (obtain rfl : k = s.length := by omega
             rw [← hq]
             refine .ret _ ?_
             (conv => whnf)
             first
               | exact ⟨_, ⟨rfl, 1000002, .inl rfl, rfl⟩, Res.le_refl _, Res.le_refl _, Res.le_refl _, Res.le_refl _, trivial⟩
               | exact ⟨_, ⟨rfl, 60, .inr rfl, rfl⟩, Res.le_refl _, Res.le_refl _, Res.le_refl _, Res.le_refl _, trivial⟩)
          | (have hno : ¬ canP s w l k := fun h => by
               unfold canP at h
               have := hroom (by omega)
               omega
             first
               | (refine ⟨(false, k + 1), (show k + 1 ≤ s.length by omega), (show s.length - (k + 1) < s.length - k by omega), ?_⟩
                  show Entails _ (mkSt _ (plR s w b l _ (foldN _ (k + 1) st)))
                  rw [hstep, if_neg hno]
                  exact Entails.mk' [(1000000, 1000000), (1000001, 1000001), (1000003, 1000003), (1000002, 1000002)] rfl rfl ⟨SV.le_refl _, SV.le_refl _, SV.le_refl _, SV.le_refl _, SV.le_refl _, SV.le_refl _, trivial⟩ ⟨Res.le_refl _, Res.le_refl _, Res.le_refl _, Res.le_refl _, trivial⟩)
               | (refine ⟨(true, k + 1), (show k + 1 ≤ s.length by omega), (show s.length - (k + 1) < s.length - k by omega), ?_⟩
                  show Entails _ (mkSt _ (plR s w b l _ (foldN _ (k + 1) st)))
                  rw [hstep, if_neg hno]
                  exact Entails.mk' [(1000000, 1000000), (1000001, 1000001), (1000003, 1000003), (60, 60)] rfl rfl ⟨SV.le_refl _, SV.le_refl _, SV.le_refl _, SV.le_refl _, SV.le_refl _, SV.le_refl _, trivial⟩ ⟨Res.le_refl _, Res.le_refl _, Res.le_refl _, Res.le_refl _, trivial⟩))
          | (have hyes : canP s w l k := ⟨by have := hroom (by omega); omega, by omega, by omega⟩
             refine ⟨(true, k + 1), (show k + 1 ≤ s.length by omega), (show s.length - (k + 1) < s.length - k by omega), ?_⟩
             show Entails _ (mkSt _ (plR s w b l _ (foldN _ (k + 1) st)))
             rw [hstep, if_pos hyes, ← hm]
             exact Entails.mk' [(1000000, 1000000), (1000001, 1000001), (1000003, 1000003), (60, 140)] rfl rfl ⟨SV.le_refl _, SV.le_refl _, SV.le_refl _, SV.le_refl _, SV.le_refl _, SV.le_refl _, trivial⟩ ⟨Res.le_refl _, hback (by omega), Res.le_refl _, Res.le_cut (by omega) (fun i hi => by rw [hm, getD_app_lt hi]), trivial⟩)
          | trace_state
end Go.Proofs.YtellmmmohdjpeaaDoor
set_option maxRecDepth 20000
namespace Go.Proofs.YtellmmmohdjpeaaDoor
open Go Go.Eng
abbrev plZ (s : List Slt) (w : List Wnt) (b : List Bsy) (l : List Plc) (st : PSt) : List (Nat × Res) :=
  [(1000000, plX s w (.d .nilsl) st), (1000001, seqB 3 1 iF 0 (roomL s l)), (1000003, .fro 1 w.length (costG s w b))]
-- place
set_option maxHeartbeats 8000000 in
theorem s138n (s : List Slt) (w : List Wnt) (b : List Bsy) (hs : sltsE s = 0) (hw6 : w.length ≤ 6) (hb0 : bsysE b = 0) (d : Nat) (l : List Plc) (hl0 : l = []) (hd : l.length + d = w.length) (g : good s w l) (st : PSt) :
    FSpec Tryd.prog 138 [.ptr 1000000 0, .d (.int .i64 l.length), .d (.int .i64 (lostA b l))] (plZ s w b l st) (fun y r => y = .tup [] ∧ (r = plZ s w b l (srch s w b d l st) ∨ r = plR s w b l 60 (srch s w b d l st))) := by
  cases d with
  | zero =>
    refine spec_of hT (C := []) Tryd.func138 rfl Tryd.call138 rfl rfl rfl ?_
    conv => whnf
    repeat' (first
      | (refine CallX.pure (s140f [] (by simp)) ⟨SV.le_nilS, trivial⟩ rfl ?_; conv => whnf)
      | (refine br_intro (fun hb => ?_) (fun hb => ?_) <;> (try simp only [decide_eq_true_eq, decide_eq_false_iff_not, Bool.not_eq_true', Bool.not_eq_false', Bool.and_eq_true, Bool.or_eq_true, beq_iff_eq, not_and, Int.not_le, Int.not_lt, Int.toNat_natCast, beq_eq_false_iff_ne, ne_eq, eq_self, not_true_eq_false, not_false_eq_true] at hb) <;> (conv => whnf))
      | (refine RegX.rule (id := 6) hT rfl [] [(0, []), (1, []), (2, []), (3, []), (4, [0, 1, 2, 3]), (5, []), (6, []), (7, []), (8, []), (9, []), (10, []), (11, [9, 10]), (12, [9, 10]), (13, [9, 10]), (14, [9, 10]), (15, [9, 10, 11, 12, 13, 14]), (16, [9, 10]), (17, [9, 10]), (18, [9, 10]), (19, []), (20, []), (21, []), (22, []), (23, []), (24, [22, 23]), (25, [22, 23]), (26, [22, 23]), (27, [22, 23]), (28, [22, 23, 24, 25, 26, 27]), (29, [22, 23]), (30, [22, 23]), (31, [22, 23]), (32, []), (33, [])] (by decide +kernel) ?_; conv => whnf)
      | (refine RegX.rule (id := 8) hT rfl [] [(0, []), (1, [0]), (2, [0]), (3, [0]), (4, [0]), (5, [0, 1, 2, 3, 4]), (6, [0, 1, 2, 3, 4]), (7, [0, 1, 2, 3, 4]), (8, [0, 1, 2, 3, 4]), (9, [0, 1, 2, 3, 4, 5, 6, 7, 8]), (10, [0, 1, 2, 3, 4]), (11, [0, 1, 2, 3, 4]), (12, [0, 1, 2, 3, 4]), (13, [0, 1, 2, 3, 4, 5, 6, 7, 8, 9, 10, 11, 12]), (14, [0, 1, 2, 3, 4, 5, 6, 7, 8, 9, 10, 11, 12]), (15, [0, 1, 2, 3, 4]), (16, [0, 1, 2, 3, 4]), (17, [0]), (18, []), (19, []), (20, [])] (by decide +kernel) ?_; conv => whnf)
      | (refine RegX.rule (id := 10) hT rfl [140] [(0, []), (1, [0]), (2, [0]), (3, [0]), (4, [0]), (5, [0, 1, 2, 3, 4]), (6, [0, 1, 2, 3, 4]), (7, [0, 1, 2, 3, 4]), (8, [0, 1, 2, 3, 4]), (9, [0, 1, 2, 3, 4]), (10, [0, 1, 2, 3, 4]), (11, [0]), (12, []), (13, []), (14, [])] (by decide +kernel) ?_; conv => whnf)
      | omega
      | (refine And.intro ?_ ?_; ((try dsimp only); first | omega | (refine ⟨by omega, by omega, Int.le_trans (Int.mul_le_mul_of_nonneg_right (Int.ofNat_le.2 (Nat.le_of_ble_eq_true (rfl : Nat.ble _ 1024 = true))) (by omega)) (by omega), by omega⟩) | (refine Nat.le_trans (Nat.mul_le_mul_left _ (Nat.le_of_ble_eq_true (rfl : Nat.ble _ 1024 = true))) ?_; omega) | (unfold inI64; omega) | (constructor <;> omega) | (simp only [inI64, List.length_cons, List.length_append, List.length_nil, List.length_set] at *; omega) | decide | (unfold inI64; decide)); conv => whnf)
      | omega | decide | assumption)
    · rw [srch, if_pos ⟨by omega, by omega⟩]
      refine .ret _ ?_
      conv => whnf
      exact ⟨_, ⟨rfl, .inl rfl⟩, Res.le_refl _, Res.le_refl _, Res.le_refl _, trivial⟩
    all_goals
      rw [srch, if_neg (by omega)]
      subst hl0
      refine .ret _ ?_
      conv => whnf
      exact ⟨_, ⟨rfl, .inl rfl⟩, Res.le_refl _, Res.le_refl _, Res.le_refl _, trivial⟩
  | succ d =>
    have ih := s138 s w b hs hw6 hb0 d
    have hs12 := (slts_bd hs).1
    have hla := lostA_bd hb0 l (by omega)
    have hrl := roomL_len s l
    refine spec_of hT (C := []) Tryd.func138 rfl Tryd.call138 rfl rfl rfl ?_
    conv => whnf
    repeat' (first
      | (refine br_intro (fun hb => ?_) (fun hb => ?_) <;> (try simp only [decide_eq_true_eq, decide_eq_false_iff_not, Bool.not_eq_true', Bool.not_eq_false', Bool.and_eq_true, Bool.or_eq_true, beq_iff_eq, not_and, Int.not_le, Int.not_lt, Int.toNat_natCast, beq_eq_false_iff_ne, ne_eq, eq_self, not_true_eq_false, not_false_eq_true] at hb) <;> (conv => whnf))
      | (refine RegX.rule (id := 6) hT rfl [] [(0, []), (1, []), (2, []), (3, []), (4, [0, 1, 2, 3]), (5, []), (6, []), (7, []), (8, []), (9, []), (10, []), (11, [9, 10]), (12, [9, 10]), (13, [9, 10]), (14, [9, 10]), (15, [9, 10, 11, 12, 13, 14]), (16, [9, 10]), (17, [9, 10]), (18, [9, 10]), (19, []), (20, []), (21, []), (22, []), (23, []), (24, [22, 23]), (25, [22, 23]), (26, [22, 23]), (27, [22, 23]), (28, [22, 23, 24, 25, 26, 27]), (29, [22, 23]), (30, [22, 23]), (31, [22, 23]), (32, []), (33, [])] (by decide +kernel) ?_; conv => whnf)
      | (refine RegX.rule (id := 8) hT rfl [] [(0, []), (1, [0]), (2, [0]), (3, [0]), (4, [0]), (5, [0, 1, 2, 3, 4]), (6, [0, 1, 2, 3, 4]), (7, [0, 1, 2, 3, 4]), (8, [0, 1, 2, 3, 4]), (9, [0, 1, 2, 3, 4, 5, 6, 7, 8]), (10, [0, 1, 2, 3, 4]), (11, [0, 1, 2, 3, 4]), (12, [0, 1, 2, 3, 4]), (13, [0, 1, 2, 3, 4, 5, 6, 7, 8, 9, 10, 11, 12]), (14, [0, 1, 2, 3, 4, 5, 6, 7, 8, 9, 10, 11, 12]), (15, [0, 1, 2, 3, 4]), (16, [0, 1, 2, 3, 4]), (17, [0]), (18, []), (19, []), (20, [])] (by decide +kernel) ?_; conv => whnf)
      | (refine RegX.rule (id := 10) hT rfl [140] [(0, []), (1, [0]), (2, [0]), (3, [0]), (4, [0]), (5, [0, 1, 2, 3, 4]), (6, [0, 1, 2, 3, 4]), (7, [0, 1, 2, 3, 4]), (8, [0, 1, 2, 3, 4]), (9, [0, 1, 2, 3, 4]), (10, [0, 1, 2, 3, 4]), (11, [0]), (12, []), (13, []), (14, [])] (by decide +kernel) ?_; conv => whnf)
      | omega
      | (refine And.intro ?_ ?_; ((try dsimp only); first | omega | (refine ⟨by omega, by omega, Int.le_trans (Int.mul_le_mul_of_nonneg_right (Int.ofNat_le.2 (Nat.le_of_ble_eq_true (rfl : Nat.ble _ 1024 = true))) (by omega)) (by omega), by omega⟩) | (refine Nat.le_trans (Nat.mul_le_mul_left _ (Nat.le_of_ble_eq_true (rfl : Nat.ble _ 1024 = true))) ?_; omega) | (unfold inI64; omega) | (constructor <;> omega) | (simp only [inI64, List.length_cons, List.length_append, List.length_nil, List.length_set] at *; omega) | decide | (unfold inI64; decide)); conv => whnf)
      | omega | decide | assumption)
    · rw [srch, if_pos ⟨by omega, by omega⟩]
      refine .ret _ ?_
      conv => whnf
      exact ⟨_, ⟨rfl, .inl rfl⟩, Res.le_refl _, Res.le_refl _, Res.le_refl _, trivial⟩
    all_goals
      rw [srch, if_neg (by omega)]
      refine LoopX.rule hT (C := []) (ι := Bool × Nat) (fun (_, k) => k ≤ s.length) (fun (c, k) => mkSt [(0, .ptr 1000000 0), (1, .d (.int .i64 l.length)), (2, .d (.int .i64 (lostA b l))), (43, .d (slts s)), (44, .d (.int .i64 s.length)), (45, .d (.int .i64 k))]
        (bif c then plR s w b l 60 (foldN (fun k st => if canP s w l k then srch s w b d (l ++ [plN s w l k]) st else st) k st) else plZ s w b l (foldN (fun k st => if canP s w l k then srch s w b d (l ++ [plN s w l k]) st else st) k st))) (fun (_, k) => s.length - k) (false, 0) (by simp) ?_ ?_
      · exact (by refine Entails.mk' [(1000000, 1000000), (1000001, 1000001), (1000003, 1000003)] rfl rfl ?_ ?_ <;> repeat' (first | exact True.intro | exact SV.le_refl _ | exact Res.le_refl _ | exact SV.le_int (by omega) | exact SV.le_any _ | refine And.intro ?_ ?_))
      rintro ⟨c, k⟩ p1
      have p1 : k ≤ s.length := p1
      have e1 : (k : Int).toNat = k := Int.toNat_natCast k
      have e2 : (l.length : Int).toNat = l.length := Int.toNat_natCast _
      obtain ⟨q, hq⟩ : ∃ q, q = foldN (fun k st => if canP s w l k then srch s w b d (l ++ [plN s w l k]) st else st) k st := ⟨_, rfl⟩
      have hstep : foldN (fun k st => if canP s w l k then srch s w b d (l ++ [plN s w l k]) st else st) (k + 1) st = if canP s w l k then srch s w b d (l ++ [plN s w l k]) q else q := by rw [hq]; rfl
      have hroom : k < s.length → (roomL s l).getD k 0 = (s.getD k sl0).many - cntD l (s.getD k sl0).day l.length ∧ cntD l (s.getD k sl0).day l.length ≤ (s.getD k sl0).many ∧ (s.getD k sl0).many ≤ 20 := fun hk => ⟨roomL_get l hk, g.room k hk, ((slts_bd hs).2 _ (getD_mem hk)).2.2⟩
      have hcb := cntD_bd l (s.getD k sl0).day l.length
      obtain ⟨m, hm⟩ : ∃ m, m = l ++ [plN s w l k] := ⟨_, rfl⟩
      have hml : m.length = l.length + 1 := by rw [hm]; simp
      have hrb := fun (x : List Plc) (hx : x.length ≤ 6) (hk : k < s.length) => roomL_bd hs x hx hk
      have hrm := roomL_len s m
      have hsnoc : k < s.length → Res.le (.buf 3 1 (roomL s l).length fun i => bif Nat.beq i k then setAtD (rowF iF 0 (roomL s l) i) 0 [.int .i64 ((roomL s l).getD k 0 - 1)] else rowF iF 0 (roomL s l) i) (seqB 3 1 iF 0 (roomL s m)) := fun hk => by
        rw [hm, ← roomL_snoc w l hs hk]; exact Res.le_upd (fun _ => (roomL s l).getD k 0 - 1) (fun _ => rfl)
      have hback : k < s.length → Res.le (.buf 3 1 (roomL s m).length fun i => bif Nat.beq i k then setAtD (rowF iF 0 (roomL s m) i) 0 [.int .i64 ((roomL s m).getD k 0 + 1)] else rowF iF 0 (roomL s m) i) (seqB 3 1 iF 0 (roomL s l)) := fun hk => by
        have h := Res.le_upd (f := iF) (d := 0) (l := roomL s m) (e := 3) (k := 1) (j := k) (off := 0) (ds := [.int .i64 ((roomL s m).getD k 0 + 1)]) (fun _ => (roomL s m).getD k 0 + 1) (fun _ => rfl)
        have h2 := roomL_back w l hs hk
        rw [← hm] at h2
        rwa [h2] at h
      show wpx _ _ _ _ _ (mkSt _ (bif c then plR s w b l 60 (foldN _ k st) else plZ s w b l (foldN _ k st)))
      rw [← hq]
      cases c
      all_goals
        conv => whnf
        repeat' (first
          | (refine CallX.of (ih m (by omega) (by rw [hm]; exact good_snoc hs g (by omega) (by omega) ⟨by have := hroom (by omega); omega, by omega, by omega⟩) q) [(1000000, 1000000), (1000001, 1000001), (1000003, 1000003), (1000002, 110), (60, 900)] rfl ⟨SV.le_refl _, SV.le_int (by rw [hml]; omega), SV.le_int (by rw [hm, lostA_snoc]; rfl), trivial⟩ ⟨Res.le_refl _, hsnoc (by omega), Res.le_refl _, by rw [hm]; first | exact Res.le_snocF (x := plN s w l k) rfl | (rw [hl0]; exact Res.le_lit rfl rfl), trivial⟩ rfl rfl ?_; rintro x rout ⟨rfl, nm, (rfl | rfl), rfl⟩ <;> (refine ⟨rfl, ?_⟩; conv => whnf); conv => whnf)
          | (refine And.intro (by have := lostP_bd hb0 ⟨(w.getD (l.length : Int).toNat wn0).v, (s.getD (k : Int).toNat sl0).day⟩; unfold inI64; omega) ?_; conv => whnf)
          | (refine And.intro (by have h := hrb l (by omega) (by omega); rw [e1]; unfold inI64; omega) ?_; conv => whnf)
          | (refine And.intro (by have h := hrb m (by omega) (by omega); rw [e1]; unfold inI64; omega) ?_; conv => whnf)
          | (refine br_intro (fun hb => ?_) (fun hb => ?_) <;> (try simp only [decide_eq_true_eq, decide_eq_false_iff_not, Bool.not_eq_true', Bool.not_eq_false', Bool.and_eq_true, Bool.or_eq_true, beq_iff_eq, not_and, Int.not_le, Int.not_lt, Int.toNat_natCast, beq_eq_false_iff_ne, ne_eq, eq_self, not_true_eq_false, not_false_eq_true] at hb) <;> (conv => whnf))
          | (refine RegX.rule (id := 6) hT rfl [] [(0, []), (1, []), (2, []), (3, []), (4, [0, 1, 2, 3]), (5, []), (6, []), (7, []), (8, []), (9, []), (10, []), (11, [9, 10]), (12, [9, 10]), (13, [9, 10]), (14, [9, 10]), (15, [9, 10, 11, 12, 13, 14]), (16, [9, 10]), (17, [9, 10]), (18, [9, 10]), (19, []), (20, []), (21, []), (22, []), (23, []), (24, [22, 23]), (25, [22, 23]), (26, [22, 23]), (27, [22, 23]), (28, [22, 23, 24, 25, 26, 27]), (29, [22, 23]), (30, [22, 23]), (31, [22, 23]), (32, []), (33, [])] (by decide +kernel) ?_; conv => whnf)
          | (refine RegX.rule (id := 8) hT rfl [] [(0, []), (1, [0]), (2, [0]), (3, [0]), (4, [0]), (5, [0, 1, 2, 3, 4]), (6, [0, 1, 2, 3, 4]), (7, [0, 1, 2, 3, 4]), (8, [0, 1, 2, 3, 4]), (9, [0, 1, 2, 3, 4, 5, 6, 7, 8]), (10, [0, 1, 2, 3, 4]), (11, [0, 1, 2, 3, 4]), (12, [0, 1, 2, 3, 4]), (13, [0, 1, 2, 3, 4, 5, 6, 7, 8, 9, 10, 11, 12]), (14, [0, 1, 2, 3, 4, 5, 6, 7, 8, 9, 10, 11, 12]), (15, [0, 1, 2, 3, 4]), (16, [0, 1, 2, 3, 4]), (17, [0]), (18, []), (19, []), (20, [])] (by decide +kernel) ?_; conv => whnf)
          | (refine RegX.rule (id := 10) hT rfl [140] [(0, []), (1, [0]), (2, [0]), (3, [0]), (4, [0]), (5, [0, 1, 2, 3, 4]), (6, [0, 1, 2, 3, 4]), (7, [0, 1, 2, 3, 4]), (8, [0, 1, 2, 3, 4]), (9, [0, 1, 2, 3, 4]), (10, [0, 1, 2, 3, 4]), (11, [0]), (12, []), (13, []), (14, [])] (by decide +kernel) ?_; conv => whnf)
          | omega
          | (refine And.intro ?_ ?_; ((try dsimp only); first | omega | (refine ⟨by omega, by omega, Int.le_trans (Int.mul_le_mul_of_nonneg_right (Int.ofNat_le.2 (Nat.le_of_ble_eq_true (rfl : Nat.ble _ 1024 = true))) (by omega)) (by omega), by omega⟩) | (refine Nat.le_trans (Nat.mul_le_mul_left _ (Nat.le_of_ble_eq_true (rfl : Nat.ble _ 1024 = true))) ?_; omega) | (unfold inI64; omega) | (constructor <;> omega) | (simp only [inI64, List.length_cons, List.length_append, List.length_nil, List.length_set] at *; omega) | decide | (unfold inI64; decide)); conv => whnf)
          | omega | decide | assumption)
        all_goals first
          | (obtain rfl : k = s.length := by omega
             rw [← hq]
             refine .ret _ ?_
             (conv => whnf)
             first
               | exact ⟨_, ⟨rfl, .inl rfl⟩, Res.le_refl _, Res.le_refl _, Res.le_refl _, trivial⟩
               | exact ⟨_, ⟨rfl, .inr rfl⟩, Res.le_refl _, Res.le_refl _, Res.le_refl _, Res.le_refl _, trivial⟩)
          | (have hno : ¬ canP s w l k := fun h => by
               unfold canP at h
               have := hroom (by omega)
               omega
             first
               | (refine ⟨(false, k + 1), (show k + 1 ≤ s.length by omega), (show s.length - (k + 1) < s.length - k by omega), ?_⟩
                  show Entails _ (mkSt _ (plZ s w b l (foldN _ (k + 1) st)))
                  rw [hstep, if_neg hno]
                  exact Entails.mk' [(1000000, 1000000), (1000001, 1000001), (1000003, 1000003)] rfl rfl ⟨SV.le_refl _, SV.le_refl _, SV.le_refl _, SV.le_refl _, SV.le_refl _, SV.le_refl _, trivial⟩ ⟨Res.le_refl _, Res.le_refl _, Res.le_refl _, trivial⟩)
               | (refine ⟨(true, k + 1), (show k + 1 ≤ s.length by omega), (show s.length - (k + 1) < s.length - k by omega), ?_⟩
                  show Entails _ (mkSt _ (plR s w b l _ (foldN _ (k + 1) st)))
                  rw [hstep, if_neg hno]
                  exact Entails.mk' [(1000000, 1000000), (1000001, 1000001), (1000003, 1000003), (60, 60)] rfl rfl ⟨SV.le_refl _, SV.le_refl _, SV.le_refl _, SV.le_refl _, SV.le_refl _, SV.le_refl _, trivial⟩ ⟨Res.le_refl _, Res.le_refl _, Res.le_refl _, Res.le_refl _, trivial⟩))
          | (have hyes : canP s w l k := ⟨by have := hroom (by omega); omega, by omega, by omega⟩
             refine ⟨(true, k + 1), (show k + 1 ≤ s.length by omega), (show s.length - (k + 1) < s.length - k by omega), ?_⟩
             show Entails _ (mkSt _ (plR s w b l _ (foldN _ (k + 1) st)))
             rw [hstep, if_pos hyes, ← hm]
             exact Entails.mk' [(1000000, 1000000), (1000001, 1000001), (1000003, 1000003), (60, 140)] rfl rfl ⟨SV.le_refl _, SV.le_refl _, SV.le_refl _, SV.le_refl _, SV.le_refl _, SV.le_refl _, trivial⟩ ⟨Res.le_refl _, hback (by omega), Res.le_refl _, Res.le_cut (by omega) (fun i hi => by rw [hm, getD_app_lt hi]), trivial⟩)
          | trace_state
end Go.Proofs.YtellmmmohdjpeaaDoor
set_option maxRecDepth 20000
namespace Go.Proofs.YtellmmmohdjpeaaDoor
open Go Go.Eng
theorem Res.le_bufD {e k n m : Nat} {g h : Nat → List DV} (hn : n = m) (hl : ∀ i, i < n → (h i).length = (g i).length)
    (hg : ∀ (i j : Nat) (x : DV), i < n → (h i)[j]? = some x → ∃ y, (g i)[j]? = some y ∧ ∀ G u, DV.Den G y u → DV.Den G x u) : Res.le (.buf e k n g) (.buf e k m h) := by
  subst hn
  refine ⟨rfl, fun G β w d => ?_⟩
  rintro ⟨v, xs, h1, h2, h3, h4, h5⟩
  refine ⟨v, xs, h1, h2, h3, fun i hi => by rw [hl i hi]; exact h4 i hi, fun i j x hi hx => ?_⟩
  obtain ⟨y, y1, y2⟩ := hg i j x hi hx
  obtain ⟨u, u1, u2⟩ := h5 i j y hi y1
  exact ⟨u, u1, y2 G u u2⟩
def roomM (s : List Slt) (k : Nat) : List Int := (List.range k).map fun i => (s.getD i sl0).many
theorem roomM_succ (s : List Slt) (k : Nat) : roomM s (k + 1) = roomM s k ++ [(s.getD k sl0).many] := by
  unfold roomM; rw [List.range_succ, List.map_append]; rfl
theorem roomM_end (s : List Slt) : roomM s s.length = roomL s [] := by
  unfold roomM roomL
  exact List.map_congr_left fun k _ => by show _ = _ - (0 : Int); omega
def rowM (s : List Slt) (w : List Wnt) (b : List Bsy) (i k : Nat) : List Int := (List.range k).map fun j => lostP b ⟨(w.getD i wn0).v, (s.getD j sl0).day⟩
theorem rowM_succ (s : List Slt) (w : List Wnt) (b : List Bsy) (i k : Nat) : rowM s w b i (k + 1) = rowM s w b i k ++ [lostP b ⟨(w.getD i wn0).v, (s.getD k sl0).day⟩] := by
  unfold rowM; rw [List.range_succ, List.map_append]; rfl
theorem rowM_len (s : List Slt) (w : List Wnt) (b : List Bsy) (i k : Nat) : (rowM s w b i k).length = k := by simp [rowM]
theorem rowM_get (s : List Slt) (w : List Wnt) (b : List Bsy) (i : Nat) {j k : Nat} (h : j < k) : rowF iF 0 (rowM s w b i k) j = [.int .i64 (lostP b ⟨(w.getD i wn0).v, (s.getD j sl0).day⟩)] := by
  simp only [rowF, iF]
  rw [List.getD_eq_getElem?_getD]
  simp [rowM, h]
abbrev costB (s : List Slt) (w : List Wnt) (b : List Bsy) (i : Nat) : Res := .buf 22 1 i (costG s w b)
theorem cost_le {s : List Slt} {w : List Wnt} {b : List Bsy} {i n : Nat} {g : Nat → List DV} {h : Nat → List DV} (hh : h 0 = [.ro 1 n g]) (hn : n = s.length) (hg : ∀ j, j < n → g j = [.int .i64 (lostP b ⟨(w.getD i wn0).v, (s.getD j sl0).day⟩)]) :
    Res.le (.buf 22 1 (i + 1) (appGet i (costG s w b) h)) (costB s w b (i + 1)) := by
  refine Res.le_bufD rfl (fun j hj => ?_) (fun j c x hj hx => ?_)
  · rcases Nat.lt_or_ge j i with q | q
    · rw [appGet_lt q]
    · have : j = i := by omega
      subst this
      rw [appGet_ge (Nat.le_refl _), Nat.sub_self, hh]; rfl
  · rcases Nat.lt_or_ge j i with q | q
    · rw [appGet_lt q]; exact ⟨x, hx, fun _ _ h => h⟩
    · have : j = i := by omega
      subst this
      rw [appGet_ge (Nat.le_refl _), Nat.sub_self, hh]
      cases c with
      | zero =>
        refine ⟨_, rfl, fun G u hu => ?_⟩
        cases hx
        exact DV.ro_ext hn hg hu
      | succ c => simp [costG] at hx
abbrev plY (s : List Slt) (w : List Wnt) : Res := .cells 230 [.d (slts s), .buf 60, .d (wnts w), .buf 61, .d .nilsl, .d .nilsl, .d (.int .i64 (-1))]
def placeV (s : List Slt) (w : List Wnt) (b : List Bsy) : SV :=
  if firstE [sltsE s, wntsE w, bsysE b] ≠ 0 then .tup [.d .nilsl, .d (.int .i64 0), .d (.int .i64 (firstE [sltsE s, wntsE w, bsysE b]))]
  else if (srch0 s w b).2 < 0 then .tup [.d .nilsl, .d (.int .i64 0), .d (.int .i64 12)] else .tup [.d (plcs (srch0 s w b).1), .d (.int .i64 (srch0 s w b).2), .d (.int .i64 0)]
-- shift.Place
set_option maxHeartbeats 2000000 in
theorem s72 (s : List Slt) (w : List Wnt) (b : List Bsy) (hs0 : slOk s) (hw0 : wnOk w) (hb0 : bsOk b) : FSpec Tryd.prog 72 [.d (slts s), .d (wnts w), .d (bsys b)] [] (fun x r => x = placeV s w b ∧ r = []) := by
  have h105 := s105 [sltsE s, wntsE w, bsysE b] (by simp)
  refine spec_of hT (C := []) Tryd.func72 rfl Tryd.call72 rfl rfl rfl ?_
  conv => whnf
  repeat' (first
    | (refine CallX.exact (s134 s hs0) rfl rfl ?_; rotate_right; conv => whnf)
    | (refine CallX.exact (s135 w hw0) rfl rfl ?_; rotate_right; conv => whnf)
    | (refine CallX.exact (s136 b hb0) rfl rfl ?_; rotate_right; conv => whnf)
    | (refine CallX.pure h105 ⟨SV.le_lit (by rfl) (by rfl), trivial⟩ rfl ?_; conv => whnf)
    | (refine br_intro (fun hb => ?_) (fun hb => ?_) <;> (try simp only [decide_eq_true_eq, decide_eq_false_iff_not, Bool.not_eq_true', Bool.not_eq_false', Bool.and_eq_true, Bool.or_eq_true, beq_iff_eq, not_and, Int.not_le, Int.not_lt, Int.toNat_natCast, beq_eq_false_iff_ne, ne_eq, eq_self, not_true_eq_false, not_false_eq_true] at hb) <;> (conv => whnf))
    | (refine RegX.rule (id := 8) hT rfl [] [(0, []), (1, [0]), (2, [0]), (3, [0]), (4, [0]), (5, [0, 1, 2, 3, 4]), (6, [0, 1, 2, 3, 4]), (7, [0, 1, 2, 3, 4]), (8, [0]), (9, []), (10, []), (11, [])] (by decide +kernel) ?_; conv => whnf)
    | (refine RegX.rule (id := 24) hT rfl [] [(0, []), (1, []), (2, []), (3, []), (4, [0, 1, 2, 3]), (5, [0, 1, 2, 3]), (6, [0, 1, 2, 3]), (7, [0, 1, 2, 3]), (8, [4, 5, 6, 7]), (9, []), (10, [])] (by decide +kernel) ?_; conv => whnf)
    | omega
    | (refine And.intro ?_ ?_; ((try dsimp only); first | omega | (refine ⟨by omega, by omega, Int.le_trans (Int.mul_le_mul_of_nonneg_right (Int.ofNat_le.2 (Nat.le_of_ble_eq_true (rfl : Nat.ble _ 1024 = true))) (by omega)) (by omega), by omega⟩) | (refine Nat.le_trans (Nat.mul_le_mul_left _ (Nat.le_of_ble_eq_true (rfl : Nat.ble _ 1024 = true))) ?_; omega) | (unfold inI64; omega) | (constructor <;> omega) | (simp only [inI64, List.length_cons, List.length_append, List.length_nil, List.length_set] at *; omega) | decide | (unfold inI64; decide)); conv => whnf)
    | omega | decide | assumption)
  · unfold placeV
    rw [if_pos (by assumption)]
    refine .ret _ ?_
    conv => whnf
    refine ⟨[], ⟨congrArg SV.tup ?_, rfl⟩, trivial⟩
    repeat' (refine cons_eq ?_ ?_)
    all_goals (conv => lhs; whnf)
    all_goals try (with_reducible rfl)
    all_goals rfl
  have hz : firstE [sltsE s, wntsE w, bsysE b] = 0 := by omega
  have hs : sltsE s = 0 := by simp only [firstE] at hz; grind
  have hw : wntsE w = 0 := by simp only [firstE] at hz; grind
  have hb1 : bsysE b = 0 := by simp only [firstE] at hz; grind
  have hs12 := (slts_bd hs).1
  have hw6 := (wnts_key hw).1
  refine LoopX.rule hT (C := []) (ι := Nat) (fun k => k ≤ s.length) (fun k => mkSt [(0, .d (slts s)), (1, .d (wnts w)), (2, .d (bsys b)), (10, .ptr 32 0), (33, .d (slts s)), (34, .d (.int .i64 s.length)), (35, .d (.int .i64 k))]
    [(32, plY s w), (60, seqB 3 1 iF 0 (roomM s k)), (61, costB s w b 0)]) (fun k => s.length - k) 0 (by omega) ?_ ?_
  · exact (Entails.nilCell 32 60 3 1 1 (rowF iF 0 []) rfl rfl rfl (by decide) rfl).trans ((Entails.nilCell 32 61 22 1 3 (costG s w b) rfl rfl rfl (by decide) rfl).trans (by refine Entails.mk' [(32, 32), (60, 60), (61, 61)] rfl rfl ?_ ?_ <;> repeat' (first | exact True.intro | exact SV.le_refl _ | exact Res.le_refl _ | exact SV.le_int (by omega) | exact SV.le_any _ | refine And.intro ?_ ?_)))
  rintro k p1
  have e1 : (k : Int).toNat = k := Int.toNat_natCast k
  have hrm : (roomM s k).length = k := by simp [roomM]
  conv => whnf
  repeat' (first
    | (refine br_intro (fun hb => ?_) (fun hb => ?_) <;> (try simp only [decide_eq_true_eq, decide_eq_false_iff_not, Bool.not_eq_true', Bool.not_eq_false', Bool.and_eq_true, Bool.or_eq_true, beq_iff_eq, not_and, Int.not_le, Int.not_lt, Int.toNat_natCast, beq_eq_false_iff_ne, ne_eq, eq_self, not_true_eq_false, not_false_eq_true] at hb) <;> (conv => whnf))
    | (refine RegX.rule (id := 8) hT rfl [] [(0, []), (1, [0]), (2, [0]), (3, [0]), (4, [0]), (5, [0, 1, 2, 3, 4]), (6, [0, 1, 2, 3, 4]), (7, [0, 1, 2, 3, 4]), (8, [0]), (9, []), (10, []), (11, [])] (by decide +kernel) ?_; conv => whnf)
    | (refine RegX.rule (id := 24) hT rfl [] [(0, []), (1, []), (2, []), (3, []), (4, [0, 1, 2, 3]), (5, [0, 1, 2, 3]), (6, [0, 1, 2, 3]), (7, [0, 1, 2, 3]), (8, [4, 5, 6, 7]), (9, []), (10, [])] (by decide +kernel) ?_; conv => whnf)
    | omega
    | (refine And.intro ?_ ?_; ((try dsimp only); first | omega | (refine ⟨by omega, by omega, Int.le_trans (Int.mul_le_mul_of_nonneg_right (Int.ofNat_le.2 (Nat.le_of_ble_eq_true (rfl : Nat.ble _ 1024 = true))) (by omega)) (by omega), by omega⟩) | (refine Nat.le_trans (Nat.mul_le_mul_left _ (Nat.le_of_ble_eq_true (rfl : Nat.ble _ 1024 = true))) ?_; omega) | (unfold inI64; omega) | (constructor <;> omega) | (simp only [inI64, List.length_cons, List.length_append, List.length_nil, List.length_set] at *; omega) | decide | (unfold inI64; decide)); conv => whnf)
    | omega | decide | assumption)
  · refine ⟨k + 1, by omega, by omega, Entails.mk' [(32, 32), (60, 47), (61, 61)] rfl rfl ⟨SV.le_refl _, SV.le_refl _, SV.le_refl _, SV.le_refl _, SV.le_refl _, SV.le_refl _, SV.le_refl _, trivial⟩ ⟨Res.le_refl _, ?_, Res.le_refl _, trivial⟩⟩
    rw [roomM_succ]
    exact Res.le_snocF (x := (s.getD k sl0).many) rfl
  obtain rfl : k = s.length := by omega
  clear hrm
  rw [roomM_end]
  refine LoopX.rule hT (C := []) (ι := Nat) (fun i => i ≤ w.length) (fun i => mkSt [(0, .d (slts s)), (2, .d (bsys b)), (10, .ptr 32 0), (51, .d (wnts w)), (52, .d (.int .i64 w.length)), (53, .d (.int .i64 i))]
    [(32, plY s w), (60, seqB 3 1 iF 0 (roomL s [])), (61, costB s w b i)]) (fun i => w.length - i) 0 (by omega) (by refine Entails.mk' [(32, 32), (60, 60), (61, 61)] rfl rfl ?_ ?_ <;> repeat' (first | exact True.intro | exact SV.le_refl _ | exact Res.le_refl _ | exact SV.le_int (by omega) | exact SV.le_any _ | refine And.intro ?_ ?_)) ?_
  rintro i q1
  have e2 : (i : Int).toNat = i := Int.toNat_natCast i
  conv => whnf
  repeat' (first
    | (refine br_intro (fun hb => ?_) (fun hb => ?_) <;> (try simp only [decide_eq_true_eq, decide_eq_false_iff_not, Bool.not_eq_true', Bool.not_eq_false', Bool.and_eq_true, Bool.or_eq_true, beq_iff_eq, not_and, Int.not_le, Int.not_lt, Int.toNat_natCast, beq_eq_false_iff_ne, ne_eq, eq_self, not_true_eq_false, not_false_eq_true] at hb) <;> (conv => whnf))
    | (refine RegX.rule (id := 8) hT rfl [] [(0, []), (1, [0]), (2, [0]), (3, [0]), (4, [0]), (5, [0, 1, 2, 3, 4]), (6, [0, 1, 2, 3, 4]), (7, [0, 1, 2, 3, 4]), (8, [0]), (9, []), (10, []), (11, [])] (by decide +kernel) ?_; conv => whnf)
    | (refine RegX.rule (id := 24) hT rfl [] [(0, []), (1, []), (2, []), (3, []), (4, [0, 1, 2, 3]), (5, [0, 1, 2, 3]), (6, [0, 1, 2, 3]), (7, [0, 1, 2, 3]), (8, [4, 5, 6, 7]), (9, []), (10, [])] (by decide +kernel) ?_; conv => whnf)
    | omega
    | (refine And.intro ?_ ?_; ((try dsimp only); first | omega | (refine ⟨by omega, by omega, Int.le_trans (Int.mul_le_mul_of_nonneg_right (Int.ofNat_le.2 (Nat.le_of_ble_eq_true (rfl : Nat.ble _ 1024 = true))) (by omega)) (by omega), by omega⟩) | (refine Nat.le_trans (Nat.mul_le_mul_left _ (Nat.le_of_ble_eq_true (rfl : Nat.ble _ 1024 = true))) ?_; omega) | (unfold inI64; omega) | (constructor <;> omega) | (simp only [inI64, List.length_cons, List.length_append, List.length_nil, List.length_set] at *; omega) | decide | (unfold inI64; decide)); conv => whnf)
    | omega | decide | assumption)
  · refine LoopX.rule hT (C := []) (ι := Nat) (fun k => k ≤ s.length) (fun k => mkSt [(0, .d (slts s)), (2, .d (bsys b)), (10, .ptr 32 0), (14, .ptr 14 0), (15, .buf 15), (51, .d (wnts w)), (52, .d (.int .i64 w.length)), (53, .d (.int .i64 i)), (57, .d (slts s)), (58, .d (.int .i64 s.length)), (59, .d (.int .i64 k))]
      [(32, plY s w), (60, seqB 3 1 iF 0 (roomL s [])), (61, costB s w b i), (14, .cells 222 ((wnF (w.getD i wn0)).map .d)), (15, seqB 3 1 iF 0 (rowM s w b i k))]) (fun k => s.length - k) 0 (by omega) ?_ ?_
    · exact (Entails.nil 15 15 3 1 (rowF iF 0 []) rfl rfl (by decide)).trans (by refine Entails.mk' [(32, 32), (60, 60), (61, 61), (14, 14), (15, 15)] rfl rfl ?_ ?_ <;> repeat' (first | exact True.intro | exact SV.le_refl _ | exact Res.le_refl _ | exact SV.le_int (by omega) | exact SV.le_any _ | refine And.intro ?_ ?_))
    rintro k p1
    have e1 : (k : Int).toNat = k := Int.toNat_natCast k
    have hrm := rowM_len s w b i k
    conv => whnf
    repeat' (first
      | (refine CallX.exact (s137 b ⟨(w.getD i wn0).v, (s.getD (k : Int).toNat sl0).day⟩ hb1) rfl rfl ?_; rotate_right; conv => whnf)
      | (refine br_intro (fun hb => ?_) (fun hb => ?_) <;> (try simp only [decide_eq_true_eq, decide_eq_false_iff_not, Bool.not_eq_true', Bool.not_eq_false', Bool.and_eq_true, Bool.or_eq_true, beq_iff_eq, not_and, Int.not_le, Int.not_lt, Int.toNat_natCast, beq_eq_false_iff_ne, ne_eq, eq_self, not_true_eq_false, not_false_eq_true] at hb) <;> (conv => whnf))
      | (refine RegX.rule (id := 8) hT rfl [] [(0, []), (1, [0]), (2, [0]), (3, [0]), (4, [0]), (5, [0, 1, 2, 3, 4]), (6, [0, 1, 2, 3, 4]), (7, [0, 1, 2, 3, 4]), (8, [0]), (9, []), (10, []), (11, [])] (by decide +kernel) ?_; conv => whnf)
      | (refine RegX.rule (id := 24) hT rfl [] [(0, []), (1, []), (2, []), (3, []), (4, [0, 1, 2, 3]), (5, [0, 1, 2, 3]), (6, [0, 1, 2, 3]), (7, [0, 1, 2, 3]), (8, [4, 5, 6, 7]), (9, []), (10, [])] (by decide +kernel) ?_; conv => whnf)
      | omega
      | (refine And.intro ?_ ?_; ((try dsimp only); first | omega | (refine ⟨by omega, by omega, Int.le_trans (Int.mul_le_mul_of_nonneg_right (Int.ofNat_le.2 (Nat.le_of_ble_eq_true (rfl : Nat.ble _ 1024 = true))) (by omega)) (by omega), by omega⟩) | (refine Nat.le_trans (Nat.mul_le_mul_left _ (Nat.le_of_ble_eq_true (rfl : Nat.ble _ 1024 = true))) ?_; omega) | (unfold inI64; omega) | (constructor <;> omega) | (simp only [inI64, List.length_cons, List.length_append, List.length_nil, List.length_set] at *; omega) | decide | (unfold inI64; decide)); conv => whnf)
      | omega | decide | assumption)
    · refine ⟨k + 1, by omega, by omega, Entails.mk' [(32, 32), (60, 60), (61, 61), (14, 14), (15, 72)] rfl rfl ⟨SV.le_refl _, SV.le_refl _, SV.le_refl _, SV.le_refl _, SV.le_refl _, SV.le_refl _, SV.le_refl _, SV.le_refl _, SV.le_refl _, SV.le_refl _, SV.le_refl _, trivial⟩ ⟨Res.le_refl _, Res.le_refl _, Res.le_refl _, Res.le_refl _, ?_, trivial⟩⟩
      rw [rowM_succ]
      exact Res.le_snocF (x := lostP b ⟨(w.getD i wn0).v, (s.getD k sl0).day⟩) rfl
    · obtain rfl : k = s.length := by omega
      exact ⟨i + 1, by omega, by omega, Entails.mk' [(32, 32), (60, 60), (61, 81)] rfl rfl ⟨SV.le_refl _, SV.le_refl _, SV.le_refl _, SV.le_refl _, SV.le_refl _, SV.le_refl _, trivial⟩ ⟨Res.le_refl _, Res.le_refl _, cost_le rfl hrm (fun j hj => rowM_get s w b i (by omega)), trivial⟩⟩
  obtain rfl : i = w.length := by omega
  generalize hR : srch0 s w b = R
  have h138 := s138n s w b hs hw6 hb1 w.length [] rfl (by simp) (good_nil w hs) ([], -1)
  rw [show srch s w b w.length [] ([], -1) = R from hR] at h138
  repeat' (first
    | (refine CallX.freeze _ _ _ _ 61 22 1 _ _ rfl rfl ?_; refine CallX.of h138 [(1000000, 32), (1000001, 60), (1000003, 61), (60, 900)] rfl ⟨SV.le_refl _, SV.le_refl _, SV.le_refl _, trivial⟩ ⟨Res.le_cellsL ⟨SV.le_refl _, SV.le_refl _, SV.le_refl _, SV.le_refl _, SV.le_refl _, SV.le_nilS, SV.le_refl _, trivial⟩, Res.le_refl _, Res.le_refl _, trivial⟩ rfl rfl ?_; rintro x rout ⟨rfl, (rfl | rfl)⟩ <;> (refine ⟨rfl, ?_⟩; conv => whnf); conv => whnf)
    | (refine br_intro (fun hb => ?_) (fun hb => ?_) <;> (try simp only [decide_eq_true_eq, decide_eq_false_iff_not, Bool.not_eq_true', Bool.not_eq_false', Bool.and_eq_true, Bool.or_eq_true, beq_iff_eq, not_and, Int.not_le, Int.not_lt, Int.toNat_natCast, beq_eq_false_iff_ne, ne_eq, eq_self, not_true_eq_false, not_false_eq_true] at hb) <;> (conv => whnf))
    | (refine RegX.rule (id := 8) hT rfl [] [(0, []), (1, [0]), (2, [0]), (3, [0]), (4, [0]), (5, [0, 1, 2, 3, 4]), (6, [0, 1, 2, 3, 4]), (7, [0, 1, 2, 3, 4]), (8, [0]), (9, []), (10, []), (11, [])] (by decide +kernel) ?_; conv => whnf)
    | (refine RegX.rule (id := 24) hT rfl [] [(0, []), (1, []), (2, []), (3, []), (4, [0, 1, 2, 3]), (5, [0, 1, 2, 3]), (6, [0, 1, 2, 3]), (7, [0, 1, 2, 3]), (8, [4, 5, 6, 7]), (9, []), (10, [])] (by decide +kernel) ?_; conv => whnf)
    | omega
    | (refine And.intro ?_ ?_; ((try dsimp only); first | omega | (refine ⟨by omega, by omega, Int.le_trans (Int.mul_le_mul_of_nonneg_right (Int.ofNat_le.2 (Nat.le_of_ble_eq_true (rfl : Nat.ble _ 1024 = true))) (by omega)) (by omega), by omega⟩) | (refine Nat.le_trans (Nat.mul_le_mul_left _ (Nat.le_of_ble_eq_true (rfl : Nat.ble _ 1024 = true))) ?_; omega) | (unfold inI64; omega) | (constructor <;> omega) | (simp only [inI64, List.length_cons, List.length_append, List.length_nil, List.length_set] at *; omega) | decide | (unfold inI64; decide)); conv => whnf)
    | omega | decide | assumption)
  all_goals
    unfold placeV
    rw [if_neg (by omega), hR]
    first
      | rw [if_pos (by omega)]
      | rw [if_neg (by omega)]
    refine .ret _ ?_
    conv => whnf
    refine ⟨[], ⟨congrArg SV.tup ?_, rfl⟩, trivial⟩
    repeat' (refine cons_eq ?_ ?_)
    all_goals (conv => lhs; whnf)
    all_goals try (with_reducible rfl)
  all_goals rfl
end Go.Proofs.YtellmmmohdjpeaaDoor
set_option maxRecDepth 20000
namespace Go.Proofs.YtellmmmohdjpeaaDoor
open Go Go.Eng
theorem srch_len (s : List Slt) (w : List Wnt) (b : List Bsy) : ∀ (d : Nat) (l : List Plc) (st : PSt), l.length + d ≤ 6 → st.1.length ≤ 6 → (srch s w b d l st).1.length ≤ 6 := by
  intro d
  induction d with
  | zero =>
    intro l st hl hst
    rw [srch]
    split
    · exact hst
    · show l.length ≤ 6; omega
  | succ d ih =>
    intro l st hl hst
    rw [srch]
    split
    · exact hst
    · refine foldN_bd (q := fun st => st.1.length ≤ 6) (fun k st hk h => ?_) hst
      split
      · exact ih _ _ (by simp; omega) h
      · exact h
-- PlacesLeast
theorem s9 (n : Nat) (L : Nat → Int) (hn : n ≤ maxLen) (hl : ∀ i, -2^63 ≤ L i ∧ L i < 2^63) : FSpec Tryd.prog 9 [.d (.ro 1 n fun i => [.int .i64 (L i)])] [] (fun x r => x = .d (.bool true) ∧ r = []) := by
  have hL : Rok n L := ⟨hn, hl⟩
  refine spec_of hT (C := []) Tryd.func9 rfl Tryd.call9 rfl rfl rfl ?_
  conv => whnf
  repeat' (first
    | (refine CallX.of (s69 n L hL _ ?_ ?_ ) [(1000000, 16)] rfl ⟨SV.le_refl _, trivial⟩ ⟨Res.le_refl _, trivial⟩ rfl rfl ?_; rotate_right; rintro x rout ⟨⟨s, q1, rfl⟩, ⟨c, c1, c2, rfl⟩⟩; refine ⟨rfl, ?_⟩; conv => whnf)
    | (refine CallX.of (s70 n L hL _ ?_ ?_ ) [(1000000, 16)] rfl ⟨SV.le_refl _, trivial⟩ ⟨Res.le_refl _, trivial⟩ rfl rfl ?_; rotate_right; rintro x rout ⟨⟨w, q2, rfl⟩, ⟨c, c1, c2, rfl⟩⟩; refine ⟨rfl, ?_⟩; conv => whnf)
    | (refine CallX.of (s71 n L hL _ ?_ ?_ ) [(1000000, 16)] rfl ⟨SV.le_refl _, trivial⟩ ⟨Res.le_refl _, trivial⟩ rfl rfl ?_; rotate_right; rintro x rout ⟨⟨b, q3, rfl⟩, ⟨c, c1, c2, rfl⟩⟩; refine ⟨rfl, ?_⟩; conv => whnf)
    | (refine br_intro (fun hb => ?_) (fun hb => ?_) <;> (try simp only [decide_eq_true_eq, decide_eq_false_iff_not, Bool.not_eq_true', Bool.not_eq_false', Bool.and_eq_true, Bool.or_eq_true, beq_iff_eq, not_and, Int.not_le, Int.not_lt, Int.toNat_natCast, beq_eq_false_iff_ne, ne_eq, eq_self, not_true_eq_false, not_false_eq_true] at hb) <;> (conv => whnf))
    | omega
    | (refine And.intro ?_ ?_; ((try dsimp only); first | omega | (refine ⟨by omega, by omega, Int.le_trans (Int.mul_le_mul_of_nonneg_right (Int.ofNat_le.2 (Nat.le_of_ble_eq_true (rfl : Nat.ble _ 1024 = true))) (by omega)) (by omega), by omega⟩) | (refine Nat.le_trans (Nat.mul_le_mul_left _ (Nat.le_of_ble_eq_true (rfl : Nat.ble _ 1024 = true))) ?_; omega) | (unfold inI64; omega) | (constructor <;> omega) | (simp only [inI64, List.length_cons, List.length_append, List.length_nil, List.length_set] at *; omega) | decide | (unfold inI64; decide)); conv => whnf)
    | omega | decide | assumption)
  have hs : slOk s := ⟨by omega, fun _ _ => trivial⟩
  have hw : wnOk w := ⟨by have := q2.1; omega, fun x hx => by have := (q2.2 x hx).1; unfold wnK; omega⟩
  have hbk : bsOk b := ⟨by have := q3.1; omega, fun x hx => by have := q3.2 x hx; unfold bsG at this; unfold bsK; omega⟩
  have h72 := s72 s w b hs hw hbk
  have h17 := s17 [sltsE s, wntsE w, bsysE b] (by simp)
  unfold placeV at h72
  by_cases h1 : firstE [sltsE s, wntsE w, bsysE b] = 0
  · rw [if_neg (by omega)] at h72
    rw [h1] at h17
    have hs' : sltsE s = 0 := by simp only [firstE] at h1; grind
    have hw' : wntsE w = 0 := by simp only [firstE] at h1; grind
    have hb' : bsysE b = 0 := by simp only [firstE] at h1; grind
    have h76 := s76 s w b hs' hw' hb'
    have hlen := srch_len s w b w.length [] ([], -1) (by have := (wnts_key hw').1; simp; omega) (by simp)
    rw [show srch s w b w.length [] ([], -1) = srch0 s w b from rfl] at hlen
    generalize srch0 s w b = R at h72 h76 hlen
    have h77 := s77 R.1 R.1 (by omega)
    rw [decide_eq_true rfl] at h77
    by_cases h2 : R.2 < 0
    · rw [if_pos h2] at h72
      rw [if_neg (by omega), decide_eq_false (by omega)] at h76
      have h1 : ¬ (12 : Int) = 0 := by decide
      repeat' (first
        | (refine CallX.exact (h72) rfl rfl ?_; rotate_right; conv => whnf)
        | (refine CallX.exact (s73 s hs) rfl rfl ?_; rotate_right; conv => whnf)
        | (refine CallX.exact (s74 w hw) rfl rfl ?_; rotate_right; conv => whnf)
        | (refine CallX.exact (s75 b hbk) rfl rfl ?_; rotate_right; conv => whnf)
        | (refine CallX.pure h17 ⟨SV.le_lit (by rfl) (by rfl), trivial⟩ rfl ?_; conv => whnf)
        | (refine CallX.exact (h76) rfl rfl ?_; rotate_right; conv => whnf)
        | (refine CallX.exact (h77) rfl rfl ?_; rotate_right; conv => whnf)
        | (refine CallX.exact (s32) rfl rfl ?_; rotate_right; conv => whnf)
        | (refine br_intro (fun hb => ?_) (fun hb => ?_) <;> (try simp only [decide_eq_true_eq, decide_eq_false_iff_not, Bool.not_eq_true', Bool.not_eq_false', Bool.and_eq_true, Bool.or_eq_true, beq_iff_eq, not_and, Int.not_le, Int.not_lt, Int.toNat_natCast, beq_eq_false_iff_ne, ne_eq, eq_self, not_true_eq_false, not_false_eq_true] at hb) <;> (conv => whnf))
        | omega
        | (refine And.intro ?_ ?_; ((try dsimp only); first | omega | (refine ⟨by omega, by omega, Int.le_trans (Int.mul_le_mul_of_nonneg_right (Int.ofNat_le.2 (Nat.le_of_ble_eq_true (rfl : Nat.ble _ 1024 = true))) (by omega)) (by omega), by omega⟩) | (refine Nat.le_trans (Nat.mul_le_mul_left _ (Nat.le_of_ble_eq_true (rfl : Nat.ble _ 1024 = true))) ?_; omega) | (unfold inI64; omega) | (constructor <;> omega) | (simp only [inI64, List.length_cons, List.length_append, List.length_nil, List.length_set] at *; omega) | decide | (unfold inI64; decide)); conv => whnf)
        | omega | decide | assumption)
      all_goals first
        | exact absurd (by assumption) h1
        | (refine .ret _ ?_
           conv => whnf
           refine ⟨[], ⟨?_, rfl⟩, trivial⟩
           conv => lhs; whnf)
    · rw [if_neg h2] at h72
      rw [if_pos (by omega), decide_eq_true (by omega)] at h76
      have h1 : ¬ (12 : Int) = 0 := by decide
      repeat' (first
        | (refine CallX.exact (h72) rfl rfl ?_; rotate_right; conv => whnf)
        | (refine CallX.exact (s73 s hs) rfl rfl ?_; rotate_right; conv => whnf)
        | (refine CallX.exact (s74 w hw) rfl rfl ?_; rotate_right; conv => whnf)
        | (refine CallX.exact (s75 b hbk) rfl rfl ?_; rotate_right; conv => whnf)
        | (refine CallX.pure h17 ⟨SV.le_lit (by rfl) (by rfl), trivial⟩ rfl ?_; conv => whnf)
        | (refine CallX.exact (h76) rfl rfl ?_; rotate_right; conv => whnf)
        | (refine CallX.exact (h77) rfl rfl ?_; rotate_right; conv => whnf)
        | (refine CallX.exact (s32) rfl rfl ?_; rotate_right; conv => whnf)
        | (refine br_intro (fun hb => ?_) (fun hb => ?_) <;> (try simp only [decide_eq_true_eq, decide_eq_false_iff_not, Bool.not_eq_true', Bool.not_eq_false', Bool.and_eq_true, Bool.or_eq_true, beq_iff_eq, not_and, Int.not_le, Int.not_lt, Int.toNat_natCast, beq_eq_false_iff_ne, ne_eq, eq_self, not_true_eq_false, not_false_eq_true] at hb) <;> (conv => whnf))
        | omega
        | (refine And.intro ?_ ?_; ((try dsimp only); first | omega | (refine ⟨by omega, by omega, Int.le_trans (Int.mul_le_mul_of_nonneg_right (Int.ofNat_le.2 (Nat.le_of_ble_eq_true (rfl : Nat.ble _ 1024 = true))) (by omega)) (by omega), by omega⟩) | (refine Nat.le_trans (Nat.mul_le_mul_left _ (Nat.le_of_ble_eq_true (rfl : Nat.ble _ 1024 = true))) ?_; omega) | (unfold inI64; omega) | (constructor <;> omega) | (simp only [inI64, List.length_cons, List.length_append, List.length_nil, List.length_set] at *; omega) | decide | (unfold inI64; decide)); conv => whnf)
        | omega | decide | assumption)
      all_goals first
        | exact absurd (by assumption) h1
        | (refine .ret _ ?_
           conv => whnf
           refine ⟨[], ⟨?_, rfl⟩, trivial⟩
           conv => lhs; whnf)
  · rw [if_pos h1] at h72
    have h76 := s32
    have h77 := s32
    generalize firstE [sltsE s, wntsE w, bsysE b] = e1 at h72 h17 h1
    repeat' (first
      | (refine CallX.exact (h72) rfl rfl ?_; rotate_right; conv => whnf)
      | (refine CallX.exact (s73 s hs) rfl rfl ?_; rotate_right; conv => whnf)
      | (refine CallX.exact (s74 w hw) rfl rfl ?_; rotate_right; conv => whnf)
      | (refine CallX.exact (s75 b hbk) rfl rfl ?_; rotate_right; conv => whnf)
      | (refine CallX.pure h17 ⟨SV.le_lit (by rfl) (by rfl), trivial⟩ rfl ?_; conv => whnf)
      | (refine CallX.exact (h76) rfl rfl ?_; rotate_right; conv => whnf)
      | (refine CallX.exact (h77) rfl rfl ?_; rotate_right; conv => whnf)
      | (refine CallX.exact (s32) rfl rfl ?_; rotate_right; conv => whnf)
      | (refine br_intro (fun hb => ?_) (fun hb => ?_) <;> (try simp only [decide_eq_true_eq, decide_eq_false_iff_not, Bool.not_eq_true', Bool.not_eq_false', Bool.and_eq_true, Bool.or_eq_true, beq_iff_eq, not_and, Int.not_le, Int.not_lt, Int.toNat_natCast, beq_eq_false_iff_ne, ne_eq, eq_self, not_true_eq_false, not_false_eq_true] at hb) <;> (conv => whnf))
      | omega
      | (refine And.intro ?_ ?_; ((try dsimp only); first | omega | (refine ⟨by omega, by omega, Int.le_trans (Int.mul_le_mul_of_nonneg_right (Int.ofNat_le.2 (Nat.le_of_ble_eq_true (rfl : Nat.ble _ 1024 = true))) (by omega)) (by omega), by omega⟩) | (refine Nat.le_trans (Nat.mul_le_mul_left _ (Nat.le_of_ble_eq_true (rfl : Nat.ble _ 1024 = true))) ?_; omega) | (unfold inI64; omega) | (constructor <;> omega) | (simp only [inI64, List.length_cons, List.length_append, List.length_nil, List.length_set] at *; omega) | decide | (unfold inI64; decide)); conv => whnf)
      | omega | decide | assumption)
    all_goals first
      | exact absurd (by assumption) h1
      | (refine .ret _ ?_
         conv => whnf
         refine ⟨[], ⟨?_, rfl⟩, trivial⟩
         conv => lhs; whnf)
end Go.Proofs.YtellmmmohdjpeaaDoor
