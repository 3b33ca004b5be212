/- PlacesAreBest is proved: for every input the law returns true, and its argument reads afterwards as it read before. Conditions: those of the given row alone. -/
import Derived.Test.YtnkdlkgannnfhaaPbConOne
import Derived.Test.YtnkdlkgannnfhaaPbEngTwo
import Derived.Shelf.Spec.SlicesGrow
set_option linter.unusedVariables false
set_option linter.unusedSimpArgs false
set_option maxRecDepth 20000
namespace Go.Proofs.Ytnkdlkgannnfhaa
open Go Go.Eng
def stF : Int × Bool → List DV := fun s => [.int .i64 s.1, .bool s.2]
abbrev steps (l : List (Int × Bool)) : DV := seqD 2 stF (0, false) l
abbrev tpC : Res := .cells 109 [.buf 1000001, .buf 1000002, .buf 1000003]
abbrev tpB (h w : List Int) (l : List Arc) : List (Nat × Res) := [(1000000, tpC), (1000001, froI h), (1000002, froI w), (1000003, arcB l)]
abbrev tpD (h w : List Int) : List (Nat × Res) := [(1000000, .cells 109 [.buf 1000001, .buf 1000002, .d (seqD 4 arF ar0 [])]), (1000001, froI h), (1000002, froI w)]
-- ways, of the try
set_option maxHeartbeats 4000000 in
theorem s167a : FSpec Try.prog 66 [.ptr 1000000 0, .buf 1000004] ([(1000004, seqB 3 1 iF 0 [1, 0])] ++ tpB [1, 0] [0, 1] [⟨0, 1, 4, 0⟩])
    (fun y r => y = .tup [.d (ints [0, 4]), .d (steps [(-1, false), (0, false)])] ∧ r = [(1000004, seqB 3 1 iF 0 [1, 0])] ++ tpB [1, 0] [0, 1] [⟨0, 1, 4, 0⟩]) := by
  refine spec_of hT (C := []) Try.func66 rfl Try.call66 rfl rfl rfl ?_
  conv => whnf
  repeat' (first
    | (refine LoopX.run hT (C := []) 6 rfl [0, 1, 4, 5, 23, 24] [1000000, 1000001, 1000002, 1000003, 1000004] (fun _ _ h => h) (fun _ h => h) ?_; conv => whnf)
    | (refine LoopX.run hT (C := []) 20 rfl [0, 4, 5, 7] [1000000, 1000001, 1000002, 1000003, 1000004] (fun _ _ h => h) (fun _ h => h) ?_; conv => whnf)
    | (refine LoopX.run hT (C := []) 26 rfl [0, 4, 5, 7, 47, 48, 49] [1000000, 1000001, 1000002, 1000003, 1000004] (fun _ _ h => h) (fun _ h => h) ?_; conv => whnf)
    | (refine br_intro (fun hb => ?_) (fun hb => ?_) <;> (try simp only [decide_eq_true_eq, decide_eq_false_iff_not, Bool.not_eq_true', Bool.not_eq_false', Bool.and_eq_true, Bool.or_eq_true, beq_iff_eq, not_and, Int.not_le, Int.not_lt, Int.toNat_natCast, beq_eq_false_iff_ne, ne_eq, eq_self, not_true_eq_false, not_false_eq_true] at hb) <;> (conv => whnf))
    | (refine RegX.rule (id := 1) hT rfl [] [(0, []), (1, []), (2, []), (3, []), (4, []), (5, []), (6, [0, 1, 2, 3, 4, 5]), (7, [0, 1, 2, 3, 4, 5]), (8, [0, 1, 2, 3, 4, 5]), (9, [0, 1, 2, 3, 4, 5]), (10, [0, 1, 2, 3, 4, 5]), (11, [0, 1, 2, 3, 4, 5]), (12, [6, 7, 8, 9, 10, 11]), (13, [])] (by decide +kernel) ?_; conv => whnf)
    | (refine RegX.rule (id := 15) hT rfl [] [(0, []), (1, [0]), (2, [0]), (3, []), (4, []), (5, []), (6, []), (7, []), (8, [7]), (9, [7]), (10, []), (11, []), (12, [7, 8, 9, 10, 11]), (13, [7, 8, 9, 10, 11]), (14, []), (15, [7, 8, 9, 10, 11, 12, 13, 14]), (16, [7, 8, 9, 10, 11, 12, 13, 14, 15]), (17, [7, 8, 9, 10, 11, 12, 13, 14, 15]), (18, [7, 8, 9, 10, 11, 12, 13, 14]), (19, [7, 8, 9, 10, 11, 12, 13, 14]), (20, []), (21, [])] (by decide +kernel) ?_; conv => whnf)
    | (refine RegX.rule (id := 16) hT rfl [] [(0, []), (1, [0]), (2, [0]), (3, [0, 1, 2]), (4, [0, 1, 2, 3]), (5, [0, 1, 2, 3]), (6, [0, 1, 2, 3, 4, 5]), (7, [0, 1, 2, 3, 4, 5, 6]), (8, [0, 1, 2, 3, 4, 5, 6]), (9, [0, 1, 2, 3, 4, 5]), (10, [0, 1, 2, 3, 4, 5]), (11, [0, 1, 2, 3, 4, 5, 6, 7, 8, 9, 10]), (12, [0, 1, 2, 3, 4, 5, 6, 7, 8, 9, 10]), (13, [0, 1, 2, 3, 4, 5]), (14, [0, 1, 2, 3, 4, 5, 6, 7, 8, 9, 10, 11, 12, 13]), (15, [0, 1, 2, 3, 4, 5, 6, 7, 8, 9, 10, 11, 12, 13]), (16, [3, 4, 5, 14, 15]), (17, [3, 4, 5, 14, 15]), (18, []), (19, []), (20, [])] (by decide +kernel) ?_; conv => whnf)
    | (refine RegX.rule (id := 17) hT rfl [] [(0, []), (1, []), (2, []), (3, []), (4, []), (5, [4]), (6, [4]), (7, []), (8, []), (9, []), (10, []), (11, []), (12, []), (13, [12]), (14, [12]), (15, []), (16, []), (17, [12, 13, 14, 15, 16]), (18, [12, 13, 14, 15, 16]), (19, []), (20, [12, 13, 14, 15, 16, 17, 18, 19]), (21, [12, 13, 14, 15, 16, 17, 18, 19, 20]), (22, [12, 13, 14, 15, 16, 17, 18, 19, 20]), (23, [12, 13, 14, 15, 16, 17, 18, 19]), (24, [12, 13, 14, 15, 16, 17, 18, 19]), (25, []), (26, [])] (by decide +kernel) ?_; conv => whnf)
    | (refine RegX.rule (id := 18) hT rfl [] [(0, []), (1, [0]), (2, [0]), (3, [0, 1, 2]), (4, [0, 1, 2, 3]), (5, [0, 1, 2, 3]), (6, [0, 1, 2, 3, 4, 5]), (7, [0, 1, 2, 3, 4, 5, 6]), (8, [0, 1, 2, 3, 4, 5, 6]), (9, [0, 1, 2, 3, 4, 5]), (10, [0, 1, 2, 3, 4, 5]), (11, [0, 1, 2, 3, 4, 5, 6, 7, 8, 9, 10]), (12, [0, 1, 2, 3, 4, 5, 6, 7, 8, 9, 10]), (13, [0, 1, 2, 3, 4, 5]), (14, [0, 1, 2, 3, 4, 5, 6, 7, 8, 9, 10, 11, 12, 13]), (15, [0, 1, 2, 3, 4, 5, 6, 7, 8, 9, 10, 11, 12, 13]), (16, [3, 4, 5, 14, 15]), (17, [3, 4, 5, 14, 15]), (18, []), (19, []), (20, [])] (by decide +kernel) ?_; conv => whnf)
    | omega
    | (refine And.intro ?_ ?_; ((try dsimp only); first | omega | (refine ⟨by omega, by omega, Int.le_trans (Int.mul_le_mul_of_nonneg_right (Int.ofNat_le.2 (Nat.le_of_ble_eq_true (rfl : Nat.ble _ 1024 = true))) (by omega)) (by omega), by omega⟩) | (refine Nat.le_trans (Nat.mul_le_mul_left _ (Nat.le_of_ble_eq_true (rfl : Nat.ble _ 1024 = true))) ?_; omega) | (unfold inI64; omega) | (constructor <;> omega) | (simp only [inI64, List.length_cons, List.length_append, List.length_nil, List.length_set] at *; omega) | decide | (unfold inI64; decide)); conv => whnf)
    | omega | decide | assumption)
  refine .freeze _ 15 3 1 _ _ rfl (.freeze _ 21 142 2 _ _ rfl (.weak _ ?_))
  conv => whnf
  refine ⟨.tup [.d (ints [0, 4]), .d (steps [(-1, false), (0, false)])], _, SV.le_tup ⟨SV.le_ro rfl ?_, SV.le_ro rfl ?_, trivial⟩, ⟨rfl, rfl⟩, ?_⟩
  · intro i hi
    have : i = 0 ∨ i = 1 := by simp at hi; omega
    rcases this with rfl | rfl <;> rfl
  · intro i hi
    have : i = 0 ∨ i = 1 := by simp at hi; omega
    rcases this with rfl | rfl <;> rfl
  · refine ⟨Res.le_refl _, Res.le_refl _, Res.le_refl _, Res.le_refl _, ?_⟩
    first | exact trivial | exact ⟨Res.le_refl _, trivial⟩
set_option maxHeartbeats 4000000 in
theorem s167b : FSpec Try.prog 66 [.ptr 1000000 0, .buf 1000004] ([(1000004, seqB 3 1 iF 0 [0, 0])] ++ tpB [1, 0] [0, 1] [⟨0, 1, 4, 1⟩])
    (fun y r => y = .tup [.d (ints [1125899906842624, 1125899906842624]), .d (steps [(-1, false), (-1, false)])] ∧ r = [(1000004, seqB 3 1 iF 0 [0, 0])] ++ tpB [1, 0] [0, 1] [⟨0, 1, 4, 1⟩]) := by
  refine spec_of hT (C := []) Try.func66 rfl Try.call66 rfl rfl rfl ?_
  conv => whnf
  repeat' (first
    | (refine LoopX.run hT (C := []) 6 rfl [0, 1, 4, 5, 23, 24] [1000000, 1000001, 1000002, 1000003, 1000004] (fun _ _ h => h) (fun _ h => h) ?_; conv => whnf)
    | (refine LoopX.run hT (C := []) 20 rfl [0, 4, 5, 7] [1000000, 1000001, 1000002, 1000003, 1000004] (fun _ _ h => h) (fun _ h => h) ?_; conv => whnf)
    | (refine LoopX.run hT (C := []) 26 rfl [0, 4, 5, 7, 47, 48, 49] [1000000, 1000001, 1000002, 1000003, 1000004] (fun _ _ h => h) (fun _ h => h) ?_; conv => whnf)
    | (refine br_intro (fun hb => ?_) (fun hb => ?_) <;> (try simp only [decide_eq_true_eq, decide_eq_false_iff_not, Bool.not_eq_true', Bool.not_eq_false', Bool.and_eq_true, Bool.or_eq_true, beq_iff_eq, not_and, Int.not_le, Int.not_lt, Int.toNat_natCast, beq_eq_false_iff_ne, ne_eq, eq_self, not_true_eq_false, not_false_eq_true] at hb) <;> (conv => whnf))
    | (refine RegX.rule (id := 1) hT rfl [] [(0, []), (1, []), (2, []), (3, []), (4, []), (5, []), (6, [0, 1, 2, 3, 4, 5]), (7, [0, 1, 2, 3, 4, 5]), (8, [0, 1, 2, 3, 4, 5]), (9, [0, 1, 2, 3, 4, 5]), (10, [0, 1, 2, 3, 4, 5]), (11, [0, 1, 2, 3, 4, 5]), (12, [6, 7, 8, 9, 10, 11]), (13, [])] (by decide +kernel) ?_; conv => whnf)
    | (refine RegX.rule (id := 15) hT rfl [] [(0, []), (1, [0]), (2, [0]), (3, []), (4, []), (5, []), (6, []), (7, []), (8, [7]), (9, [7]), (10, []), (11, []), (12, [7, 8, 9, 10, 11]), (13, [7, 8, 9, 10, 11]), (14, []), (15, [7, 8, 9, 10, 11, 12, 13, 14]), (16, [7, 8, 9, 10, 11, 12, 13, 14, 15]), (17, [7, 8, 9, 10, 11, 12, 13, 14, 15]), (18, [7, 8, 9, 10, 11, 12, 13, 14]), (19, [7, 8, 9, 10, 11, 12, 13, 14]), (20, []), (21, [])] (by decide +kernel) ?_; conv => whnf)
    | (refine RegX.rule (id := 16) hT rfl [] [(0, []), (1, [0]), (2, [0]), (3, [0, 1, 2]), (4, [0, 1, 2, 3]), (5, [0, 1, 2, 3]), (6, [0, 1, 2, 3, 4, 5]), (7, [0, 1, 2, 3, 4, 5, 6]), (8, [0, 1, 2, 3, 4, 5, 6]), (9, [0, 1, 2, 3, 4, 5]), (10, [0, 1, 2, 3, 4, 5]), (11, [0, 1, 2, 3, 4, 5, 6, 7, 8, 9, 10]), (12, [0, 1, 2, 3, 4, 5, 6, 7, 8, 9, 10]), (13, [0, 1, 2, 3, 4, 5]), (14, [0, 1, 2, 3, 4, 5, 6, 7, 8, 9, 10, 11, 12, 13]), (15, [0, 1, 2, 3, 4, 5, 6, 7, 8, 9, 10, 11, 12, 13]), (16, [3, 4, 5, 14, 15]), (17, [3, 4, 5, 14, 15]), (18, []), (19, []), (20, [])] (by decide +kernel) ?_; conv => whnf)
    | (refine RegX.rule (id := 17) hT rfl [] [(0, []), (1, []), (2, []), (3, []), (4, []), (5, [4]), (6, [4]), (7, []), (8, []), (9, []), (10, []), (11, []), (12, []), (13, [12]), (14, [12]), (15, []), (16, []), (17, [12, 13, 14, 15, 16]), (18, [12, 13, 14, 15, 16]), (19, []), (20, [12, 13, 14, 15, 16, 17, 18, 19]), (21, [12, 13, 14, 15, 16, 17, 18, 19, 20]), (22, [12, 13, 14, 15, 16, 17, 18, 19, 20]), (23, [12, 13, 14, 15, 16, 17, 18, 19]), (24, [12, 13, 14, 15, 16, 17, 18, 19]), (25, []), (26, [])] (by decide +kernel) ?_; conv => whnf)
    | (refine RegX.rule (id := 18) hT rfl [] [(0, []), (1, [0]), (2, [0]), (3, [0, 1, 2]), (4, [0, 1, 2, 3]), (5, [0, 1, 2, 3]), (6, [0, 1, 2, 3, 4, 5]), (7, [0, 1, 2, 3, 4, 5, 6]), (8, [0, 1, 2, 3, 4, 5, 6]), (9, [0, 1, 2, 3, 4, 5]), (10, [0, 1, 2, 3, 4, 5]), (11, [0, 1, 2, 3, 4, 5, 6, 7, 8, 9, 10]), (12, [0, 1, 2, 3, 4, 5, 6, 7, 8, 9, 10]), (13, [0, 1, 2, 3, 4, 5]), (14, [0, 1, 2, 3, 4, 5, 6, 7, 8, 9, 10, 11, 12, 13]), (15, [0, 1, 2, 3, 4, 5, 6, 7, 8, 9, 10, 11, 12, 13]), (16, [3, 4, 5, 14, 15]), (17, [3, 4, 5, 14, 15]), (18, []), (19, []), (20, [])] (by decide +kernel) ?_; conv => whnf)
    | omega
    | (refine And.intro ?_ ?_; ((try dsimp only); first | omega | (refine ⟨by omega, by omega, Int.le_trans (Int.mul_le_mul_of_nonneg_right (Int.ofNat_le.2 (Nat.le_of_ble_eq_true (rfl : Nat.ble _ 1024 = true))) (by omega)) (by omega), by omega⟩) | (refine Nat.le_trans (Nat.mul_le_mul_left _ (Nat.le_of_ble_eq_true (rfl : Nat.ble _ 1024 = true))) ?_; omega) | (unfold inI64; omega) | (constructor <;> omega) | (simp only [inI64, List.length_cons, List.length_append, List.length_nil, List.length_set] at *; omega) | decide | (unfold inI64; decide)); conv => whnf)
    | omega | decide | assumption)
  refine .freeze _ 15 3 1 _ _ rfl (.freeze _ 21 142 2 _ _ rfl (.weak _ ?_))
  conv => whnf
  refine ⟨.tup [.d (ints [1125899906842624, 1125899906842624]), .d (steps [(-1, false), (-1, false)])], _, SV.le_tup ⟨SV.le_ro rfl ?_, SV.le_ro rfl ?_, trivial⟩, ⟨rfl, rfl⟩, ?_⟩
  · intro i hi
    have : i = 0 ∨ i = 1 := by simp at hi; omega
    rcases this with rfl | rfl <;> rfl
  · intro i hi
    have : i = 0 ∨ i = 1 := by simp at hi; omega
    rcases this with rfl | rfl <;> rfl
  · refine ⟨Res.le_refl _, Res.le_refl _, Res.le_refl _, Res.le_refl _, ?_⟩
    first | exact trivial | exact ⟨Res.le_refl _, trivial⟩
set_option maxHeartbeats 4000000 in
theorem s167c : FSpec Try.prog 66 [.ptr 1000000 0, .buf 1000004] ([(1000004, seqB 3 1 iF 0 [0, 0])] ++ tpD [0, 0] [0, 0])
    (fun y r => y = .tup [.d (ints [1125899906842624, 1125899906842624]), .d (steps [(-1, false), (-1, false)])] ∧ r = [(1000004, seqB 3 1 iF 0 [0, 0])] ++ tpD [0, 0] [0, 0]) := by
  refine spec_of hT (C := []) Try.func66 rfl Try.call66 rfl rfl rfl ?_
  conv => whnf
  repeat' (first
    | (refine LoopX.run hT (C := []) 6 rfl [0, 1, 4, 5, 23, 24] [1000000, 1000001, 1000002, 1000004] (fun _ _ h => h) (fun _ h => h) ?_; conv => whnf)
    | (refine LoopX.run hT (C := []) 20 rfl [0, 4, 5, 7] [1000000, 1000001, 1000002, 1000004] (fun _ _ h => h) (fun _ h => h) ?_; conv => whnf)
    | (refine LoopX.run hT (C := []) 26 rfl [0, 4, 5, 7, 47, 48, 49] [1000000, 1000001, 1000002, 1000004] (fun _ _ h => h) (fun _ h => h) ?_; conv => whnf)
    | (refine br_intro (fun hb => ?_) (fun hb => ?_) <;> (try simp only [decide_eq_true_eq, decide_eq_false_iff_not, Bool.not_eq_true', Bool.not_eq_false', Bool.and_eq_true, Bool.or_eq_true, beq_iff_eq, not_and, Int.not_le, Int.not_lt, Int.toNat_natCast, beq_eq_false_iff_ne, ne_eq, eq_self, not_true_eq_false, not_false_eq_true] at hb) <;> (conv => whnf))
    | (refine RegX.rule (id := 1) hT rfl [] [(0, []), (1, []), (2, []), (3, []), (4, []), (5, []), (6, [0, 1, 2, 3, 4, 5]), (7, [0, 1, 2, 3, 4, 5]), (8, [0, 1, 2, 3, 4, 5]), (9, [0, 1, 2, 3, 4, 5]), (10, [0, 1, 2, 3, 4, 5]), (11, [0, 1, 2, 3, 4, 5]), (12, [6, 7, 8, 9, 10, 11]), (13, [])] (by decide +kernel) ?_; conv => whnf)
    | (refine RegX.rule (id := 15) hT rfl [] [(0, []), (1, [0]), (2, [0]), (3, []), (4, []), (5, []), (6, []), (7, []), (8, [7]), (9, [7]), (10, []), (11, []), (12, [7, 8, 9, 10, 11]), (13, [7, 8, 9, 10, 11]), (14, []), (15, [7, 8, 9, 10, 11, 12, 13, 14]), (16, [7, 8, 9, 10, 11, 12, 13, 14, 15]), (17, [7, 8, 9, 10, 11, 12, 13, 14, 15]), (18, [7, 8, 9, 10, 11, 12, 13, 14]), (19, [7, 8, 9, 10, 11, 12, 13, 14]), (20, []), (21, [])] (by decide +kernel) ?_; conv => whnf)
    | (refine RegX.rule (id := 16) hT rfl [] [(0, []), (1, [0]), (2, [0]), (3, [0, 1, 2]), (4, [0, 1, 2, 3]), (5, [0, 1, 2, 3]), (6, [0, 1, 2, 3, 4, 5]), (7, [0, 1, 2, 3, 4, 5, 6]), (8, [0, 1, 2, 3, 4, 5, 6]), (9, [0, 1, 2, 3, 4, 5]), (10, [0, 1, 2, 3, 4, 5]), (11, [0, 1, 2, 3, 4, 5, 6, 7, 8, 9, 10]), (12, [0, 1, 2, 3, 4, 5, 6, 7, 8, 9, 10]), (13, [0, 1, 2, 3, 4, 5]), (14, [0, 1, 2, 3, 4, 5, 6, 7, 8, 9, 10, 11, 12, 13]), (15, [0, 1, 2, 3, 4, 5, 6, 7, 8, 9, 10, 11, 12, 13]), (16, [3, 4, 5, 14, 15]), (17, [3, 4, 5, 14, 15]), (18, []), (19, []), (20, [])] (by decide +kernel) ?_; conv => whnf)
    | (refine RegX.rule (id := 17) hT rfl [] [(0, []), (1, []), (2, []), (3, []), (4, []), (5, [4]), (6, [4]), (7, []), (8, []), (9, []), (10, []), (11, []), (12, []), (13, [12]), (14, [12]), (15, []), (16, []), (17, [12, 13, 14, 15, 16]), (18, [12, 13, 14, 15, 16]), (19, []), (20, [12, 13, 14, 15, 16, 17, 18, 19]), (21, [12, 13, 14, 15, 16, 17, 18, 19, 20]), (22, [12, 13, 14, 15, 16, 17, 18, 19, 20]), (23, [12, 13, 14, 15, 16, 17, 18, 19]), (24, [12, 13, 14, 15, 16, 17, 18, 19]), (25, []), (26, [])] (by decide +kernel) ?_; conv => whnf)
    | (refine RegX.rule (id := 18) hT rfl [] [(0, []), (1, [0]), (2, [0]), (3, [0, 1, 2]), (4, [0, 1, 2, 3]), (5, [0, 1, 2, 3]), (6, [0, 1, 2, 3, 4, 5]), (7, [0, 1, 2, 3, 4, 5, 6]), (8, [0, 1, 2, 3, 4, 5, 6]), (9, [0, 1, 2, 3, 4, 5]), (10, [0, 1, 2, 3, 4, 5]), (11, [0, 1, 2, 3, 4, 5, 6, 7, 8, 9, 10]), (12, [0, 1, 2, 3, 4, 5, 6, 7, 8, 9, 10]), (13, [0, 1, 2, 3, 4, 5]), (14, [0, 1, 2, 3, 4, 5, 6, 7, 8, 9, 10, 11, 12, 13]), (15, [0, 1, 2, 3, 4, 5, 6, 7, 8, 9, 10, 11, 12, 13]), (16, [3, 4, 5, 14, 15]), (17, [3, 4, 5, 14, 15]), (18, []), (19, []), (20, [])] (by decide +kernel) ?_; conv => whnf)
    | omega
    | (refine And.intro ?_ ?_; ((try dsimp only); first | omega | (refine ⟨by omega, by omega, Int.le_trans (Int.mul_le_mul_of_nonneg_right (Int.ofNat_le.2 (Nat.le_of_ble_eq_true (rfl : Nat.ble _ 1024 = true))) (by omega)) (by omega), by omega⟩) | (refine Nat.le_trans (Nat.mul_le_mul_left _ (Nat.le_of_ble_eq_true (rfl : Nat.ble _ 1024 = true))) ?_; omega) | (unfold inI64; omega) | (constructor <;> omega) | (simp only [inI64, List.length_cons, List.length_append, List.length_nil, List.length_set] at *; omega) | decide | (unfold inI64; decide)); conv => whnf)
    | omega | decide | assumption)
  refine .freeze _ 15 3 1 _ _ rfl (.freeze _ 21 142 2 _ _ rfl (.weak _ ?_))
  conv => whnf
  refine ⟨.tup [.d (ints [1125899906842624, 1125899906842624]), .d (steps [(-1, false), (-1, false)])], _, SV.le_tup ⟨SV.le_ro rfl ?_, SV.le_ro rfl ?_, trivial⟩, ⟨rfl, rfl⟩, ?_⟩
  · intro i hi
    have : i = 0 ∨ i = 1 := by simp at hi; omega
    rcases this with rfl | rfl <;> rfl
  · intro i hi
    have : i = 0 ∨ i = 1 := by simp at hi; omega
    rcases this with rfl | rfl <;> rfl
  · refine ⟨Res.le_refl _, Res.le_refl _, Res.le_refl _, Res.le_refl _, ?_⟩
    first | exact trivial | exact ⟨Res.le_refl _, trivial⟩
-- rest, of the try
set_option maxHeartbeats 4000000 in
theorem s116t : FSpec Try.prog 47 [.ptr 1000000 0, .d (.int .i64 1), .d (.int .i64 0), .d (.int .i64 1), .d (.int .i64 1)] [(1000000, tpC), (1000001, froI [1, 0]), (1000002, froI [0, 1]), (1000003, .fro 4 1 (rowF arF ar0 [⟨0, 1, 4, 1⟩]))]
    (fun y r => y = .ptr 30 0 ∧ r = [(1000000, tpC), (1000001, froI [1, 0]), (1000002, froI [0, 1]), (1000003, .fro 4 1 (rowF arF ar0 [⟨0, 1, 4, 1⟩])), (30, .cells 109 [.buf 16, .buf 21, .d (seqD 4 arF ar0 [])]), (16, froI [0, 0]), (21, froI [0, 0])]) := by
  refine spec_of hT (C := []) Try.func47 rfl Try.call47 rfl rfl rfl ?_
  conv => whnf
  refine RegX.rule hT rfl [] [(0, []), (1, []), (2, []), (3, []), (5, [0, 1, 2, 3]), (6, [0, 1, 2, 3]), (7, [0, 1, 2, 3]), (8, [0, 1, 2, 3]), (10, [0, 1, 2, 3, 5, 6, 7, 8]), (11, [0, 1, 2, 3, 5, 6, 7, 8]), (12, [0, 1, 2, 3, 5, 6, 7, 8]), (13, [0, 1, 2, 3, 5, 6, 7, 8]), (14, [0, 1, 2, 3, 5, 6, 7, 8, 10, 11, 12, 13]), (15, [0, 1, 2, 3, 5, 6, 7, 8]), (4, [5, 6, 7, 8, 10, 11, 12, 13, 14, 15]), (9, [10, 11, 12, 13, 14, 15]), (16, []), (17, []), (18, []), (19, [])] (by decide +kernel) ?_
  conv => whnf
  repeat' (first
    | (refine CallX.of (s166 [1, 0] (by simp) (by simp)) [(7, 16)] rfl ⟨SV.le_refl _, trivial⟩ trivial rfl rfl ?_; rintro x rout ⟨rfl, rfl⟩; refine ⟨rfl, ?_⟩; conv => whnf)
    | (refine CallX.of (s166 [0, 1] (by simp) (by simp)) [(7, 21)] rfl ⟨SV.le_refl _, trivial⟩ trivial rfl rfl ?_; rintro x rout ⟨rfl, rfl⟩; refine ⟨rfl, ?_⟩; conv => whnf)
    | (refine CallX.pure (s168e _) ⟨SV.le_refl _, trivial⟩ rfl ?_; conv => whnf)
    | (refine br_intro (fun hb => ?_) (fun hb => ?_) <;> (try simp only [decide_eq_true_eq, decide_eq_false_iff_not, Bool.not_eq_true', Bool.not_eq_false', Bool.and_eq_true, Bool.or_eq_true, beq_iff_eq, not_and, Int.not_le, Int.not_lt, Int.toNat_natCast, beq_eq_false_iff_ne, ne_eq, eq_self, not_true_eq_false, not_false_eq_true] at hb) <;> (conv => whnf))
    | (refine RegX.rule (id := 1) hT rfl [] [(0, []), (1, []), (2, []), (3, []), (5, [0, 1, 2, 3]), (6, [0, 1, 2, 3]), (7, [0, 1, 2, 3]), (8, [0, 1, 2, 3]), (10, [0, 1, 2, 3, 5, 6, 7, 8]), (11, [0, 1, 2, 3, 5, 6, 7, 8]), (12, [0, 1, 2, 3, 5, 6, 7, 8]), (13, [0, 1, 2, 3, 5, 6, 7, 8]), (14, [0, 1, 2, 3, 5, 6, 7, 8, 10, 11, 12, 13]), (15, [0, 1, 2, 3, 5, 6, 7, 8]), (4, [5, 6, 7, 8, 10, 11, 12, 13, 14, 15]), (9, [10, 11, 12, 13, 14, 15]), (16, []), (17, []), (18, []), (19, [])] (by decide +kernel) ?_; conv => whnf)
    | omega
    | (refine And.intro ?_ ?_; ((try dsimp only); first | omega | (refine ⟨by omega, by omega, Int.le_trans (Int.mul_le_mul_of_nonneg_right (Int.ofNat_le.2 (Nat.le_of_ble_eq_true (rfl : Nat.ble _ 1024 = true))) (by omega)) (by omega), by omega⟩) | (refine Nat.le_trans (Nat.mul_le_mul_left _ (Nat.le_of_ble_eq_true (rfl : Nat.ble _ 1024 = true))) ?_; omega) | (unfold inI64; omega) | (constructor <;> omega) | (simp only [inI64, List.length_cons, List.length_append, List.length_nil, List.length_set] at *; omega) | decide | (unfold inI64; decide)); conv => whnf)
    | omega | decide | assumption)
  refine .freeze _ 16 3 1 _ _ rfl (.freeze _ 21 3 1 _ _ rfl (.ret _ ?_))
  conv => whnf
  refine ⟨_, ⟨rfl, rfl⟩, Res.le_refl _, Res.le_refl _, Res.le_refl _, Res.le_refl _, Res.le_refl _, Res.le_fro rfl ?_, Res.le_fro rfl ?_, trivial⟩
  · intro i hi
    have : i = 0 ∨ i = 1 := by simp at hi; omega
    rcases this with rfl | rfl <;> rfl
  · intro i hi
    have : i = 0 ∨ i = 1 := by simp at hi; omega
    rcases this with rfl | rfl <;> rfl
end Go.Proofs.Ytnkdlkgannnfhaa
set_option maxRecDepth 20000
namespace Go.Proofs.Ytnkdlkgannnfhaa
open Go Go.Eng
-- solve, of the try
set_option maxHeartbeats 8000000 in
theorem s115a : FSpec Try.prog 46 [.ptr 1000000 0] (tpB [1, 0] [0, 1] [⟨0, 1, 4, 0⟩]) (fun y r => y = .tup [.d (.int .i64 4), .d (.bool true)] ∧ r = tpB [1, 0] [0, 1] [⟨0, 1, 4, 1⟩]) := by
  refine spec_of hT (C := []) Try.func46 rfl Try.call46 rfl rfl rfl ?_
  conv => whnf
  refine RegX.rule hT rfl [] [(0, []), (1, []), (2, []), (3, []), (5, [0, 1, 2, 3]), (6, [0, 1, 2, 3]), (7, [0, 1, 2, 3]), (8, [0, 1, 2, 3]), (4, [5, 6, 7, 8]), (9, []), (10, []), (11, [])] (by decide +kernel) ?_
  conv => whnf
  repeat' (first
    | (refine CallX.of (s166 [1, 0] (by simp) (by simp)) [(7, 22)] rfl ⟨SV.le_refl _, trivial⟩ trivial rfl rfl ?_; rintro x rout ⟨rfl, rfl⟩; refine ⟨rfl, ?_⟩; conv => whnf)
    | (refine CallX.of (s166 [0, 1] (by simp) (by simp)) [(7, 27)] rfl ⟨SV.le_refl _, trivial⟩ trivial rfl rfl ?_; rintro x rout ⟨rfl, rfl⟩; refine ⟨rfl, ?_⟩; conv => whnf)
    | (refine CallX.of s167a [(1000000, 1000000), (1000001, 1000001), (1000002, 1000002), (1000003, 1000003), (1000004, 22)] rfl ⟨SV.le_refl _, SV.le_refl _, trivial⟩ ⟨(Res.le_buf rfl (fun i hi => by (have : i = 0 ∨ i = 1 := by simp at hi; omega); rcases this with (rfl | rfl) <;> rfl)), Res.le_refl _, Res.le_refl _, Res.le_refl _, (Res.le_buf rfl (fun i hi => by (have : i = 0 := by simp at hi; omega); subst this; rfl)), trivial⟩ rfl rfl ?_; rintro x rout ⟨rfl, rfl⟩; refine ⟨rfl, ?_⟩; conv => whnf)
    | (refine CallX.of s167b [(1000000, 1000000), (1000001, 1000001), (1000002, 1000002), (1000003, 1000003), (1000004, 22)] rfl ⟨SV.le_refl _, SV.le_refl _, trivial⟩ ⟨(Res.le_buf rfl (fun i hi => by (have : i = 0 ∨ i = 1 := by simp at hi; omega); rcases this with (rfl | rfl) <;> rfl)), Res.le_refl _, Res.le_refl _, Res.le_refl _, (Res.le_buf rfl (fun i hi => by (have : i = 0 := by simp at hi; omega); subst this; rfl)), trivial⟩ rfl rfl ?_; rintro x rout ⟨rfl, rfl⟩; refine ⟨rfl, ?_⟩; conv => whnf)
    | (refine LoopX.run hT (C := []) 6 rfl [0, 4, 5, 32, 33] [1000000, 1000001, 1000002, 1000003] (fun _ _ h => h) (fun _ h => h) ?_; conv => whnf)
    | (refine LoopX.run hT (C := []) 7 rfl [0, 4, 5, 7] [1000000, 1000001, 1000002, 1000003] (fun _ _ h => h) (fun _ h => h) ?_; conv => whnf)
    | (refine LoopX.run hT (C := []) 22 rfl [0, 4, 5, 7, 8, 9, 10, 11, 50, 51, 52] [1000000, 1000001, 1000002, 1000003] (fun _ _ h => h) (fun _ h => h) ?_; conv => whnf)
    | (refine LoopX.run hT (C := []) 40 rfl [0, 4, 5, 7, 8, 9, 10, 14, 15] [1000000, 1000001, 1000002, 1000003] (fun _ _ h => h) (fun _ h => h) ?_; conv => whnf)
    | (refine LoopX.run hT (C := []) 60 rfl [0, 4, 5, 7, 9, 14, 15] [1000000, 1000001, 1000002, 1000003] (fun _ _ h => h) (fun _ h => h) ?_; conv => whnf)
    | (refine br_intro (fun hb => ?_) (fun hb => ?_) <;> (try simp only [decide_eq_true_eq, decide_eq_false_iff_not, Bool.not_eq_true', Bool.not_eq_false', Bool.and_eq_true, Bool.or_eq_true, beq_iff_eq, not_and, Int.not_le, Int.not_lt, Int.toNat_natCast, beq_eq_false_iff_ne, ne_eq, eq_self, not_true_eq_false, not_false_eq_true] at hb) <;> (conv => whnf))
    | (refine RegX.rule (id := 1) hT rfl [] [(0, []), (1, []), (2, []), (3, []), (5, [0, 1, 2, 3]), (6, [0, 1, 2, 3]), (7, [0, 1, 2, 3]), (8, [0, 1, 2, 3]), (4, [5, 6, 7, 8]), (9, []), (10, []), (11, [])] (by decide +kernel) ?_; conv => whnf)
    | (refine RegX.rule (id := 14) hT rfl [] [(0, []), (1, []), (2, []), (3, []), (4, [3]), (5, []), (6, []), (7, []), (8, []), (9, []), (10, []), (11, []), (12, []), (13, []), (14, [13]), (15, []), (16, []), (17, [13, 14, 15, 16]), (18, [13, 14, 15, 16, 17]), (19, [13, 14, 15, 16]), (20, [13, 14, 15, 16]), (21, []), (22, []), (23, [])] (by decide +kernel) ?_; conv => whnf)
    | (refine RegX.rule (id := 21) hT rfl [] [(0, []), (1, []), (2, []), (3, []), (4, [0, 1, 2, 3]), (5, [0, 1, 2, 3, 4]), (6, [0, 1, 2, 3]), (7, [0, 1, 2, 3]), (8, [0, 1, 2, 3]), (9, []), (10, []), (11, [0, 1, 2, 3, 4, 5, 6, 7, 8, 9, 10]), (12, [])] (by decide +kernel) ?_; conv => whnf)
    | (refine RegX.rule (id := 23) hT rfl [] [(0, []), (1, [0]), (2, [0]), (3, []), (4, [0, 1, 2, 3]), (5, [0, 1, 2, 3]), (6, [4, 5]), (7, [])] (by decide +kernel) ?_; conv => whnf)
    | (refine RegX.rule (id := 31) hT rfl [] [(0, []), (1, []), (2, []), (3, []), (4, [0, 1, 2, 3]), (5, [0, 1, 2, 3, 4]), (6, [0, 1, 2, 3]), (7, [0, 1, 2, 3]), (8, [0, 1, 2, 3]), (9, []), (10, [])] (by decide +kernel) ?_; conv => whnf)
    | omega
    | (refine And.intro ?_ ?_; ((try dsimp only); first | omega | (refine ⟨by omega, by omega, Int.le_trans (Int.mul_le_mul_of_nonneg_right (Int.ofNat_le.2 (Nat.le_of_ble_eq_true (rfl : Nat.ble _ 1024 = true))) (by omega)) (by omega), by omega⟩) | (refine Nat.le_trans (Nat.mul_le_mul_left _ (Nat.le_of_ble_eq_true (rfl : Nat.ble _ 1024 = true))) ?_; omega) | (unfold inI64; omega) | (constructor <;> omega) | (simp only [inI64, List.length_cons, List.length_append, List.length_nil, List.length_set] at *; omega) | decide | (unfold inI64; decide)); conv => whnf)
    | omega | decide | assumption)
  refine .weak _ ?_
  conv => whnf
  exact ⟨.tup [.d (.int .i64 4), .d (.bool true)], _, SV.le_tup ⟨SV.le_int rfl, SV.le_bool rfl, trivial⟩, ⟨rfl, rfl⟩, Res.le_refl _, Res.le_refl _, Res.le_refl _, (Res.le_buf rfl (fun i hi => by (have : i = 0 := by simp at hi; omega); subst this; rfl)), trivial⟩
set_option maxHeartbeats 8000000 in
theorem s115b : FSpec Try.prog 46 [.ptr 1000000 0] (tpD [0, 0] [0, 0]) (fun y r => y = .tup [.d (.int .i64 0), .d (.bool true)] ∧ r = tpD [0, 0] [0, 0]) := by
  refine spec_of hT (C := []) Try.func46 rfl Try.call46 rfl rfl rfl ?_
  conv => whnf
  refine RegX.rule hT rfl [] [(0, []), (1, []), (2, []), (3, []), (5, [0, 1, 2, 3]), (6, [0, 1, 2, 3]), (7, [0, 1, 2, 3]), (8, [0, 1, 2, 3]), (4, [5, 6, 7, 8]), (9, []), (10, []), (11, [])] (by decide +kernel) ?_
  conv => whnf
  repeat' (first
    | (refine CallX.of (s166 [0, 0] (by simp) (by simp)) [(7, 22)] rfl ⟨SV.le_refl _, trivial⟩ trivial rfl rfl ?_; rintro x rout ⟨rfl, rfl⟩; refine ⟨rfl, ?_⟩; conv => whnf)
    | (refine CallX.of (s166 [0, 0] (by simp) (by simp)) [(7, 27)] rfl ⟨SV.le_refl _, trivial⟩ trivial rfl rfl ?_; rintro x rout ⟨rfl, rfl⟩; refine ⟨rfl, ?_⟩; conv => whnf)
    | (refine CallX.of s167c [(1000000, 1000000), (1000001, 1000001), (1000002, 1000002), (1000004, 22)] rfl ⟨SV.le_refl _, SV.le_refl _, trivial⟩ ⟨Res.le_refl _, Res.le_refl _, Res.le_refl _, Res.le_refl _, trivial⟩ rfl rfl ?_; rintro x rout ⟨rfl, rfl⟩; refine ⟨rfl, ?_⟩; conv => whnf)
    | (refine LoopX.run hT (C := []) 6 rfl [0, 4, 5, 32, 33] [1000000, 1000001, 1000002] (fun _ _ h => h) (fun _ h => h) ?_; conv => whnf)
    | (refine LoopX.run hT (C := []) 7 rfl [0, 4, 5, 7] [1000000, 1000001, 1000002] (fun _ _ h => h) (fun _ h => h) ?_; conv => whnf)
    | (refine LoopX.run hT (C := []) 22 rfl [0, 4, 5, 7, 8, 9, 10, 11, 50, 51, 52] [1000000, 1000001, 1000002] (fun _ _ h => h) (fun _ h => h) ?_; conv => whnf)
    | (refine LoopX.run hT (C := []) 40 rfl [0, 4, 5, 7, 8, 9, 10, 14, 15] [1000000, 1000001, 1000002] (fun _ _ h => h) (fun _ h => h) ?_; conv => whnf)
    | (refine LoopX.run hT (C := []) 60 rfl [0, 4, 5, 7, 9, 14, 15] [1000000, 1000001, 1000002] (fun _ _ h => h) (fun _ h => h) ?_; conv => whnf)
    | (refine br_intro (fun hb => ?_) (fun hb => ?_) <;> (try simp only [decide_eq_true_eq, decide_eq_false_iff_not, Bool.not_eq_true', Bool.not_eq_false', Bool.and_eq_true, Bool.or_eq_true, beq_iff_eq, not_and, Int.not_le, Int.not_lt, Int.toNat_natCast, beq_eq_false_iff_ne, ne_eq, eq_self, not_true_eq_false, not_false_eq_true] at hb) <;> (conv => whnf))
    | (refine RegX.rule (id := 1) hT rfl [] [(0, []), (1, []), (2, []), (3, []), (5, [0, 1, 2, 3]), (6, [0, 1, 2, 3]), (7, [0, 1, 2, 3]), (8, [0, 1, 2, 3]), (4, [5, 6, 7, 8]), (9, []), (10, []), (11, [])] (by decide +kernel) ?_; conv => whnf)
    | (refine RegX.rule (id := 14) hT rfl [] [(0, []), (1, []), (2, []), (3, []), (4, [3]), (5, []), (6, []), (7, []), (8, []), (9, []), (10, []), (11, []), (12, []), (13, []), (14, [13]), (15, []), (16, []), (17, [13, 14, 15, 16]), (18, [13, 14, 15, 16, 17]), (19, [13, 14, 15, 16]), (20, [13, 14, 15, 16]), (21, []), (22, []), (23, [])] (by decide +kernel) ?_; conv => whnf)
    | (refine RegX.rule (id := 21) hT rfl [] [(0, []), (1, []), (2, []), (3, []), (4, [0, 1, 2, 3]), (5, [0, 1, 2, 3, 4]), (6, [0, 1, 2, 3]), (7, [0, 1, 2, 3]), (8, [0, 1, 2, 3]), (9, []), (10, []), (11, [0, 1, 2, 3, 4, 5, 6, 7, 8, 9, 10]), (12, [])] (by decide +kernel) ?_; conv => whnf)
    | (refine RegX.rule (id := 23) hT rfl [] [(0, []), (1, [0]), (2, [0]), (3, []), (4, [0, 1, 2, 3]), (5, [0, 1, 2, 3]), (6, [4, 5]), (7, [])] (by decide +kernel) ?_; conv => whnf)
    | (refine RegX.rule (id := 31) hT rfl [] [(0, []), (1, []), (2, []), (3, []), (4, [0, 1, 2, 3]), (5, [0, 1, 2, 3, 4]), (6, [0, 1, 2, 3]), (7, [0, 1, 2, 3]), (8, [0, 1, 2, 3]), (9, []), (10, [])] (by decide +kernel) ?_; conv => whnf)
    | omega
    | (refine And.intro ?_ ?_; ((try dsimp only); first | omega | (refine ⟨by omega, by omega, Int.le_trans (Int.mul_le_mul_of_nonneg_right (Int.ofNat_le.2 (Nat.le_of_ble_eq_true (rfl : Nat.ble _ 1024 = true))) (by omega)) (by omega), by omega⟩) | (refine Nat.le_trans (Nat.mul_le_mul_left _ (Nat.le_of_ble_eq_true (rfl : Nat.ble _ 1024 = true))) ?_; omega) | (unfold inI64; omega) | (constructor <;> omega) | (simp only [inI64, List.length_cons, List.length_append, List.length_nil, List.length_set] at *; omega) | decide | (unfold inI64; decide)); conv => whnf)
    | omega | decide | assumption)
  refine .weak _ ?_
  conv => whnf
  exact ⟨.tup [.d (.int .i64 0), .d (.bool true)], _, SV.le_tup ⟨SV.le_int rfl, SV.le_bool rfl, trivial⟩, ⟨rfl, rfl⟩, Res.le_refl _, Res.le_refl _, Res.le_refl _, trivial⟩
-- shift.Plan, of the try
set_option maxHeartbeats 8000000 in
theorem s27t : FSpec Try.prog 26 [.d (neds tN), .d (roas tR)] [] (fun y r => y = .tup [.d (movs [⟨[97], [98], 1⟩]), .d (.int .i64 0)] ∧ r = []) := by
  refine spec_of hT (C := []) Try.func26 rfl Try.call26 rfl rfl rfl ?_
  conv => whnf
  repeat' (first
    | (refine CallX.exact (s113t) rfl rfl ?_; rotate_right; conv => whnf)
    | (refine CallX.of s114t [(20, 24), (15, 1000), (18, 1001), (88, 1002)] rfl ⟨SV.le_refl _, SV.le_refl _, trivial⟩ trivial rfl rfl ?_; rintro x rout ⟨rfl, rfl⟩; refine ⟨rfl, ?_⟩; conv => whnf)
    | (refine CallX.of s115a [(1000000, 24), (1000001, 1000), (1000002, 1001), (1000003, 1002)] rfl ⟨SV.le_refl _, trivial⟩ ⟨Res.le_refl _, Res.le_refl _, Res.le_refl _, Res.le_refl _, trivial⟩ rfl rfl ?_; rintro x rout ⟨rfl, rfl⟩; refine ⟨rfl, ?_⟩; conv => whnf)
    | (refine br_intro (fun hb => ?_) (fun hb => ?_) <;> (try simp only [decide_eq_true_eq, decide_eq_false_iff_not, Bool.not_eq_true', Bool.not_eq_false', Bool.and_eq_true, Bool.or_eq_true, beq_iff_eq, not_and, Int.not_le, Int.not_lt, Int.toNat_natCast, beq_eq_false_iff_ne, ne_eq, eq_self, not_true_eq_false, not_false_eq_true] at hb) <;> (conv => whnf))
    | (refine RegX.rule (id := 13) hT rfl [] [(0, []), (1, [0]), (2, [0]), (3, [0]), (4, [0]), (5, [0, 1, 2, 3, 4]), (6, [0, 1, 2, 3, 4]), (7, [0]), (8, [0]), (9, [0, 1, 2, 3, 4, 5, 6, 7, 8]), (10, [0, 1, 2, 3, 4, 5, 6, 7, 8]), (11, [0, 1, 2, 3, 4, 5, 6, 7, 8]), (12, [0, 1, 2, 3, 4, 5, 6, 7, 8]), (13, [0, 1, 2, 3, 4, 5, 6, 7, 8, 9, 10, 11, 12]), (14, [0, 1, 2, 3, 4, 5, 6, 7, 8, 9, 10, 11, 12]), (15, [0, 1, 2, 3, 4, 5, 6, 7, 8]), (16, [0, 1, 2, 3, 4, 5, 6, 7, 8]), (17, [0]), (18, [])] (by decide +kernel) ?_; conv => whnf)
    | (refine RegX.rule (id := 19) hT rfl [] [(0, []), (1, [0]), (2, [0, 1]), (3, [0, 1]), (4, [0]), (5, [0]), (6, [0]), (7, [0, 1, 2, 3, 4, 5, 6]), (8, [0, 1, 2, 3, 4, 5, 6, 7]), (9, [0, 1, 2, 3, 4, 5, 6, 7]), (10, [0, 1, 2, 3, 4, 5, 6]), (11, [0, 1, 2, 3, 4, 5, 6]), (12, [0, 1, 2, 3, 4, 5, 6]), (13, [0, 1, 2, 3, 4, 5, 6, 7, 8, 9, 10, 11, 12]), (14, [0]), (15, [0]), (16, []), (17, [])] (by decide +kernel) ?_; conv => whnf)
    | omega
    | (refine And.intro ?_ ?_; ((try dsimp only); first | omega | (refine ⟨by omega, by omega, Int.le_trans (Int.mul_le_mul_of_nonneg_right (Int.ofNat_le.2 (Nat.le_of_ble_eq_true (rfl : Nat.ble _ 1024 = true))) (by omega)) (by omega), by omega⟩) | (refine Nat.le_trans (Nat.mul_le_mul_left _ (Nat.le_of_ble_eq_true (rfl : Nat.ble _ 1024 = true))) ?_; omega) | (unfold inI64; omega) | (constructor <;> omega) | (simp only [inI64, List.length_cons, List.length_append, List.length_nil, List.length_set] at *; omega) | decide | (unfold inI64; decide)); conv => whnf)
    | omega | decide | assumption)
  refine LoopX.freeze 1002 111 4 1 _ rfl ?_
  repeat' (first
    | (refine CallX.of s116t [(1000000, 24), (1000001, 1000), (1000002, 1001), (1000003, 1002), (30, 1100), (16, 1101), (21, 1102)] rfl ⟨SV.le_refl _, SV.le_int rfl, SV.le_int rfl, SV.le_int rfl, SV.le_int rfl, trivial⟩ ⟨Res.le_refl _, Res.le_refl _, Res.le_refl _, Res.le_fro rfl (fun i hi => by (have : i = 0 := by simp at hi; omega); subst this; rfl), trivial⟩ rfl rfl ?_; rintro x rout ⟨rfl, rfl⟩; refine ⟨rfl, ?_⟩; conv => whnf)
    | (refine CallX.of s116t [(1000000, 24), (1000001, 1000), (1000002, 1001), (1000003, 1002), (30, 1200), (16, 1201), (21, 1202)] rfl ⟨SV.le_refl _, SV.le_int rfl, SV.le_int rfl, SV.le_int rfl, SV.le_int rfl, trivial⟩ ⟨Res.le_refl _, Res.le_refl _, Res.le_refl _, Res.le_fro rfl (fun i hi => by (have : i = 0 := by simp at hi; omega); subst this; rfl), trivial⟩ rfl rfl ?_; rintro x rout ⟨rfl, rfl⟩; refine ⟨rfl, ?_⟩; conv => whnf)
    | (refine CallX.of s115b [(1000000, 1100), (1000001, 1101), (1000002, 1102)] rfl ⟨SV.le_refl _, trivial⟩ ⟨Res.le_refl _, Res.le_refl _, Res.le_refl _, trivial⟩ rfl rfl ?_; rintro x rout ⟨rfl, rfl⟩; refine ⟨rfl, ?_⟩; conv => whnf)
    | (refine LoopX.run hT (C := []) 18 rfl [0, 7, 8, 10] [] (fun _ _ h => h) (fun _ h => h) ?_; conv => whnf)
    | (refine LoopX.run hT (C := []) 26 rfl [0, 7, 8, 10, 11, 12, 13] [] (fun _ _ h => h) (fun _ h => h) ?_; conv => whnf)
    | (refine br_intro (fun hb => ?_) (fun hb => ?_) <;> (try simp only [decide_eq_true_eq, decide_eq_false_iff_not, Bool.not_eq_true', Bool.not_eq_false', Bool.and_eq_true, Bool.or_eq_true, beq_iff_eq, not_and, Int.not_le, Int.not_lt, Int.toNat_natCast, beq_eq_false_iff_ne, ne_eq, eq_self, not_true_eq_false, not_false_eq_true] at hb) <;> (conv => whnf))
    | (refine RegX.rule (id := 13) hT rfl [] [(0, []), (1, [0]), (2, [0]), (3, [0]), (4, [0]), (5, [0, 1, 2, 3, 4]), (6, [0, 1, 2, 3, 4]), (7, [0]), (8, [0]), (9, [0, 1, 2, 3, 4, 5, 6, 7, 8]), (10, [0, 1, 2, 3, 4, 5, 6, 7, 8]), (11, [0, 1, 2, 3, 4, 5, 6, 7, 8]), (12, [0, 1, 2, 3, 4, 5, 6, 7, 8]), (13, [0, 1, 2, 3, 4, 5, 6, 7, 8, 9, 10, 11, 12]), (14, [0, 1, 2, 3, 4, 5, 6, 7, 8, 9, 10, 11, 12]), (15, [0, 1, 2, 3, 4, 5, 6, 7, 8]), (16, [0, 1, 2, 3, 4, 5, 6, 7, 8]), (17, [0]), (18, [])] (by decide +kernel) ?_; conv => whnf)
    | (refine RegX.rule (id := 19) hT rfl [] [(0, []), (1, [0]), (2, [0, 1]), (3, [0, 1]), (4, [0]), (5, [0]), (6, [0]), (7, [0, 1, 2, 3, 4, 5, 6]), (8, [0, 1, 2, 3, 4, 5, 6, 7]), (9, [0, 1, 2, 3, 4, 5, 6, 7]), (10, [0, 1, 2, 3, 4, 5, 6]), (11, [0, 1, 2, 3, 4, 5, 6]), (12, [0, 1, 2, 3, 4, 5, 6]), (13, [0, 1, 2, 3, 4, 5, 6, 7, 8, 9, 10, 11, 12]), (14, [0]), (15, [0]), (16, []), (17, [])] (by decide +kernel) ?_; conv => whnf)
    | omega
    | (refine And.intro ?_ ?_; ((try dsimp only); first | omega | (refine ⟨by omega, by omega, Int.le_trans (Int.mul_le_mul_of_nonneg_right (Int.ofNat_le.2 (Nat.le_of_ble_eq_true (rfl : Nat.ble _ 1024 = true))) (by omega)) (by omega), by omega⟩) | (refine Nat.le_trans (Nat.mul_le_mul_left _ (Nat.le_of_ble_eq_true (rfl : Nat.ble _ 1024 = true))) ?_; omega) | (unfold inI64; omega) | (constructor <;> omega) | (simp only [inI64, List.length_cons, List.length_append, List.length_nil, List.length_set] at *; omega) | decide | (unfold inI64; decide)); conv => whnf)
    | omega | decide | assumption)
  refine .freeze _ 106 114 3 _ _ rfl (.weak _ ?_)
  conv => whnf
  exact ⟨.tup [.d (movs [⟨[97], [98], 1⟩]), .d (.int .i64 0)], _, SV.le_tup ⟨SV.le_ro rfl (fun i hi => by (have : i = 0 := by simp at hi; omega); subst this; rfl), SV.le_int rfl, trivial⟩, ⟨rfl, rfl⟩, trivial⟩
theorem mov_eq {a b : Mov} : a = b ↔ a.a = b.a ∧ a.b = b.b ∧ a.many = b.many := by cases a; cases b; simp
instance : DecidableEq Mov := fun _ _ => decidable_of_iff _ mov_eq.symm
-- slices.Equal of moves
-- shifted
end Go.Proofs.Ytnkdlkgannnfhaa
set_option maxRecDepth 20000
namespace Go.Proofs.Ytnkdlkgannnfhaa
open Go Go.Eng
abbrev PSt := List Plc × Int
def foldN (f : Nat → PSt → PSt) : Nat → PSt → PSt
  | 0, st => st
  | n + 1, st => f n (foldN f n st)
def plN (s : List Slt) (w : List Wnt) (l : List Plc) (k : Nat) : Plc := ⟨(w.getD l.length wn0).v, (s.getD k sl0).day⟩
def canP (s : List Slt) (w : List Wnt) (l : List Plc) (k : Nat) : Prop :=
  cntD l (s.getD k sl0).day l.length < (s.getD k sl0).many ∧ (w.getD l.length wn0).fr ≤ (s.getD k sl0).day ∧ (s.getD k sl0).day < (w.getD l.length wn0).to
instance (s : List Slt) (w : List Wnt) (l : List Plc) (k : Nat) : Decidable (canP s w l k) := inferInstanceAs (Decidable (_ ∧ _ ∧ _))
/-- The search: with d vehicles to place after l. The state: the best placing and what it loses, or -1. -/
def srch (s : List Slt) (w : List Wnt) (b : List Bsy) : Nat → List Plc → PSt → PSt
  | 0, l, st => if 0 ≤ st.2 ∧ st.2 ≤ lostA b l then st else (l, lostA b l)
  | d + 1, l, st => if 0 ≤ st.2 ∧ st.2 ≤ lostA b l then st else foldN (fun k st => if canP s w l k then srch s w b d (l ++ [plN s w l k]) st else st) s.length st
theorem getD_app_lt {α : Type} {l m : List α} {i : Nat} {z : α} (h : i < l.length) : (l ++ m).getD i z = l.getD i z := by
  rw [List.getD_eq_getElem?_getD, List.getD_eq_getElem?_getD, List.getElem?_append_left h]
theorem getD_app_end {α : Type} {l : List α} {x z : α} : (l ++ [x]).getD l.length z = x := by
  rw [List.getD_eq_getElem?_getD, List.getElem?_append_right (Nat.le_refl _)]; simp
theorem getD_take' {α : Type} {l : List α} {n i : Nat} {z : α} (h : i < n) : (l.take n).getD i z = l.getD i z := by
  rw [List.getD_eq_getElem?_getD, List.getD_eq_getElem?_getD, List.getElem?_take_of_lt h]
theorem cntD_app {l m : List Plc} {day : Int} : ∀ {n : Nat}, n ≤ l.length → cntD (l ++ m) day n = cntD l day n := by
  intro n
  induction n with
  | zero => intro _; rfl
  | succ n ih => intro h; rw [cntD, cntD, ih (by omega), getD_app_lt (by omega)]
theorem cntD_snoc (l : List Plc) (p : Plc) (day : Int) : cntD (l ++ [p]) day (l.length + 1) = cntD l day l.length + (if p.day = day then 1 else 0) := by
  rw [cntD, cntD_app (Nat.le_refl _), getD_app_end]
theorem sumN_congr {f g : Nat → Int} : ∀ {n : Nat}, (∀ i, i < n → f i = g i) → sumN f n = sumN g n := by
  intro n
  induction n with
  | zero => intro _; rfl
  | succ n ih => intro h; rw [sumN, sumN, ih (fun i hi => h i (by omega)), h n (by omega)]
theorem lostA_snoc (b : List Bsy) (l : List Plc) (p : Plc) : lostA b (l ++ [p]) = lostA b l + lostP b p := by
  unfold lostA
  rw [show (l ++ [p]).length = l.length + 1 by simp, sumN, getD_app_end, sumN_congr (fun i hi => by rw [getD_app_lt hi])]
theorem lostP_bd {b : List Bsy} (hb : bsysE b = 0) (p : Plc) : 0 ≤ lostP b p ∧ lostP b p ≤ 200000000 := by
  obtain ⟨b1, b2⟩ := bsys_bd hb
  have := sumN_bd (f := fun i => lostC (b.getD i bs0) p) (c := 1000000) (n := b.length) (fun i hi => lostC_bd (b2 i hi))
  unfold lostP
  omega
theorem lostA_bd {b : List Bsy} (hb : bsysE b = 0) (l : List Plc) (hl : l.length ≤ 6) : 0 ≤ lostA b l ∧ lostA b l ≤ 1200000000 := by
  have := sumN_bd (f := fun j => lostP b (l.getD j pl0)) (c := 200000000) (n := l.length) (fun i hi => lostP_bd hb _)
  unfold lostA
  omega
def inS (s : List Slt) (w : List Wnt) (l : List Plc) : Prop := ∀ i, i < l.length → ((∃ k, k < s.length ∧ (s.getD k sl0).day = (l.getD i pl0).day) ∧ (w.getD i wn0).fr ≤ (l.getD i pl0).day ∧ (l.getD i pl0).day < (w.getD i wn0).to) ∧ (l.getD i pl0).v = (w.getD i wn0).v
structure good (s : List Slt) (w : List Wnt) (l : List Plc) : Prop where
  len : l.length ≤ w.length
  ins : inS s w l
  room : ∀ k, k < s.length → cntD l (s.getD k sl0).day l.length ≤ (s.getD k sl0).many
theorem good_nil {s : List Slt} (w : List Wnt) (hs : sltsE s = 0) : good s w [] where
  len := by simp
  ins := fun i hi => absurd hi (by simp)
  room := fun k hk => by
    have := (slts_bd hs).2 (s.getD k sl0) (getD_mem hk)
    show (0 : Int) ≤ _
    omega
theorem day_inj {s : List Slt} (hs : sltsE s = 0) {j k : Nat} (hj : j < s.length) (hk : k < s.length) (h : (s.getD j sl0).day = (s.getD k sl0).day) : j = k := by
  rcases Nat.lt_trichotomy j k with q | q | q
  · have := slts_inc hs q hk; omega
  · exact q
  · have := slts_inc hs q hj; omega
theorem good_snoc {s : List Slt} {w : List Wnt} {l : List Plc} (hs : sltsE s = 0) (g : good s w l) (hw : l.length < w.length) {k : Nat} (hk : k < s.length) (hc : canP s w l k) : good s w (l ++ [plN s w l k]) where
  len := by simp; omega
  ins := fun i hi => by
    simp at hi
    rcases Nat.lt_or_ge i l.length with q | q
    · rw [getD_app_lt q]; exact g.ins i q
    · have : i = l.length := by omega
      subst this
      rw [getD_app_end]
      exact ⟨⟨⟨k, hk, rfl⟩, hc.2⟩, rfl⟩
  room := fun j hj => by
    rw [show (l ++ [plN s w l k]).length = l.length + 1 by simp, cntD_snoc]
    have h1 := g.room j hj
    split
    · rename_i hq
      have : k = j := day_inj hs hk hj hq
      subst this
      have := hc.1
      omega
    · omega
theorem ixF_some {p : Nat → Bool} {n k : Nat} (hk : k < n) (h : p k = true) : 0 ≤ ixF p n := by
  have hb := ixF_bd (p := p) (n := n)
  rcases Int.lt_or_le (ixF p n) 0 with q | q
  · exfalso
    have hn : ∀ m, ixF p m < 0 → ∀ j, j < m → p j = false := by
      intro m
      induction m with
      | zero => intro _ j hj; omega
      | succ m ih =>
        intro hm j hj
        rw [ixF] at hm
        split at hm
        · rename_i hz
          by_cases hjm : j = m
          · subst hjm
            split at hm
            · omega
            · rename_i hf; simpa using hf
          · exact ih (by omega) j (by omega)
        · rename_i hz; have := (ixF_bd (p := p) (n := m)).1; omega
    rw [hn n q k hk] at h
    cases h
  · exact q
theorem good_placed {s : List Slt} {w : List Wnt} {l : List Plc} (g : good s w l) : placedE s (w.take l.length) l = 0 := by
  have hlen : (w.take l.length).length = l.length := by rw [List.length_take]; have := g.len; omega
  have hn : namesB (w.take l.length) l := ⟨hlen, fun i hi => by rw [getD_take' (by omega)]; exact ((g.ins i (by omega)).2).symm⟩
  have hset : ∀ j, j < l.length → setE s (w.take l.length) l j = 0 := fun j hj => by
    obtain ⟨⟨⟨k, hk, hd⟩, h2, h3⟩, h4⟩ := g.ins j hj
    unfold setE
    simp only
    rw [getD_take' hj, if_neg (by omega), if_neg]
    have := ixF_some (p := fun i => decide ((s.getD i sl0).day = (l.getD j pl0).day)) hk (by simpa using hd)
    unfold sltIx
    omega
  unfold placedE
  rw [if_neg (fun q => q hn), firstAt_zero hset, if_neg (by simp), firstAt_zero (fun k hk => ?_)]
  unfold roomE
  rw [if_neg]
  have := g.room k hk
  omega
theorem placed_can {s : List Slt} {w : List Wnt} {l : List Plc} (hw : l.length < w.length) {k : Nat} (hk : k < s.length) (h : placedE s (w.take (l.length + 1)) (l ++ [plN s w l k]) = 0) : canP s w l k := by
  have hlen : (l ++ [plN s w l k]).length = l.length + 1 := by simp
  unfold placedE at h
  split at h
  · cases h
  split at h
  · rename_i h1; exact absurd h h1
  rename_i h1
  have h2 := firstAt_all (by simpa using h1) l.length (by omega)
  have h3 := firstAt_all h k hk
  unfold setE at h2
  simp only at h2
  rw [getD_take' (by omega), getD_app_end] at h2
  unfold roomE at h3
  rw [hlen, cntD_snoc, if_pos (show (plN s w l k).day = (s.getD k sl0).day from rfl)] at h3
  have e1 : (plN s w l k).day = (s.getD k sl0).day := rfl
  rw [e1] at h2
  refine ⟨?_, ?_, ?_⟩
  · split at h3
    · cases h3
    · omega
  · split at h2
    · cases h2
    · omega
  · split at h2
    · cases h2
    · omega
theorem wnts_key {w : List Wnt} (h : wntsE w = 0) : w.length ≤ 6 ∧ ∀ i, i < w.length → wntE w i = 0 := by
  unfold wntsE at h
  split at h
  · cases h
  · exact ⟨by omega, firstAt_all h⟩
theorem wnts_take {w : List Wnt} (h : wntsE w = 0) (n : Nat) (hn : n ≤ w.length) : wntsE (w.take n) = 0 := by
  obtain ⟨h1, h2⟩ := wnts_key h
  have hl : (w.take n).length = n := by rw [List.length_take]; omega
  unfold wntsE
  rw [hl, if_neg (by omega), firstAt_zero (fun i hi => ?_)]
  have := h2 i (by omega)
  unfold wntE at this ⊢
  rw [getD_take' hi]
  rcases Nat.eq_zero_or_pos i with q | q
  · subst q; exact this
  · rw [getD_take' (show i - 1 < n by omega)]; exact this
theorem good_plcs {s : List Slt} {w : List Wnt} {l : List Plc} (hs : sltsE s = 0) (hw : wntsE w = 0) (g : inS s w l) (hl : l.length ≤ w.length) : plcsE l = 0 := by
  obtain ⟨h1, h2⟩ := wnts_key hw
  unfold plcsE
  rw [if_neg (by omega), firstAt_zero (fun i hi => ?_)]
  have := h2 i (by omega)
  obtain ⟨⟨⟨k, hk, hd⟩, _⟩, h4⟩ := g i hi
  have hday := ((slts_bd hs).2 (s.getD k sl0) (getD_mem hk)).1
  unfold wntE at this
  unfold plcE
  simp only at this ⊢
  rw [h4]
  rcases Nat.eq_zero_or_pos i with q | q
  · subst q
    simp only [Nat.lt_irrefl, false_and, if_false] at this ⊢
    split at this
    · cases this
    · rename_i hq; rw [if_neg hq, if_neg (by omega)]
  · rw [(g (i - 1) (by omega)).2]
    split at this
    · cases this
    · rename_i hq
      rw [if_neg hq]
      split at this
      · cases this
      · rename_i hq2; rw [if_neg hq2, if_neg (by omega)]
theorem snoc_plcs {s : List Slt} {w : List Wnt} {l : List Plc} (hs : sltsE s = 0) (hw : wntsE w = 0) (g : good s w l) (hl : l.length < w.length) {k : Nat} (hk : k < s.length) : plcsE (l ++ [plN s w l k]) = 0 := by
  obtain ⟨h1, h2⟩ := wnts_key hw
  have hlen : (l ++ [plN s w l k]).length = l.length + 1 := by simp
  unfold plcsE
  rw [hlen, if_neg (by omega), firstAt_zero (fun i hi => ?_)]
  have := h2 i (by omega)
  have hv : ∀ j, j ≤ l.length → ((l ++ [plN s w l k]).getD j pl0).v = (w.getD j wn0).v := fun j hj => by
    rcases Nat.lt_or_ge j l.length with q | q
    · rw [getD_app_lt q]; exact (g.ins j q).2
    · have : j = l.length := by omega
      subst this
      rw [getD_app_end]; rfl
  have hdy : 0 ≤ ((l ++ [plN s w l k]).getD i pl0).day ∧ ((l ++ [plN s w l k]).getD i pl0).day ≤ 4000 := by
    rcases Nat.lt_or_ge i l.length with q | q
    · rw [getD_app_lt q]
      obtain ⟨⟨⟨k', hk', hd⟩, _⟩, _⟩ := g.ins i q
      rw [← hd]
      exact ((slts_bd hs).2 (s.getD k' sl0) (getD_mem hk')).1
    · have : i = l.length := by omega
      subst this
      rw [getD_app_end]
      exact ((slts_bd hs).2 (s.getD k sl0) (getD_mem hk)).1
  unfold wntE at this
  unfold plcE
  simp only at this ⊢
  rw [hv i (by omega), hv (i - 1) (by omega)]
  split at this
  · cases this
  · rename_i hq
    rw [if_neg hq]
    split at this
    · cases this
    · rename_i hq2; rw [if_neg hq2, if_neg (by omega)]
/-- What room is left. -/
def roomL (s : List Slt) (l : List Plc) : List Int := (List.range s.length).map fun k => (s.getD k sl0).many - cntD l (s.getD k sl0).day l.length
theorem roomL_len (s : List Slt) (l : List Plc) : (roomL s l).length = s.length := by simp [roomL]
theorem roomL_get {s : List Slt} (l : List Plc) {k : Nat} (hk : k < s.length) : (roomL s l).getD k 0 = (s.getD k sl0).many - cntD l (s.getD k sl0).day l.length := by
  rw [List.getD_eq_getElem?_getD]
  simp [roomL, hk]
theorem roomL_snoc {s : List Slt} (w : List Wnt) (l : List Plc) (hs : sltsE s = 0) {k : Nat} (hk : k < s.length) : (roomL s l).set k ((roomL s l).getD k 0 - 1) = roomL s (l ++ [plN s w l k]) := by
  apply List.ext_getElem
  · simp [roomL]
  intro j h1 h2
  have hj : j < s.length := by simpa [roomL] using h1
  rw [List.getElem_set]
  have e1 : (roomL s (l ++ [plN s w l k]))[j] = (s.getD j sl0).many - cntD (l ++ [plN s w l k]) (s.getD j sl0).day (l.length + 1) := by simp [roomL]
  rw [e1, cntD_snoc]
  split
  · rename_i q
    subst q
    rw [roomL_get l hk, if_pos (show (plN s w l k).day = (s.getD k sl0).day from rfl)]
    omega
  · rename_i q
    rw [if_neg (show ¬ (plN s w l k).day = (s.getD j sl0).day from fun e => q (day_inj hs hk hj e))]
    simp [roomL]
theorem roomL_back {s : List Slt} (w : List Wnt) (l : List Plc) (hs : sltsE s = 0) {k : Nat} (hk : k < s.length) : (roomL s (l ++ [plN s w l k])).set k ((roomL s (l ++ [plN s w l k])).getD k 0 + 1) = roomL s l := by
  rw [← roomL_snoc w l hs hk, List.set_set]
  apply List.ext_getElem
  · simp
  intro j h1 h2
  rw [List.getElem_set]
  split
  · rename_i q
    subst q
    have hlt : k < (roomL s l).length := h2
    rw [List.getD_eq_getElem?_getD, List.getElem?_set_self hlt, Option.getD_some, List.getD_eq_getElem?_getD, List.getElem?_eq_getElem hlt, Option.getD_some]
    omega
  · rfl
theorem foldN_bd {f : Nat → PSt → PSt} {q : PSt → Prop} : ∀ {n : Nat} {st : PSt}, (∀ k st, k < n → q st → q (f k st)) → q st → q (foldN f n st) := by
  intro n
  induction n with
  | zero => intro st _ h; exact h
  | succ n ih => intro st hf h; exact hf n _ (by omega) (ih (fun k st hk h => hf k st (by omega) h) h)
end Go.Proofs.Ytnkdlkgannnfhaa
set_option maxRecDepth 20000
namespace Go.Proofs.Ytnkdlkgannnfhaa
open Go Go.Eng
abbrev plB (l : List Plc) : Res := seqB 50 2 plF pl0 l
-- slices.Clone of placed ones, of an own row: what it gives back is changed no more
theorem s140 (l : List Plc) (hl : l.length ≤ 2^20) : FSpec Try.prog 57 [.buf 1000001] [(1000001, plB l)] (fun y r => y = .d (plcs l) ∧ r = [(1000001, plB l)]) := by
  refine spec_of hT (C := [5]) Try.func57 rfl Try.call57 rfl rfl rfl ?_
  conv => whnf
  rintro b hbn
  conv => whnf
  repeat' (first
    | (refine br_intro (fun hb => ?_) (fun hb => ?_) <;> (try simp only [decide_eq_true_eq, decide_eq_false_iff_not, Bool.not_eq_true', Bool.not_eq_false', Bool.and_eq_true, Bool.or_eq_true, beq_iff_eq, not_and, Int.not_le, Int.not_lt, Int.toNat_natCast, beq_eq_false_iff_ne, ne_eq, eq_self, not_true_eq_false, not_false_eq_true] at hb) <;> (conv => whnf))
    | omega
    | (refine And.intro ?_ ?_; ((try dsimp only); first | omega | (refine ⟨by omega, by omega, Int.le_trans (Int.mul_le_mul_of_nonneg_right (Int.ofNat_le.2 (Nat.le_of_ble_eq_true (rfl : Nat.ble _ 1024 = true))) (by omega)) (by omega), by omega⟩) | (refine Nat.le_trans (Nat.mul_le_mul_left _ (Nat.le_of_ble_eq_true (rfl : Nat.ble _ 1024 = true))) ?_; omega) | (unfold inI64; omega) | (constructor <;> omega) | (simp only [inI64, List.length_cons, List.length_append, List.length_nil, List.length_set] at *; omega) | decide | (unfold inI64; decide)); conv => whnf)
    | omega | decide | assumption)
  · have : l = [] := List.eq_nil_of_length_eq_zero (hbn (by assumption))
    subst this
    refine .weak _ ?_
    (conv => whnf)
    exact ⟨_, _, SV.le_nilS, ⟨rfl, rfl⟩, Res.le_refl _, trivial⟩
  · refine .freeze _ 7 50 2 _ _ rfl (.weak _ ?_)
    (conv => whnf)
    exact ⟨_, _, SV.le_ro (by simp) (fun i hi => by rw [appGet_ge (by omega)]; rfl), ⟨rfl, rfl⟩, Res.le_refl _, trivial⟩
-- the same, of a frozen row
theorem s140f (l : List Plc) (hl : l.length ≤ 2^20) : FSpec Try.prog 57 [.d (plcs l)] [] (fun y r => y = .d (plcs l) ∧ r = []) := by
  refine spec_of hT (C := [5]) Try.func57 rfl Try.call57 rfl rfl rfl ?_
  conv => whnf
  rintro b hbn
  conv => whnf
  repeat' (first
    | (refine br_intro (fun hb => ?_) (fun hb => ?_) <;> (try simp only [decide_eq_true_eq, decide_eq_false_iff_not, Bool.not_eq_true', Bool.not_eq_false', Bool.and_eq_true, Bool.or_eq_true, beq_iff_eq, not_and, Int.not_le, Int.not_lt, Int.toNat_natCast, beq_eq_false_iff_ne, ne_eq, eq_self, not_true_eq_false, not_false_eq_true] at hb) <;> (conv => whnf))
    | omega
    | (refine And.intro ?_ ?_; ((try dsimp only); first | omega | (refine ⟨by omega, by omega, Int.le_trans (Int.mul_le_mul_of_nonneg_right (Int.ofNat_le.2 (Nat.le_of_ble_eq_true (rfl : Nat.ble _ 1024 = true))) (by omega)) (by omega), by omega⟩) | (refine Nat.le_trans (Nat.mul_le_mul_left _ (Nat.le_of_ble_eq_true (rfl : Nat.ble _ 1024 = true))) ?_; omega) | (unfold inI64; omega) | (constructor <;> omega) | (simp only [inI64, List.length_cons, List.length_append, List.length_nil, List.length_set] at *; omega) | decide | (unfold inI64; decide)); conv => whnf)
    | omega | decide | assumption)
  · have : l = [] := List.eq_nil_of_length_eq_zero (hbn (by assumption))
    subst this
    refine .weak _ ?_
    (conv => whnf)
    exact ⟨_, _, SV.le_nilS, ⟨rfl, rfl⟩, trivial⟩
  · refine .freeze _ 7 50 2 _ _ rfl (.weak _ ?_)
    (conv => whnf)
    exact ⟨_, _, SV.le_ro (by simp) (fun i hi => by rw [appGet_ge (by omega)]; rfl), ⟨rfl, rfl⟩, trivial⟩
-- the same, of a row that is changed no more: what it gives back is the caller's own
theorem s140r (l : List Plc) (hl : l.length ≤ 2^20) : FSpec Try.prog 57 [.d (plcs l)] [] (fun y r => (y = .d .nilsl ∧ l = [] ∧ r = []) ∨ (y = .buf 7 ∧ r = [(7, plB l)])) := by
  refine spec_of hT (C := [5]) Try.func57 rfl Try.call57 rfl rfl rfl ?_
  conv => whnf
  rintro b hbn
  conv => whnf
  repeat' (first
    | (refine br_intro (fun hb => ?_) (fun hb => ?_) <;> (try simp only [decide_eq_true_eq, decide_eq_false_iff_not, Bool.not_eq_true', Bool.not_eq_false', Bool.and_eq_true, Bool.or_eq_true, beq_iff_eq, not_and, Int.not_le, Int.not_lt, Int.toNat_natCast, beq_eq_false_iff_ne, ne_eq, eq_self, not_true_eq_false, not_false_eq_true] at hb) <;> (conv => whnf))
    | omega
    | (refine And.intro ?_ ?_; ((try dsimp only); first | omega | (refine ⟨by omega, by omega, Int.le_trans (Int.mul_le_mul_of_nonneg_right (Int.ofNat_le.2 (Nat.le_of_ble_eq_true (rfl : Nat.ble _ 1024 = true))) (by omega)) (by omega), by omega⟩) | (refine Nat.le_trans (Nat.mul_le_mul_left _ (Nat.le_of_ble_eq_true (rfl : Nat.ble _ 1024 = true))) ?_; omega) | (unfold inI64; omega) | (constructor <;> omega) | (simp only [inI64, List.length_cons, List.length_append, List.length_nil, List.length_set] at *; omega) | decide | (unfold inI64; decide)); conv => whnf)
    | omega | decide | assumption)
  · have : l = [] := List.eq_nil_of_length_eq_zero (hbn (by assumption))
    refine .ret _ ?_
    conv => whnf
    exact ⟨_, .inl ⟨rfl, this, rfl⟩, trivial⟩
  · refine .ret _ ?_
    conv => whnf
    refine ⟨_, .inr ⟨rfl, rfl⟩, Res.le_buf (by simp) (fun i hi => ?_), trivial⟩
    rw [appGet_ge (by omega)]; rfl
theorem pl_eq {a b : Plc} : a = b ↔ a.v = b.v ∧ a.day = b.day := by cases a; cases b; simp
instance : DecidableEq Plc := fun _ _ => decidable_of_iff _ pl_eq.symm
-- slices.Equal of placed ones
end Go.Proofs.Ytnkdlkgannnfhaa
set_option maxRecDepth 20000
namespace Go.Proofs.Ytnkdlkgannnfhaa
open Go Go.Eng
def cellsLe : List SV → List SV → Prop
  | [], [] => True
  | x :: l, y :: m => SV.le x y ∧ cellsLe l m
  | _, _ => False
theorem cellsLe_get : ∀ {l m : List SV}, cellsLe l m → l.length = m.length ∧ ∀ (i : Nat) x y, l[i]? = some x → m[i]? = some y → SV.le x y := by
  intro l
  induction l with
  | nil =>
    intro m h
    cases m with
    | nil => exact ⟨rfl, by simp⟩
    | cons y m => exact h.elim
  | cons x l ih =>
    intro m h
    cases m with
    | nil => exact h.elim
    | cons y m =>
      obtain ⟨h1, h2⟩ := h
      obtain ⟨i1, i2⟩ := ih h2
      refine ⟨by simp [i1], fun i a b ha hb => ?_⟩
      cases i with
      | zero => simp at ha hb; subst ha; subst hb; exact h1
      | succ i => exact i2 i a b (by simpa using ha) (by simpa using hb)
theorem Res.le_cellsL {e : TypeId} {l m : List SV} (h : cellsLe l m) : Res.le (.cells e l) (.cells e m) :=
  Res.le_cells (cellsLe_get h).1 (cellsLe_get h).2
abbrev srch0 (s : List Slt) (w : List Wnt) (b : List Bsy) : PSt := srch s w b w.length [] ([], -1)
-- PlaceOf
end Go.Proofs.Ytnkdlkgannnfhaa
set_option maxRecDepth 20000
namespace Go.Proofs.Ytnkdlkgannnfhaa
open Go Go.Eng
def costG (s : List Slt) (w : List Wnt) (b : List Bsy) : Nat → List DV := fun i => [.ro 1 s.length (fun k => [.int .i64 (lostP b ⟨(w.getD i wn0).v, (s.getD k sl0).day⟩)])]
abbrev plX (s : List Slt) (w : List Wnt) (now : SV) (st : PSt) : Res := .cells 92 [.d (slts s), .buf 1000001, .d (wnts w), .buf 1000003, now, .d (plcs st.1), .d (.int .i64 st.2)]
abbrev plR (s : List Slt) (w : List Wnt) (b : List Bsy) (l : List Plc) (nm : Nat) (st : PSt) : List (Nat × Res) :=
  [(1000000, plX s w (.buf nm) st), (1000001, seqB 3 1 iF 0 (roomL s l)), (1000003, .fro 1 w.length (costG s w b)), (nm, plB l)]
theorem Res.le_cut {l m : List Plc} {e k n : Nat} (hn : n = l.length) (h : ∀ i, i < l.length → m.getD i pl0 = l.getD i pl0) : Res.le (.buf e k n (rowF plF pl0 m)) (seqB e k plF pl0 l) :=
  Res.le_buf hn (fun i hi => by simp only [rowF]; rw [h i (by omega)])
-- place, at the leaves
theorem s138z (s : List Slt) (w : List Wnt) (b : List Bsy) (hw6 : w.length ≤ 6) (l : List Plc) (hd : l.length = w.length) (st : PSt) :
    FSpec Try.prog 33 [.ptr 1000000 0, .d (.int .i64 l.length), .d (.int .i64 (lostA b l))] (plR s w b l 1000002 st) (fun y r => y = .tup [] ∧ ∃ nm, (nm = 1000002 ∨ nm = 60) ∧ r = plR s w b l nm (srch s w b 0 l st)) := by
  refine spec_of hT (C := []) Try.func33 rfl Try.call33 rfl rfl rfl ?_
  conv => whnf
  repeat' (first
    | (refine CallX.of (s140 l (by omega)) [(1000001, 1000002)] rfl ⟨SV.le_refl _, trivial⟩ ⟨Res.le_refl _, trivial⟩ rfl rfl ?_; rintro x rout ⟨rfl, rfl⟩; refine ⟨rfl, ?_⟩; conv => whnf)
    | (refine br_intro (fun hb => ?_) (fun hb => ?_) <;> (try simp only [decide_eq_true_eq, decide_eq_false_iff_not, Bool.not_eq_true', Bool.not_eq_false', Bool.and_eq_true, Bool.or_eq_true, beq_iff_eq, not_and, Int.not_le, Int.not_lt, Int.toNat_natCast, beq_eq_false_iff_ne, ne_eq, eq_self, not_true_eq_false, not_false_eq_true] at hb) <;> (conv => whnf))
    | (refine RegX.rule (id := 6) hT rfl [] [(0, []), (1, []), (2, []), (3, []), (4, [0, 1, 2, 3]), (5, []), (6, []), (7, []), (8, []), (9, []), (10, []), (11, [9, 10]), (12, [9, 10]), (13, [9, 10]), (14, [9, 10]), (15, [9, 10, 11, 12, 13, 14]), (16, [9, 10]), (17, [9, 10]), (18, [9, 10]), (19, []), (20, []), (21, []), (22, []), (23, []), (24, [22, 23]), (25, [22, 23]), (26, [22, 23]), (27, [22, 23]), (28, [22, 23, 24, 25, 26, 27]), (29, [22, 23]), (30, [22, 23]), (31, [22, 23]), (32, []), (33, [])] (by decide +kernel) ?_; conv => whnf)
    | (refine RegX.rule (id := 8) hT rfl [] [(0, []), (1, [0]), (2, [0]), (3, [0]), (4, [0]), (5, [0, 1, 2, 3, 4]), (6, [0, 1, 2, 3, 4]), (7, [0, 1, 2, 3, 4]), (8, [0, 1, 2, 3, 4]), (9, [0, 1, 2, 3, 4, 5, 6, 7, 8]), (10, [0, 1, 2, 3, 4]), (11, [0, 1, 2, 3, 4]), (12, [0, 1, 2, 3, 4]), (13, [0, 1, 2, 3, 4, 5, 6, 7, 8, 9, 10, 11, 12]), (14, [0, 1, 2, 3, 4, 5, 6, 7, 8, 9, 10, 11, 12]), (15, [0, 1, 2, 3, 4]), (16, [0, 1, 2, 3, 4]), (17, [0]), (18, []), (19, []), (20, [])] (by decide +kernel) ?_; conv => whnf)
    | (refine RegX.rule (id := 10) hT rfl [] [(0, []), (1, [0]), (2, [0]), (3, [0]), (4, [0]), (5, [0, 1, 2, 3, 4]), (6, [0, 1, 2, 3, 4]), (7, [0, 1, 2, 3, 4]), (8, [0, 1, 2, 3, 4]), (9, [0, 1, 2, 3, 4]), (10, [0, 1, 2, 3, 4]), (11, [0]), (12, []), (13, []), (14, [])] (by decide +kernel) ?_; conv => whnf)
    | omega
    | (refine And.intro ?_ ?_; ((try dsimp only); first | omega | (refine ⟨by omega, by omega, Int.le_trans (Int.mul_le_mul_of_nonneg_right (Int.ofNat_le.2 (Nat.le_of_ble_eq_true (rfl : Nat.ble _ 1024 = true))) (by omega)) (by omega), by omega⟩) | (refine Nat.le_trans (Nat.mul_le_mul_left _ (Nat.le_of_ble_eq_true (rfl : Nat.ble _ 1024 = true))) ?_; omega) | (unfold inI64; omega) | (constructor <;> omega) | (simp only [inI64, List.length_cons, List.length_append, List.length_nil, List.length_set] at *; omega) | decide | (unfold inI64; decide)); conv => whnf)
    | omega | decide | assumption)
  · rw [srch, if_pos ⟨by omega, by omega⟩]
    refine .ret _ ?_
    conv => whnf
    exact ⟨_, ⟨rfl, 1000002, .inl rfl, rfl⟩, Res.le_refl _, Res.le_refl _, Res.le_refl _, Res.le_refl _, trivial⟩
  all_goals
    rw [srch, if_neg (by omega)]
    refine .ret _ ?_
    conv => whnf
    exact ⟨_, ⟨rfl, 1000002, .inl rfl, rfl⟩, Res.le_refl _, Res.le_refl _, Res.le_refl _, Res.le_refl _, trivial⟩
end Go.Proofs.Ytnkdlkgannnfhaa
set_option maxRecDepth 20000
namespace Go.Proofs.Ytnkdlkgannnfhaa
open Go Go.Eng
theorem roomL_bd {s : List Slt} (hs : sltsE s = 0) (l : List Plc) (hl : l.length ≤ 6) {k : Nat} (hk : k < s.length) : -6 ≤ (roomL s l).getD k 0 ∧ (roomL s l).getD k 0 ≤ 20 := by
  have h1 := cntD_bd l (s.getD k sl0).day l.length
  have h2 := ((slts_bd hs).2 _ (getD_mem (x := sl0) hk)).2
  rw [roomL_get l hk]
  omega
-- place
set_option maxHeartbeats 8000000 in
theorem s138 (s : List Slt) (w : List Wnt) (b : List Bsy) (hs : sltsE s = 0) (hw6 : w.length ≤ 6) (hb0 : bsysE b = 0) : ∀ (d : Nat) (l : List Plc), l.length + d = w.length → good s w l → ∀ st : PSt,
    FSpec Try.prog 33 [.ptr 1000000 0, .d (.int .i64 l.length), .d (.int .i64 (lostA b l))] (plR s w b l 1000002 st) (fun y r => y = .tup [] ∧ ∃ nm, (nm = 1000002 ∨ nm = 60) ∧ r = plR s w b l nm (srch s w b d l st)) := by
  intro d
  induction d with
  | zero => intro l hd g st; exact s138z s w b hw6 l (by omega) st
  | succ d ih =>
    intro l hd g st
    have hs12 := (slts_bd hs).1
    have hla := lostA_bd hb0 l (by omega)
    have hrl := roomL_len s l
    refine spec_of hT (C := []) Try.func33 rfl Try.call33 rfl rfl rfl ?_
    conv => whnf
    repeat' (first
      | (refine br_intro (fun hb => ?_) (fun hb => ?_) <;> (try simp only [decide_eq_true_eq, decide_eq_false_iff_not, Bool.not_eq_true', Bool.not_eq_false', Bool.and_eq_true, Bool.or_eq_true, beq_iff_eq, not_and, Int.not_le, Int.not_lt, Int.toNat_natCast, beq_eq_false_iff_ne, ne_eq, eq_self, not_true_eq_false, not_false_eq_true] at hb) <;> (conv => whnf))
      | (refine RegX.rule (id := 6) hT rfl [] [(0, []), (1, []), (2, []), (3, []), (4, [0, 1, 2, 3]), (5, []), (6, []), (7, []), (8, []), (9, []), (10, []), (11, [9, 10]), (12, [9, 10]), (13, [9, 10]), (14, [9, 10]), (15, [9, 10, 11, 12, 13, 14]), (16, [9, 10]), (17, [9, 10]), (18, [9, 10]), (19, []), (20, []), (21, []), (22, []), (23, []), (24, [22, 23]), (25, [22, 23]), (26, [22, 23]), (27, [22, 23]), (28, [22, 23, 24, 25, 26, 27]), (29, [22, 23]), (30, [22, 23]), (31, [22, 23]), (32, []), (33, [])] (by decide +kernel) ?_; conv => whnf)
      | (refine RegX.rule (id := 8) hT rfl [] [(0, []), (1, [0]), (2, [0]), (3, [0]), (4, [0]), (5, [0, 1, 2, 3, 4]), (6, [0, 1, 2, 3, 4]), (7, [0, 1, 2, 3, 4]), (8, [0, 1, 2, 3, 4]), (9, [0, 1, 2, 3, 4, 5, 6, 7, 8]), (10, [0, 1, 2, 3, 4]), (11, [0, 1, 2, 3, 4]), (12, [0, 1, 2, 3, 4]), (13, [0, 1, 2, 3, 4, 5, 6, 7, 8, 9, 10, 11, 12]), (14, [0, 1, 2, 3, 4, 5, 6, 7, 8, 9, 10, 11, 12]), (15, [0, 1, 2, 3, 4]), (16, [0, 1, 2, 3, 4]), (17, [0]), (18, []), (19, []), (20, [])] (by decide +kernel) ?_; conv => whnf)
      | (refine RegX.rule (id := 10) hT rfl [] [(0, []), (1, [0]), (2, [0]), (3, [0]), (4, [0]), (5, [0, 1, 2, 3, 4]), (6, [0, 1, 2, 3, 4]), (7, [0, 1, 2, 3, 4]), (8, [0, 1, 2, 3, 4]), (9, [0, 1, 2, 3, 4]), (10, [0, 1, 2, 3, 4]), (11, [0]), (12, []), (13, []), (14, [])] (by decide +kernel) ?_; conv => whnf)
      | omega
      | (refine And.intro ?_ ?_; ((try dsimp only); first | omega | (refine ⟨by omega, by omega, Int.le_trans (Int.mul_le_mul_of_nonneg_right (Int.ofNat_le.2 (Nat.le_of_ble_eq_true (rfl : Nat.ble _ 1024 = true))) (by omega)) (by omega), by omega⟩) | (refine Nat.le_trans (Nat.mul_le_mul_left _ (Nat.le_of_ble_eq_true (rfl : Nat.ble _ 1024 = true))) ?_; omega) | (unfold inI64; omega) | (constructor <;> omega) | (simp only [inI64, List.length_cons, List.length_append, List.length_nil, List.length_set] at *; omega) | decide | (unfold inI64; decide)); conv => whnf)
      | omega | decide | assumption)
    · rw [srch, if_pos ⟨by omega, by omega⟩]
      refine .ret _ ?_
      conv => whnf
      exact ⟨_, ⟨rfl, 1000002, .inl rfl, rfl⟩, Res.le_refl _, Res.le_refl _, Res.le_refl _, Res.le_refl _, trivial⟩
    all_goals
      rw [srch, if_neg (by omega)]
      refine LoopX.rule hT (C := []) (ι := Bool × Nat) (fun (_, k) => k ≤ s.length) (fun (c, k) => mkSt [(0, .ptr 1000000 0), (1, .d (.int .i64 l.length)), (2, .d (.int .i64 (lostA b l))), (43, .d (slts s)), (44, .d (.int .i64 s.length)), (45, .d (.int .i64 k))]
        (plR s w b l (bif c then 60 else 1000002) (foldN (fun k st => if canP s w l k then srch s w b d (l ++ [plN s w l k]) st else st) k st))) (fun (_, k) => s.length - k) (false, 0) (by simp) ?_ ?_
      · exact (by (refine Entails.mk' [(1000000, 1000000), (1000001, 1000001), (1000003, 1000003), (1000002, 1000002)] rfl rfl ?_ ?_ <;> repeat' (first | exact True.intro | exact SV.le_refl _ | exact Res.le_refl _ | exact SV.le_int (by omega) | exact SV.le_any _ | refine And.intro ?_ ?_)); done)
      rintro ⟨c, k⟩ p1
      have p1 : k ≤ s.length := p1
      have e1 : (k : Int).toNat = k := Int.toNat_natCast k
      have e2 : (l.length : Int).toNat = l.length := Int.toNat_natCast _
      obtain ⟨q, hq⟩ : ∃ q, q = foldN (fun k st => if canP s w l k then srch s w b d (l ++ [plN s w l k]) st else st) k st := ⟨_, rfl⟩
      have hstep : foldN (fun k st => if canP s w l k then srch s w b d (l ++ [plN s w l k]) st else st) (k + 1) st = if canP s w l k then srch s w b d (l ++ [plN s w l k]) q else q := by rw [hq]; rfl
      have hroom : k < s.length → (roomL s l).getD k 0 = (s.getD k sl0).many - cntD l (s.getD k sl0).day l.length ∧ cntD l (s.getD k sl0).day l.length ≤ (s.getD k sl0).many ∧ (s.getD k sl0).many ≤ 20 := fun hk => ⟨roomL_get l hk, g.room k hk, ((slts_bd hs).2 _ (getD_mem hk)).2.2⟩
      have hcb := cntD_bd l (s.getD k sl0).day l.length
      obtain ⟨m, hm⟩ : ∃ m, m = l ++ [plN s w l k] := ⟨_, rfl⟩
      have hml : m.length = l.length + 1 := by rw [hm]; simp
      have hrb := fun (x : List Plc) (hx : x.length ≤ 6) (hk : k < s.length) => roomL_bd hs x hx hk
      have hrm := roomL_len s m
      have hsnoc : k < s.length → Res.le (.buf 3 1 (roomL s l).length fun i => bif Nat.beq i k then setAtD (rowF iF 0 (roomL s l) i) 0 [.int .i64 ((roomL s l).getD k 0 - 1)] else rowF iF 0 (roomL s l) i) (seqB 3 1 iF 0 (roomL s m)) := fun hk => by
        rw [hm, ← roomL_snoc w l hs hk]; exact Res.le_upd (fun _ => (roomL s l).getD k 0 - 1) (fun _ => rfl)
      have hback : k < s.length → Res.le (.buf 3 1 (roomL s m).length fun i => bif Nat.beq i k then setAtD (rowF iF 0 (roomL s m) i) 0 [.int .i64 ((roomL s m).getD k 0 + 1)] else rowF iF 0 (roomL s m) i) (seqB 3 1 iF 0 (roomL s l)) := fun hk => by
        have h := Res.le_upd (f := iF) (d := 0) (l := roomL s m) (e := 3) (k := 1) (j := k) (off := 0) (ds := [.int .i64 ((roomL s m).getD k 0 + 1)]) (fun _ => (roomL s m).getD k 0 + 1) (fun _ => rfl)
        have h2 := roomL_back w l hs hk
        rw [← hm] at h2
        rwa [h2] at h
      show wpx _ _ _ _ _ (mkSt _ (plR s w b l _ (foldN _ k st)))
      rw [← hq]
      cases c
      all_goals
        conv => whnf
        repeat' (first
          | (refine CallX.of (ih m (by omega) (by rw [hm]; exact good_snoc hs g (by omega) (by omega) ⟨by have := hroom (by omega); omega, by omega, by omega⟩) q) [(1000000, 1000000), (1000001, 1000001), (1000003, 1000003), (1000002, 110), (60, 900)] rfl ⟨SV.le_refl _, SV.le_int (by rw [hml]; omega), SV.le_int (by rw [hm, lostA_snoc]; rfl), trivial⟩ ⟨Res.le_refl _, hsnoc (by omega), Res.le_refl _, by rw [hm]; exact Res.le_snocF (x := plN s w l k) rfl, trivial⟩ rfl rfl ?_; rintro x rout ⟨rfl, nm, (rfl | rfl), rfl⟩ <;> (refine ⟨rfl, ?_⟩; conv => whnf); conv => whnf)
          | (refine And.intro (by have := lostP_bd hb0 ⟨(w.getD (l.length : Int).toNat wn0).v, (s.getD (k : Int).toNat sl0).day⟩; unfold inI64; omega) ?_; conv => whnf)
          | (refine And.intro (by have h := hrb l (by omega) (by omega); rw [e1]; unfold inI64; omega) ?_; conv => whnf)
          | (refine And.intro (by have h := hrb m (by omega) (by omega); rw [e1]; unfold inI64; omega) ?_; conv => whnf)
          | (refine br_intro (fun hb => ?_) (fun hb => ?_) <;> (try simp only [decide_eq_true_eq, decide_eq_false_iff_not, Bool.not_eq_true', Bool.not_eq_false', Bool.and_eq_true, Bool.or_eq_true, beq_iff_eq, not_and, Int.not_le, Int.not_lt, Int.toNat_natCast, beq_eq_false_iff_ne, ne_eq, eq_self, not_true_eq_false, not_false_eq_true] at hb) <;> (conv => whnf))
          | (refine RegX.rule (id := 6) hT rfl [] [(0, []), (1, []), (2, []), (3, []), (4, [0, 1, 2, 3]), (5, []), (6, []), (7, []), (8, []), (9, []), (10, []), (11, [9, 10]), (12, [9, 10]), (13, [9, 10]), (14, [9, 10]), (15, [9, 10, 11, 12, 13, 14]), (16, [9, 10]), (17, [9, 10]), (18, [9, 10]), (19, []), (20, []), (21, []), (22, []), (23, []), (24, [22, 23]), (25, [22, 23]), (26, [22, 23]), (27, [22, 23]), (28, [22, 23, 24, 25, 26, 27]), (29, [22, 23]), (30, [22, 23]), (31, [22, 23]), (32, []), (33, [])] (by decide +kernel) ?_; conv => whnf)
          | (refine RegX.rule (id := 8) hT rfl [] [(0, []), (1, [0]), (2, [0]), (3, [0]), (4, [0]), (5, [0, 1, 2, 3, 4]), (6, [0, 1, 2, 3, 4]), (7, [0, 1, 2, 3, 4]), (8, [0, 1, 2, 3, 4]), (9, [0, 1, 2, 3, 4, 5, 6, 7, 8]), (10, [0, 1, 2, 3, 4]), (11, [0, 1, 2, 3, 4]), (12, [0, 1, 2, 3, 4]), (13, [0, 1, 2, 3, 4, 5, 6, 7, 8, 9, 10, 11, 12]), (14, [0, 1, 2, 3, 4, 5, 6, 7, 8, 9, 10, 11, 12]), (15, [0, 1, 2, 3, 4]), (16, [0, 1, 2, 3, 4]), (17, [0]), (18, []), (19, []), (20, [])] (by decide +kernel) ?_; conv => whnf)
          | (refine RegX.rule (id := 10) hT rfl [] [(0, []), (1, [0]), (2, [0]), (3, [0]), (4, [0]), (5, [0, 1, 2, 3, 4]), (6, [0, 1, 2, 3, 4]), (7, [0, 1, 2, 3, 4]), (8, [0, 1, 2, 3, 4]), (9, [0, 1, 2, 3, 4]), (10, [0, 1, 2, 3, 4]), (11, [0]), (12, []), (13, []), (14, [])] (by decide +kernel) ?_; conv => whnf)
          | omega
          | (refine And.intro ?_ ?_; ((try dsimp only); first | omega | (refine ⟨by omega, by omega, Int.le_trans (Int.mul_le_mul_of_nonneg_right (Int.ofNat_le.2 (Nat.le_of_ble_eq_true (rfl : Nat.ble _ 1024 = true))) (by omega)) (by omega), by omega⟩) | (refine Nat.le_trans (Nat.mul_le_mul_left _ (Nat.le_of_ble_eq_true (rfl : Nat.ble _ 1024 = true))) ?_; omega) | (unfold inI64; omega) | (constructor <;> omega) | (simp only [inI64, List.length_cons, List.length_append, List.length_nil, List.length_set] at *; omega) | decide | (unfold inI64; decide)); conv => whnf)
          | omega | decide | assumption)
        all_goals first
          | (obtain rfl : k = s.length := by omega
             rw [← hq]
             refine .ret _ ?_
             (conv => whnf)
             first
               | exact ⟨_, ⟨rfl, 1000002, .inl rfl, rfl⟩, Res.le_refl _, Res.le_refl _, Res.le_refl _, Res.le_refl _, trivial⟩
               | exact ⟨_, ⟨rfl, 60, .inr rfl, rfl⟩, Res.le_refl _, Res.le_refl _, Res.le_refl _, Res.le_refl _, trivial⟩)
          | (have hno : ¬ canP s w l k := fun h => by
               unfold canP at h
               have := hroom (by omega)
               omega
             first
               | (refine ⟨(false, k + 1), (show k + 1 ≤ s.length by omega), (show s.length - (k + 1) < s.length - k by omega), ?_⟩
                  show Entails _ (mkSt _ (plR s w b l _ (foldN _ (k + 1) st)))
                  rw [hstep, if_neg hno]
                  exact Entails.mk' [(1000000, 1000000), (1000001, 1000001), (1000003, 1000003), (1000002, 1000002)] rfl rfl ⟨SV.le_refl _, SV.le_refl _, SV.le_refl _, SV.le_refl _, SV.le_refl _, SV.le_refl _, trivial⟩ ⟨Res.le_refl _, Res.le_refl _, Res.le_refl _, Res.le_refl _, trivial⟩)
               | (refine ⟨(true, k + 1), (show k + 1 ≤ s.length by omega), (show s.length - (k + 1) < s.length - k by omega), ?_⟩
                  show Entails _ (mkSt _ (plR s w b l _ (foldN _ (k + 1) st)))
                  rw [hstep, if_neg hno]
                  exact Entails.mk' [(1000000, 1000000), (1000001, 1000001), (1000003, 1000003), (60, 60)] rfl rfl ⟨SV.le_refl _, SV.le_refl _, SV.le_refl _, SV.le_refl _, SV.le_refl _, SV.le_refl _, trivial⟩ ⟨Res.le_refl _, Res.le_refl _, Res.le_refl _, Res.le_refl _, trivial⟩))
          | (have hyes : canP s w l k := ⟨by have := hroom (by omega); omega, by omega, by omega⟩
             refine ⟨(true, k + 1), (show k + 1 ≤ s.length by omega), (show s.length - (k + 1) < s.length - k by omega), ?_⟩
             show Entails _ (mkSt _ (plR s w b l _ (foldN _ (k + 1) st)))
             rw [hstep, if_pos hyes, ← hm]
             first
               | (refine (Entails.cutCell 1000000 110 2000 50 2 _ _ 4 _ rfl rfl rfl rfl rfl rfl).trans ?_; exact Entails.mk' [(1000000, 1000000), (1000001, 1000001), (1000003, 1000003), (60, 2000)] rfl rfl ⟨SV.le_refl _, SV.le_refl _, SV.le_refl _, SV.le_refl _, SV.le_refl _, SV.le_refl _, trivial⟩ ⟨Res.le_refl _, hback (by omega), Res.le_refl _, Res.le_cut (by omega) (fun i hi => by rw [hm, getD_app_lt hi]), trivial⟩)
               | (refine (Entails.cutCell 1000000 900 2000 50 2 _ _ 4 _ rfl rfl rfl rfl rfl rfl).trans ?_; exact Entails.mk' [(1000000, 1000000), (1000001, 1000001), (1000003, 1000003), (60, 2000)] rfl rfl ⟨SV.le_refl _, SV.le_refl _, SV.le_refl _, SV.le_refl _, SV.le_refl _, SV.le_refl _, trivial⟩ ⟨Res.le_refl _, hback (by omega), Res.le_refl _, Res.le_cut (by omega) (fun i hi => by rw [hm, getD_app_lt hi]), trivial⟩))
          | trace_state
end Go.Proofs.Ytnkdlkgannnfhaa
set_option maxRecDepth 20000
namespace Go.Proofs.Ytnkdlkgannnfhaa
open Go Go.Eng
abbrev plZ (s : List Slt) (w : List Wnt) (b : List Bsy) (l : List Plc) (st : PSt) : List (Nat × Res) :=
  [(1000000, plX s w (.d .nilsl) st), (1000001, seqB 3 1 iF 0 (roomL s l)), (1000003, .fro 1 w.length (costG s w b))]
-- place
set_option maxHeartbeats 8000000 in
theorem s138n (s : List Slt) (w : List Wnt) (b : List Bsy) (hs : sltsE s = 0) (hw6 : w.length ≤ 6) (hb0 : bsysE b = 0) (d : Nat) (l : List Plc) (hl0 : l = []) (hd : l.length + d = w.length) (g : good s w l) (st : PSt) :
    FSpec Try.prog 33 [.ptr 1000000 0, .d (.int .i64 l.length), .d (.int .i64 (lostA b l))] (plZ s w b l st) (fun y r => y = .tup [] ∧ (r = plZ s w b l (srch s w b d l st) ∨ r = plR s w b l 60 (srch s w b d l st))) := by
  cases d with
  | zero =>
    refine spec_of hT (C := []) Try.func33 rfl Try.call33 rfl rfl rfl ?_
    conv => whnf
    repeat' (first
      | (refine CallX.pure (s140f [] (by simp)) ⟨SV.le_nilS, trivial⟩ rfl ?_; conv => whnf)
      | (refine br_intro (fun hb => ?_) (fun hb => ?_) <;> (try simp only [decide_eq_true_eq, decide_eq_false_iff_not, Bool.not_eq_true', Bool.not_eq_false', Bool.and_eq_true, Bool.or_eq_true, beq_iff_eq, not_and, Int.not_le, Int.not_lt, Int.toNat_natCast, beq_eq_false_iff_ne, ne_eq, eq_self, not_true_eq_false, not_false_eq_true] at hb) <;> (conv => whnf))
      | (refine RegX.rule (id := 6) hT rfl [] [(0, []), (1, []), (2, []), (3, []), (4, [0, 1, 2, 3]), (5, []), (6, []), (7, []), (8, []), (9, []), (10, []), (11, [9, 10]), (12, [9, 10]), (13, [9, 10]), (14, [9, 10]), (15, [9, 10, 11, 12, 13, 14]), (16, [9, 10]), (17, [9, 10]), (18, [9, 10]), (19, []), (20, []), (21, []), (22, []), (23, []), (24, [22, 23]), (25, [22, 23]), (26, [22, 23]), (27, [22, 23]), (28, [22, 23, 24, 25, 26, 27]), (29, [22, 23]), (30, [22, 23]), (31, [22, 23]), (32, []), (33, [])] (by decide +kernel) ?_; conv => whnf)
      | (refine RegX.rule (id := 8) hT rfl [] [(0, []), (1, [0]), (2, [0]), (3, [0]), (4, [0]), (5, [0, 1, 2, 3, 4]), (6, [0, 1, 2, 3, 4]), (7, [0, 1, 2, 3, 4]), (8, [0, 1, 2, 3, 4]), (9, [0, 1, 2, 3, 4, 5, 6, 7, 8]), (10, [0, 1, 2, 3, 4]), (11, [0, 1, 2, 3, 4]), (12, [0, 1, 2, 3, 4]), (13, [0, 1, 2, 3, 4, 5, 6, 7, 8, 9, 10, 11, 12]), (14, [0, 1, 2, 3, 4, 5, 6, 7, 8, 9, 10, 11, 12]), (15, [0, 1, 2, 3, 4]), (16, [0, 1, 2, 3, 4]), (17, [0]), (18, []), (19, []), (20, [])] (by decide +kernel) ?_; conv => whnf)
      | (refine RegX.rule (id := 10) hT rfl [] [(0, []), (1, [0]), (2, [0]), (3, [0]), (4, [0]), (5, [0, 1, 2, 3, 4]), (6, [0, 1, 2, 3, 4]), (7, [0, 1, 2, 3, 4]), (8, [0, 1, 2, 3, 4]), (9, [0, 1, 2, 3, 4]), (10, [0, 1, 2, 3, 4]), (11, [0]), (12, []), (13, []), (14, [])] (by decide +kernel) ?_; conv => whnf)
      | omega
      | (refine And.intro ?_ ?_; ((try dsimp only); first | omega | (refine ⟨by omega, by omega, Int.le_trans (Int.mul_le_mul_of_nonneg_right (Int.ofNat_le.2 (Nat.le_of_ble_eq_true (rfl : Nat.ble _ 1024 = true))) (by omega)) (by omega), by omega⟩) | (refine Nat.le_trans (Nat.mul_le_mul_left _ (Nat.le_of_ble_eq_true (rfl : Nat.ble _ 1024 = true))) ?_; omega) | (unfold inI64; omega) | (constructor <;> omega) | (simp only [inI64, List.length_cons, List.length_append, List.length_nil, List.length_set] at *; omega) | decide | (unfold inI64; decide)); conv => whnf)
      | omega | decide | assumption)
    · rw [srch, if_pos ⟨by omega, by omega⟩]
      refine .ret _ ?_
      conv => whnf
      exact ⟨_, ⟨rfl, .inl rfl⟩, Res.le_refl _, Res.le_refl _, Res.le_refl _, trivial⟩
    all_goals
      rw [srch, if_neg (by omega)]
      subst hl0
      refine .ret _ ?_
      conv => whnf
      exact ⟨_, ⟨rfl, .inl rfl⟩, Res.le_refl _, Res.le_refl _, Res.le_refl _, trivial⟩
  | succ d =>
    have ih := s138 s w b hs hw6 hb0 d
    have hs12 := (slts_bd hs).1
    have hla := lostA_bd hb0 l (by omega)
    have hrl := roomL_len s l
    refine spec_of hT (C := []) Try.func33 rfl Try.call33 rfl rfl rfl ?_
    conv => whnf
    repeat' (first
      | (refine br_intro (fun hb => ?_) (fun hb => ?_) <;> (try simp only [decide_eq_true_eq, decide_eq_false_iff_not, Bool.not_eq_true', Bool.not_eq_false', Bool.and_eq_true, Bool.or_eq_true, beq_iff_eq, not_and, Int.not_le, Int.not_lt, Int.toNat_natCast, beq_eq_false_iff_ne, ne_eq, eq_self, not_true_eq_false, not_false_eq_true] at hb) <;> (conv => whnf))
      | (refine RegX.rule (id := 6) hT rfl [] [(0, []), (1, []), (2, []), (3, []), (4, [0, 1, 2, 3]), (5, []), (6, []), (7, []), (8, []), (9, []), (10, []), (11, [9, 10]), (12, [9, 10]), (13, [9, 10]), (14, [9, 10]), (15, [9, 10, 11, 12, 13, 14]), (16, [9, 10]), (17, [9, 10]), (18, [9, 10]), (19, []), (20, []), (21, []), (22, []), (23, []), (24, [22, 23]), (25, [22, 23]), (26, [22, 23]), (27, [22, 23]), (28, [22, 23, 24, 25, 26, 27]), (29, [22, 23]), (30, [22, 23]), (31, [22, 23]), (32, []), (33, [])] (by decide +kernel) ?_; conv => whnf)
      | (refine RegX.rule (id := 8) hT rfl [] [(0, []), (1, [0]), (2, [0]), (3, [0]), (4, [0]), (5, [0, 1, 2, 3, 4]), (6, [0, 1, 2, 3, 4]), (7, [0, 1, 2, 3, 4]), (8, [0, 1, 2, 3, 4]), (9, [0, 1, 2, 3, 4, 5, 6, 7, 8]), (10, [0, 1, 2, 3, 4]), (11, [0, 1, 2, 3, 4]), (12, [0, 1, 2, 3, 4]), (13, [0, 1, 2, 3, 4, 5, 6, 7, 8, 9, 10, 11, 12]), (14, [0, 1, 2, 3, 4, 5, 6, 7, 8, 9, 10, 11, 12]), (15, [0, 1, 2, 3, 4]), (16, [0, 1, 2, 3, 4]), (17, [0]), (18, []), (19, []), (20, [])] (by decide +kernel) ?_; conv => whnf)
      | (refine RegX.rule (id := 10) hT rfl [] [(0, []), (1, [0]), (2, [0]), (3, [0]), (4, [0]), (5, [0, 1, 2, 3, 4]), (6, [0, 1, 2, 3, 4]), (7, [0, 1, 2, 3, 4]), (8, [0, 1, 2, 3, 4]), (9, [0, 1, 2, 3, 4]), (10, [0, 1, 2, 3, 4]), (11, [0]), (12, []), (13, []), (14, [])] (by decide +kernel) ?_; conv => whnf)
      | omega
      | (refine And.intro ?_ ?_; ((try dsimp only); first | omega | (refine ⟨by omega, by omega, Int.le_trans (Int.mul_le_mul_of_nonneg_right (Int.ofNat_le.2 (Nat.le_of_ble_eq_true (rfl : Nat.ble _ 1024 = true))) (by omega)) (by omega), by omega⟩) | (refine Nat.le_trans (Nat.mul_le_mul_left _ (Nat.le_of_ble_eq_true (rfl : Nat.ble _ 1024 = true))) ?_; omega) | (unfold inI64; omega) | (constructor <;> omega) | (simp only [inI64, List.length_cons, List.length_append, List.length_nil, List.length_set] at *; omega) | decide | (unfold inI64; decide)); conv => whnf)
      | omega | decide | assumption)
    · rw [srch, if_pos ⟨by omega, by omega⟩]
      refine .ret _ ?_
      conv => whnf
      exact ⟨_, ⟨rfl, .inl rfl⟩, Res.le_refl _, Res.le_refl _, Res.le_refl _, trivial⟩
    all_goals
      rw [srch, if_neg (by omega)]
      refine LoopX.rule hT (C := []) (ι := Bool × Nat) (fun (_, k) => k ≤ s.length) (fun (c, k) => mkSt [(0, .ptr 1000000 0), (1, .d (.int .i64 l.length)), (2, .d (.int .i64 (lostA b l))), (43, .d (slts s)), (44, .d (.int .i64 s.length)), (45, .d (.int .i64 k))]
        (bif c then plR s w b l 60 (foldN (fun k st => if canP s w l k then srch s w b d (l ++ [plN s w l k]) st else st) k st) else plZ s w b l (foldN (fun k st => if canP s w l k then srch s w b d (l ++ [plN s w l k]) st else st) k st))) (fun (_, k) => s.length - k) (false, 0) (by simp) ?_ ?_
      · exact (by (refine Entails.mk' [(1000000, 1000000), (1000001, 1000001), (1000003, 1000003)] rfl rfl ?_ ?_ <;> repeat' (first | exact True.intro | exact SV.le_refl _ | exact Res.le_refl _ | exact SV.le_int (by omega) | exact SV.le_any _ | refine And.intro ?_ ?_)); done)
      rintro ⟨c, k⟩ p1
      have p1 : k ≤ s.length := p1
      have e1 : (k : Int).toNat = k := Int.toNat_natCast k
      have e2 : (l.length : Int).toNat = l.length := Int.toNat_natCast _
      obtain ⟨q, hq⟩ : ∃ q, q = foldN (fun k st => if canP s w l k then srch s w b d (l ++ [plN s w l k]) st else st) k st := ⟨_, rfl⟩
      have hstep : foldN (fun k st => if canP s w l k then srch s w b d (l ++ [plN s w l k]) st else st) (k + 1) st = if canP s w l k then srch s w b d (l ++ [plN s w l k]) q else q := by rw [hq]; rfl
      have hroom : k < s.length → (roomL s l).getD k 0 = (s.getD k sl0).many - cntD l (s.getD k sl0).day l.length ∧ cntD l (s.getD k sl0).day l.length ≤ (s.getD k sl0).many ∧ (s.getD k sl0).many ≤ 20 := fun hk => ⟨roomL_get l hk, g.room k hk, ((slts_bd hs).2 _ (getD_mem hk)).2.2⟩
      have hcb := cntD_bd l (s.getD k sl0).day l.length
      obtain ⟨m, hm⟩ : ∃ m, m = l ++ [plN s w l k] := ⟨_, rfl⟩
      have hml : m.length = l.length + 1 := by rw [hm]; simp
      have hrb := fun (x : List Plc) (hx : x.length ≤ 6) (hk : k < s.length) => roomL_bd hs x hx hk
      have hrm := roomL_len s m
      have hsnoc : k < s.length → Res.le (.buf 3 1 (roomL s l).length fun i => bif Nat.beq i k then setAtD (rowF iF 0 (roomL s l) i) 0 [.int .i64 ((roomL s l).getD k 0 - 1)] else rowF iF 0 (roomL s l) i) (seqB 3 1 iF 0 (roomL s m)) := fun hk => by
        rw [hm, ← roomL_snoc w l hs hk]; exact Res.le_upd (fun _ => (roomL s l).getD k 0 - 1) (fun _ => rfl)
      have hback : k < s.length → Res.le (.buf 3 1 (roomL s m).length fun i => bif Nat.beq i k then setAtD (rowF iF 0 (roomL s m) i) 0 [.int .i64 ((roomL s m).getD k 0 + 1)] else rowF iF 0 (roomL s m) i) (seqB 3 1 iF 0 (roomL s l)) := fun hk => by
        have h := Res.le_upd (f := iF) (d := 0) (l := roomL s m) (e := 3) (k := 1) (j := k) (off := 0) (ds := [.int .i64 ((roomL s m).getD k 0 + 1)]) (fun _ => (roomL s m).getD k 0 + 1) (fun _ => rfl)
        have h2 := roomL_back w l hs hk
        rw [← hm] at h2
        rwa [h2] at h
      show wpx _ _ _ _ _ (mkSt _ (bif c then plR s w b l 60 (foldN _ k st) else plZ s w b l (foldN _ k st)))
      rw [← hq]
      cases c
      all_goals
        conv => whnf
        repeat' (first
          | (refine CallX.of (ih m (by omega) (by rw [hm]; exact good_snoc hs g (by omega) (by omega) ⟨by have := hroom (by omega); omega, by omega, by omega⟩) q) [(1000000, 1000000), (1000001, 1000001), (1000003, 1000003), (1000002, 110), (60, 900)] rfl ⟨SV.le_refl _, SV.le_int (by rw [hml]; omega), SV.le_int (by rw [hm, lostA_snoc]; rfl), trivial⟩ ⟨Res.le_refl _, hsnoc (by omega), Res.le_refl _, by rw [hm]; first | exact Res.le_snocF (x := plN s w l k) rfl | (rw [hl0]; exact Res.le_lit rfl rfl), trivial⟩ rfl rfl ?_; rintro x rout ⟨rfl, nm, (rfl | rfl), rfl⟩ <;> (refine ⟨rfl, ?_⟩; conv => whnf); conv => whnf)
          | (refine And.intro (by have := lostP_bd hb0 ⟨(w.getD (l.length : Int).toNat wn0).v, (s.getD (k : Int).toNat sl0).day⟩; unfold inI64; omega) ?_; conv => whnf)
          | (refine And.intro (by have h := hrb l (by omega) (by omega); rw [e1]; unfold inI64; omega) ?_; conv => whnf)
          | (refine And.intro (by have h := hrb m (by omega) (by omega); rw [e1]; unfold inI64; omega) ?_; conv => whnf)
          | (refine br_intro (fun hb => ?_) (fun hb => ?_) <;> (try simp only [decide_eq_true_eq, decide_eq_false_iff_not, Bool.not_eq_true', Bool.not_eq_false', Bool.and_eq_true, Bool.or_eq_true, beq_iff_eq, not_and, Int.not_le, Int.not_lt, Int.toNat_natCast, beq_eq_false_iff_ne, ne_eq, eq_self, not_true_eq_false, not_false_eq_true] at hb) <;> (conv => whnf))
          | (refine RegX.rule (id := 6) hT rfl [] [(0, []), (1, []), (2, []), (3, []), (4, [0, 1, 2, 3]), (5, []), (6, []), (7, []), (8, []), (9, []), (10, []), (11, [9, 10]), (12, [9, 10]), (13, [9, 10]), (14, [9, 10]), (15, [9, 10, 11, 12, 13, 14]), (16, [9, 10]), (17, [9, 10]), (18, [9, 10]), (19, []), (20, []), (21, []), (22, []), (23, []), (24, [22, 23]), (25, [22, 23]), (26, [22, 23]), (27, [22, 23]), (28, [22, 23, 24, 25, 26, 27]), (29, [22, 23]), (30, [22, 23]), (31, [22, 23]), (32, []), (33, [])] (by decide +kernel) ?_; conv => whnf)
          | (refine RegX.rule (id := 8) hT rfl [] [(0, []), (1, [0]), (2, [0]), (3, [0]), (4, [0]), (5, [0, 1, 2, 3, 4]), (6, [0, 1, 2, 3, 4]), (7, [0, 1, 2, 3, 4]), (8, [0, 1, 2, 3, 4]), (9, [0, 1, 2, 3, 4, 5, 6, 7, 8]), (10, [0, 1, 2, 3, 4]), (11, [0, 1, 2, 3, 4]), (12, [0, 1, 2, 3, 4]), (13, [0, 1, 2, 3, 4, 5, 6, 7, 8, 9, 10, 11, 12]), (14, [0, 1, 2, 3, 4, 5, 6, 7, 8, 9, 10, 11, 12]), (15, [0, 1, 2, 3, 4]), (16, [0, 1, 2, 3, 4]), (17, [0]), (18, []), (19, []), (20, [])] (by decide +kernel) ?_; conv => whnf)
          | (refine RegX.rule (id := 10) hT rfl [] [(0, []), (1, [0]), (2, [0]), (3, [0]), (4, [0]), (5, [0, 1, 2, 3, 4]), (6, [0, 1, 2, 3, 4]), (7, [0, 1, 2, 3, 4]), (8, [0, 1, 2, 3, 4]), (9, [0, 1, 2, 3, 4]), (10, [0, 1, 2, 3, 4]), (11, [0]), (12, []), (13, []), (14, [])] (by decide +kernel) ?_; conv => whnf)
          | omega
          | (refine And.intro ?_ ?_; ((try dsimp only); first | omega | (refine ⟨by omega, by omega, Int.le_trans (Int.mul_le_mul_of_nonneg_right (Int.ofNat_le.2 (Nat.le_of_ble_eq_true (rfl : Nat.ble _ 1024 = true))) (by omega)) (by omega), by omega⟩) | (refine Nat.le_trans (Nat.mul_le_mul_left _ (Nat.le_of_ble_eq_true (rfl : Nat.ble _ 1024 = true))) ?_; omega) | (unfold inI64; omega) | (constructor <;> omega) | (simp only [inI64, List.length_cons, List.length_append, List.length_nil, List.length_set] at *; omega) | decide | (unfold inI64; decide)); conv => whnf)
          | omega | decide | assumption)
        all_goals first
          | (obtain rfl : k = s.length := by omega
             rw [← hq]
             refine .ret _ ?_
             (conv => whnf)
             first
               | exact ⟨_, ⟨rfl, .inl rfl⟩, Res.le_refl _, Res.le_refl _, Res.le_refl _, trivial⟩
               | exact ⟨_, ⟨rfl, .inr rfl⟩, Res.le_refl _, Res.le_refl _, Res.le_refl _, Res.le_refl _, trivial⟩)
          | (have hno : ¬ canP s w l k := fun h => by
               unfold canP at h
               have := hroom (by omega)
               omega
             first
               | (refine ⟨(false, k + 1), (show k + 1 ≤ s.length by omega), (show s.length - (k + 1) < s.length - k by omega), ?_⟩
                  show Entails _ (mkSt _ (plZ s w b l (foldN _ (k + 1) st)))
                  rw [hstep, if_neg hno]
                  exact Entails.mk' [(1000000, 1000000), (1000001, 1000001), (1000003, 1000003)] rfl rfl ⟨SV.le_refl _, SV.le_refl _, SV.le_refl _, SV.le_refl _, SV.le_refl _, SV.le_refl _, trivial⟩ ⟨Res.le_refl _, Res.le_refl _, Res.le_refl _, trivial⟩)
               | (refine ⟨(true, k + 1), (show k + 1 ≤ s.length by omega), (show s.length - (k + 1) < s.length - k by omega), ?_⟩
                  show Entails _ (mkSt _ (plR s w b l _ (foldN _ (k + 1) st)))
                  rw [hstep, if_neg hno]
                  exact Entails.mk' [(1000000, 1000000), (1000001, 1000001), (1000003, 1000003), (60, 60)] rfl rfl ⟨SV.le_refl _, SV.le_refl _, SV.le_refl _, SV.le_refl _, SV.le_refl _, SV.le_refl _, trivial⟩ ⟨Res.le_refl _, Res.le_refl _, Res.le_refl _, Res.le_refl _, trivial⟩))
          | (have hyes : canP s w l k := ⟨by have := hroom (by omega); omega, by omega, by omega⟩
             refine ⟨(true, k + 1), (show k + 1 ≤ s.length by omega), (show s.length - (k + 1) < s.length - k by omega), ?_⟩
             show Entails _ (mkSt _ (plR s w b l _ (foldN _ (k + 1) st)))
             rw [hstep, if_pos hyes, ← hm]
             first
               | (refine (Entails.cutCell 1000000 110 2000 50 2 _ _ 4 _ rfl rfl rfl rfl rfl rfl).trans ?_; exact Entails.mk' [(1000000, 1000000), (1000001, 1000001), (1000003, 1000003), (60, 2000)] rfl rfl ⟨SV.le_refl _, SV.le_refl _, SV.le_refl _, SV.le_refl _, SV.le_refl _, SV.le_refl _, trivial⟩ ⟨Res.le_refl _, hback (by omega), Res.le_refl _, Res.le_cut (by omega) (fun i hi => by rw [hm, getD_app_lt hi]), trivial⟩)
               | (refine (Entails.cutCell 1000000 900 2000 50 2 _ _ 4 _ rfl rfl rfl rfl rfl rfl).trans ?_; exact Entails.mk' [(1000000, 1000000), (1000001, 1000001), (1000003, 1000003), (60, 2000)] rfl rfl ⟨SV.le_refl _, SV.le_refl _, SV.le_refl _, SV.le_refl _, SV.le_refl _, SV.le_refl _, trivial⟩ ⟨Res.le_refl _, hback (by omega), Res.le_refl _, Res.le_cut (by omega) (fun i hi => by rw [hm, getD_app_lt hi]), trivial⟩))
          | trace_state
end Go.Proofs.Ytnkdlkgannnfhaa
set_option maxRecDepth 20000
namespace Go.Proofs.Ytnkdlkgannnfhaa
open Go Go.Eng
theorem Res.le_bufD {e k n m : Nat} {g h : Nat → List DV} (hn : n = m) (hl : ∀ i, i < n → (h i).length = (g i).length)
    (hg : ∀ (i j : Nat) (x : DV), i < n → (h i)[j]? = some x → ∃ y, (g i)[j]? = some y ∧ ∀ G u, DV.Den G y u → DV.Den G x u) : Res.le (.buf e k n g) (.buf e k m h) := by
  subst hn
  refine ⟨rfl, fun G β w d => ?_⟩
  rintro ⟨v, xs, h1, h2, h3, h4, h5⟩
  refine ⟨v, xs, h1, h2, h3, fun i hi => by rw [hl i hi]; exact h4 i hi, fun i j x hi hx => ?_⟩
  obtain ⟨y, y1, y2⟩ := hg i j x hi hx
  obtain ⟨u, u1, u2⟩ := h5 i j y hi y1
  exact ⟨u, u1, y2 G u u2⟩
def roomM (s : List Slt) (k : Nat) : List Int := (List.range k).map fun i => (s.getD i sl0).many
theorem roomM_succ (s : List Slt) (k : Nat) : roomM s (k + 1) = roomM s k ++ [(s.getD k sl0).many] := by
  unfold roomM; rw [List.range_succ, List.map_append]; rfl
theorem roomM_end (s : List Slt) : roomM s s.length = roomL s [] := by
  unfold roomM roomL
  exact List.map_congr_left fun k _ => by show _ = _ - (0 : Int); omega
def rowM (s : List Slt) (w : List Wnt) (b : List Bsy) (i k : Nat) : List Int := (List.range k).map fun j => lostP b ⟨(w.getD i wn0).v, (s.getD j sl0).day⟩
theorem rowM_succ (s : List Slt) (w : List Wnt) (b : List Bsy) (i k : Nat) : rowM s w b i (k + 1) = rowM s w b i k ++ [lostP b ⟨(w.getD i wn0).v, (s.getD k sl0).day⟩] := by
  unfold rowM; rw [List.range_succ, List.map_append]; rfl
theorem rowM_len (s : List Slt) (w : List Wnt) (b : List Bsy) (i k : Nat) : (rowM s w b i k).length = k := by simp [rowM]
theorem rowM_get (s : List Slt) (w : List Wnt) (b : List Bsy) (i : Nat) {j k : Nat} (h : j < k) : rowF iF 0 (rowM s w b i k) j = [.int .i64 (lostP b ⟨(w.getD i wn0).v, (s.getD j sl0).day⟩)] := by
  simp only [rowF, iF]
  rw [List.getD_eq_getElem?_getD]
  simp [rowM, h]
abbrev costB (s : List Slt) (w : List Wnt) (b : List Bsy) (i : Nat) : Res := .buf 22 1 i (costG s w b)
theorem cost_le {s : List Slt} {w : List Wnt} {b : List Bsy} {i n : Nat} {g : Nat → List DV} {h : Nat → List DV} (hh : h 0 = [.ro 1 n g]) (hn : n = s.length) (hg : ∀ j, j < n → g j = [.int .i64 (lostP b ⟨(w.getD i wn0).v, (s.getD j sl0).day⟩)]) :
    Res.le (.buf 22 1 (i + 1) (appGet i (costG s w b) h)) (costB s w b (i + 1)) := by
  refine Res.le_bufD rfl (fun j hj => ?_) (fun j c x hj hx => ?_)
  · rcases Nat.lt_or_ge j i with q | q
    · rw [appGet_lt q]
    · have : j = i := by omega
      subst this
      rw [appGet_ge (Nat.le_refl _), Nat.sub_self, hh]; rfl
  · rcases Nat.lt_or_ge j i with q | q
    · rw [appGet_lt q]; exact ⟨x, hx, fun _ _ h => h⟩
    · have : j = i := by omega
      subst this
      rw [appGet_ge (Nat.le_refl _), Nat.sub_self, hh]
      cases c with
      | zero =>
        refine ⟨_, rfl, fun G u hu => ?_⟩
        cases hx
        exact DV.ro_ext hn hg hu
      | succ c => simp [costG] at hx
abbrev plY (s : List Slt) (w : List Wnt) : Res := .cells 92 [.d (slts s), .buf 60, .d (wnts w), .buf 61, .d .nilsl, .d .nilsl, .d (.int .i64 (-1))]
def placeV (s : List Slt) (w : List Wnt) (b : List Bsy) : SV :=
  if firstE [sltsE s, wntsE w, bsysE b] ≠ 0 then .tup [.d .nilsl, .d (.int .i64 0), .d (.int .i64 (firstE [sltsE s, wntsE w, bsysE b]))]
  else if (srch0 s w b).2 < 0 then .tup [.d .nilsl, .d (.int .i64 0), .d (.int .i64 12)] else .tup [.d (plcs (srch0 s w b).1), .d (.int .i64 (srch0 s w b).2), .d (.int .i64 0)]
-- shift.Place
set_option maxHeartbeats 2000000 in
theorem s72 (s : List Slt) (w : List Wnt) (b : List Bsy) (hs0 : slOk s) (hw0 : wnOk w) (hb0 : bsOk b) : FSpec Try.prog 13 [.d (slts s), .d (wnts w), .d (bsys b)] [] (fun x r => x = placeV s w b ∧ r = []) := by
  have h105 := s105 [sltsE s, wntsE w, bsysE b] (by simp)
  refine spec_of hT (C := []) Try.func13 rfl Try.call13 rfl rfl rfl ?_
  conv => whnf
  repeat' (first
    | (refine CallX.exact (s134 s hs0) rfl rfl ?_; rotate_right; conv => whnf)
    | (refine CallX.exact (s135 w hw0) rfl rfl ?_; rotate_right; conv => whnf)
    | (refine CallX.exact (s136 b hb0) rfl rfl ?_; rotate_right; conv => whnf)
    | (refine CallX.pure h105 ⟨SV.le_lit (by rfl) (by rfl), trivial⟩ rfl ?_; conv => whnf)
    | (refine br_intro (fun hb => ?_) (fun hb => ?_) <;> (try simp only [decide_eq_true_eq, decide_eq_false_iff_not, Bool.not_eq_true', Bool.not_eq_false', Bool.and_eq_true, Bool.or_eq_true, beq_iff_eq, not_and, Int.not_le, Int.not_lt, Int.toNat_natCast, beq_eq_false_iff_ne, ne_eq, eq_self, not_true_eq_false, not_false_eq_true] at hb) <;> (conv => whnf))
    | (refine RegX.rule (id := 8) hT rfl [] [(0, []), (1, [0]), (2, [0]), (3, [0]), (4, [0]), (5, [0, 1, 2, 3, 4]), (6, [0, 1, 2, 3, 4]), (7, [0, 1, 2, 3, 4]), (8, [0]), (9, []), (10, []), (11, [])] (by decide +kernel) ?_; conv => whnf)
    | (refine RegX.rule (id := 24) hT rfl [] [(0, []), (1, []), (2, []), (3, []), (4, [0, 1, 2, 3]), (5, [0, 1, 2, 3]), (6, [0, 1, 2, 3]), (7, [0, 1, 2, 3]), (8, [4, 5, 6, 7]), (9, []), (10, [])] (by decide +kernel) ?_; conv => whnf)
    | omega
    | (refine And.intro ?_ ?_; ((try dsimp only); first | omega | (refine ⟨by omega, by omega, Int.le_trans (Int.mul_le_mul_of_nonneg_right (Int.ofNat_le.2 (Nat.le_of_ble_eq_true (rfl : Nat.ble _ 1024 = true))) (by omega)) (by omega), by omega⟩) | (refine Nat.le_trans (Nat.mul_le_mul_left _ (Nat.le_of_ble_eq_true (rfl : Nat.ble _ 1024 = true))) ?_; omega) | (unfold inI64; omega) | (constructor <;> omega) | (simp only [inI64, List.length_cons, List.length_append, List.length_nil, List.length_set] at *; omega) | decide | (unfold inI64; decide)); conv => whnf)
    | omega | decide | assumption)
  · unfold placeV
    rw [if_pos (by assumption)]
    refine .ret _ ?_
    conv => whnf
    refine ⟨[], ⟨congrArg SV.tup ?_, rfl⟩, trivial⟩
    repeat' (refine cons_eq ?_ ?_)
    all_goals (conv => lhs; whnf)
    all_goals try (with_reducible rfl)
    all_goals rfl
  have hz : firstE [sltsE s, wntsE w, bsysE b] = 0 := by omega
  have hs : sltsE s = 0 := by simp only [firstE] at hz; grind
  have hw : wntsE w = 0 := by simp only [firstE] at hz; grind
  have hb1 : bsysE b = 0 := by simp only [firstE] at hz; grind
  have hs12 := (slts_bd hs).1
  have hw6 := (wnts_key hw).1
  refine LoopX.rule hT (C := []) (ι := Nat) (fun k => k ≤ s.length) (fun k => mkSt [(0, .d (slts s)), (1, .d (wnts w)), (2, .d (bsys b)), (10, .ptr 32 0), (33, .d (slts s)), (34, .d (.int .i64 s.length)), (35, .d (.int .i64 k))]
    [(32, plY s w), (60, seqB 3 1 iF 0 (roomM s k)), (61, costB s w b 0)]) (fun k => s.length - k) 0 (by omega) ?_ ?_
  · exact (Entails.nilCell 32 60 3 1 1 (rowF iF 0 []) rfl rfl rfl (by decide) rfl).trans ((Entails.nilCell 32 61 22 1 3 (costG s w b) rfl rfl rfl (by decide) rfl).trans (by (refine Entails.mk' [(32, 32), (60, 60), (61, 61)] rfl rfl ?_ ?_ <;> repeat' (first | exact True.intro | exact SV.le_refl _ | exact Res.le_refl _ | exact SV.le_int (by omega) | exact SV.le_any _ | refine And.intro ?_ ?_)); done))
  rintro k p1
  have e1 : (k : Int).toNat = k := Int.toNat_natCast k
  have hrm : (roomM s k).length = k := by simp [roomM]
  conv => whnf
  repeat' (first
    | (refine br_intro (fun hb => ?_) (fun hb => ?_) <;> (try simp only [decide_eq_true_eq, decide_eq_false_iff_not, Bool.not_eq_true', Bool.not_eq_false', Bool.and_eq_true, Bool.or_eq_true, beq_iff_eq, not_and, Int.not_le, Int.not_lt, Int.toNat_natCast, beq_eq_false_iff_ne, ne_eq, eq_self, not_true_eq_false, not_false_eq_true] at hb) <;> (conv => whnf))
    | (refine RegX.rule (id := 8) hT rfl [] [(0, []), (1, [0]), (2, [0]), (3, [0]), (4, [0]), (5, [0, 1, 2, 3, 4]), (6, [0, 1, 2, 3, 4]), (7, [0, 1, 2, 3, 4]), (8, [0]), (9, []), (10, []), (11, [])] (by decide +kernel) ?_; conv => whnf)
    | (refine RegX.rule (id := 24) hT rfl [] [(0, []), (1, []), (2, []), (3, []), (4, [0, 1, 2, 3]), (5, [0, 1, 2, 3]), (6, [0, 1, 2, 3]), (7, [0, 1, 2, 3]), (8, [4, 5, 6, 7]), (9, []), (10, [])] (by decide +kernel) ?_; conv => whnf)
    | omega
    | (refine And.intro ?_ ?_; ((try dsimp only); first | omega | (refine ⟨by omega, by omega, Int.le_trans (Int.mul_le_mul_of_nonneg_right (Int.ofNat_le.2 (Nat.le_of_ble_eq_true (rfl : Nat.ble _ 1024 = true))) (by omega)) (by omega), by omega⟩) | (refine Nat.le_trans (Nat.mul_le_mul_left _ (Nat.le_of_ble_eq_true (rfl : Nat.ble _ 1024 = true))) ?_; omega) | (unfold inI64; omega) | (constructor <;> omega) | (simp only [inI64, List.length_cons, List.length_append, List.length_nil, List.length_set] at *; omega) | decide | (unfold inI64; decide)); conv => whnf)
    | omega | decide | assumption)
  · refine ⟨k + 1, by omega, by omega, Entails.mk' [(32, 32), (60, 47), (61, 61)] rfl rfl ⟨SV.le_refl _, SV.le_refl _, SV.le_refl _, SV.le_refl _, SV.le_refl _, SV.le_refl _, SV.le_refl _, trivial⟩ ⟨Res.le_refl _, ?_, Res.le_refl _, trivial⟩⟩
    rw [roomM_succ]
    exact Res.le_snocF (x := (s.getD k sl0).many) rfl
  obtain rfl : k = s.length := by omega
  clear hrm
  rw [roomM_end]
  refine LoopX.rule hT (C := []) (ι := Nat) (fun i => i ≤ w.length) (fun i => mkSt [(0, .d (slts s)), (2, .d (bsys b)), (10, .ptr 32 0), (51, .d (wnts w)), (52, .d (.int .i64 w.length)), (53, .d (.int .i64 i))]
    [(32, plY s w), (60, seqB 3 1 iF 0 (roomL s [])), (61, costB s w b i)]) (fun i => w.length - i) 0 (by omega) (by (refine Entails.mk' [(32, 32), (60, 60), (61, 61)] rfl rfl ?_ ?_ <;> repeat' (first | exact True.intro | exact SV.le_refl _ | exact Res.le_refl _ | exact SV.le_int (by omega) | exact SV.le_any _ | refine And.intro ?_ ?_)); done) ?_
  rintro i q1
  have e2 : (i : Int).toNat = i := Int.toNat_natCast i
  conv => whnf
  repeat' (first
    | (refine br_intro (fun hb => ?_) (fun hb => ?_) <;> (try simp only [decide_eq_true_eq, decide_eq_false_iff_not, Bool.not_eq_true', Bool.not_eq_false', Bool.and_eq_true, Bool.or_eq_true, beq_iff_eq, not_and, Int.not_le, Int.not_lt, Int.toNat_natCast, beq_eq_false_iff_ne, ne_eq, eq_self, not_true_eq_false, not_false_eq_true] at hb) <;> (conv => whnf))
    | (refine RegX.rule (id := 8) hT rfl [] [(0, []), (1, [0]), (2, [0]), (3, [0]), (4, [0]), (5, [0, 1, 2, 3, 4]), (6, [0, 1, 2, 3, 4]), (7, [0, 1, 2, 3, 4]), (8, [0]), (9, []), (10, []), (11, [])] (by decide +kernel) ?_; conv => whnf)
    | (refine RegX.rule (id := 24) hT rfl [] [(0, []), (1, []), (2, []), (3, []), (4, [0, 1, 2, 3]), (5, [0, 1, 2, 3]), (6, [0, 1, 2, 3]), (7, [0, 1, 2, 3]), (8, [4, 5, 6, 7]), (9, []), (10, [])] (by decide +kernel) ?_; conv => whnf)
    | omega
    | (refine And.intro ?_ ?_; ((try dsimp only); first | omega | (refine ⟨by omega, by omega, Int.le_trans (Int.mul_le_mul_of_nonneg_right (Int.ofNat_le.2 (Nat.le_of_ble_eq_true (rfl : Nat.ble _ 1024 = true))) (by omega)) (by omega), by omega⟩) | (refine Nat.le_trans (Nat.mul_le_mul_left _ (Nat.le_of_ble_eq_true (rfl : Nat.ble _ 1024 = true))) ?_; omega) | (unfold inI64; omega) | (constructor <;> omega) | (simp only [inI64, List.length_cons, List.length_append, List.length_nil, List.length_set] at *; omega) | decide | (unfold inI64; decide)); conv => whnf)
    | omega | decide | assumption)
  · refine LoopX.rule hT (C := []) (ι := Nat) (fun k => k ≤ s.length) (fun k => mkSt [(0, .d (slts s)), (2, .d (bsys b)), (10, .ptr 32 0), (14, .ptr 14 0), (15, .buf 15), (51, .d (wnts w)), (52, .d (.int .i64 w.length)), (53, .d (.int .i64 i)), (57, .d (slts s)), (58, .d (.int .i64 s.length)), (59, .d (.int .i64 k))]
      [(32, plY s w), (60, seqB 3 1 iF 0 (roomL s [])), (61, costB s w b i), (14, .cells 48 ((wnF (w.getD i wn0)).map .d)), (15, seqB 3 1 iF 0 (rowM s w b i k))]) (fun k => s.length - k) 0 (by omega) ?_ ?_
    · exact (Entails.nil 15 15 3 1 (rowF iF 0 []) rfl rfl (by decide)).trans (by (refine Entails.mk' [(32, 32), (60, 60), (61, 61), (14, 14), (15, 15)] rfl rfl ?_ ?_ <;> repeat' (first | exact True.intro | exact SV.le_refl _ | exact Res.le_refl _ | exact SV.le_int (by omega) | exact SV.le_any _ | refine And.intro ?_ ?_)); done)
    rintro k p1
    have e1 : (k : Int).toNat = k := Int.toNat_natCast k
    have hrm := rowM_len s w b i k
    conv => whnf
    repeat' (first
      | (refine CallX.exact (s137 b ⟨(w.getD i wn0).v, (s.getD (k : Int).toNat sl0).day⟩ hb1) rfl rfl ?_; rotate_right; conv => whnf)
      | (refine br_intro (fun hb => ?_) (fun hb => ?_) <;> (try simp only [decide_eq_true_eq, decide_eq_false_iff_not, Bool.not_eq_true', Bool.not_eq_false', Bool.and_eq_true, Bool.or_eq_true, beq_iff_eq, not_and, Int.not_le, Int.not_lt, Int.toNat_natCast, beq_eq_false_iff_ne, ne_eq, eq_self, not_true_eq_false, not_false_eq_true] at hb) <;> (conv => whnf))
      | (refine RegX.rule (id := 8) hT rfl [] [(0, []), (1, [0]), (2, [0]), (3, [0]), (4, [0]), (5, [0, 1, 2, 3, 4]), (6, [0, 1, 2, 3, 4]), (7, [0, 1, 2, 3, 4]), (8, [0]), (9, []), (10, []), (11, [])] (by decide +kernel) ?_; conv => whnf)
      | (refine RegX.rule (id := 24) hT rfl [] [(0, []), (1, []), (2, []), (3, []), (4, [0, 1, 2, 3]), (5, [0, 1, 2, 3]), (6, [0, 1, 2, 3]), (7, [0, 1, 2, 3]), (8, [4, 5, 6, 7]), (9, []), (10, [])] (by decide +kernel) ?_; conv => whnf)
      | omega
      | (refine And.intro ?_ ?_; ((try dsimp only); first | omega | (refine ⟨by omega, by omega, Int.le_trans (Int.mul_le_mul_of_nonneg_right (Int.ofNat_le.2 (Nat.le_of_ble_eq_true (rfl : Nat.ble _ 1024 = true))) (by omega)) (by omega), by omega⟩) | (refine Nat.le_trans (Nat.mul_le_mul_left _ (Nat.le_of_ble_eq_true (rfl : Nat.ble _ 1024 = true))) ?_; omega) | (unfold inI64; omega) | (constructor <;> omega) | (simp only [inI64, List.length_cons, List.length_append, List.length_nil, List.length_set] at *; omega) | decide | (unfold inI64; decide)); conv => whnf)
      | omega | decide | assumption)
    · refine ⟨k + 1, by omega, by omega, Entails.mk' [(32, 32), (60, 60), (61, 61), (14, 14), (15, 72)] rfl rfl ⟨SV.le_refl _, SV.le_refl _, SV.le_refl _, SV.le_refl _, SV.le_refl _, SV.le_refl _, SV.le_refl _, SV.le_refl _, SV.le_refl _, SV.le_refl _, SV.le_refl _, trivial⟩ ⟨Res.le_refl _, Res.le_refl _, Res.le_refl _, Res.le_refl _, ?_, trivial⟩⟩
      rw [rowM_succ]
      exact Res.le_snocF (x := lostP b ⟨(w.getD i wn0).v, (s.getD k sl0).day⟩) rfl
    · obtain rfl : k = s.length := by omega
      exact ⟨i + 1, by omega, by omega, Entails.mk' [(32, 32), (60, 60), (61, 81)] rfl rfl ⟨SV.le_refl _, SV.le_refl _, SV.le_refl _, SV.le_refl _, SV.le_refl _, SV.le_refl _, trivial⟩ ⟨Res.le_refl _, Res.le_refl _, cost_le rfl hrm (fun j hj => rowM_get s w b i (by omega)), trivial⟩⟩
  obtain rfl : i = w.length := by omega
  generalize hR : srch0 s w b = R
  have h138 := s138n s w b hs hw6 hb1 w.length [] rfl (by simp) (good_nil w hs) ([], -1)
  rw [show srch s w b w.length [] ([], -1) = R from hR] at h138
  repeat' (first
    | (refine CallX.freeze _ _ _ _ 61 22 1 _ _ rfl rfl ?_; refine CallX.of h138 [(1000000, 32), (1000001, 60), (1000003, 61), (60, 900)] rfl ⟨SV.le_refl _, SV.le_refl _, SV.le_refl _, trivial⟩ ⟨Res.le_cellsL ⟨SV.le_refl _, SV.le_refl _, SV.le_refl _, SV.le_refl _, SV.le_refl _, SV.le_nilS, SV.le_refl _, trivial⟩, Res.le_refl _, Res.le_refl _, trivial⟩ rfl rfl ?_; rintro x rout ⟨rfl, (rfl | rfl)⟩ <;> (refine ⟨rfl, ?_⟩; conv => whnf); conv => whnf)
    | (refine br_intro (fun hb => ?_) (fun hb => ?_) <;> (try simp only [decide_eq_true_eq, decide_eq_false_iff_not, Bool.not_eq_true', Bool.not_eq_false', Bool.and_eq_true, Bool.or_eq_true, beq_iff_eq, not_and, Int.not_le, Int.not_lt, Int.toNat_natCast, beq_eq_false_iff_ne, ne_eq, eq_self, not_true_eq_false, not_false_eq_true] at hb) <;> (conv => whnf))
    | (refine RegX.rule (id := 8) hT rfl [] [(0, []), (1, [0]), (2, [0]), (3, [0]), (4, [0]), (5, [0, 1, 2, 3, 4]), (6, [0, 1, 2, 3, 4]), (7, [0, 1, 2, 3, 4]), (8, [0]), (9, []), (10, []), (11, [])] (by decide +kernel) ?_; conv => whnf)
    | (refine RegX.rule (id := 24) hT rfl [] [(0, []), (1, []), (2, []), (3, []), (4, [0, 1, 2, 3]), (5, [0, 1, 2, 3]), (6, [0, 1, 2, 3]), (7, [0, 1, 2, 3]), (8, [4, 5, 6, 7]), (9, []), (10, [])] (by decide +kernel) ?_; conv => whnf)
    | omega
    | (refine And.intro ?_ ?_; ((try dsimp only); first | omega | (refine ⟨by omega, by omega, Int.le_trans (Int.mul_le_mul_of_nonneg_right (Int.ofNat_le.2 (Nat.le_of_ble_eq_true (rfl : Nat.ble _ 1024 = true))) (by omega)) (by omega), by omega⟩) | (refine Nat.le_trans (Nat.mul_le_mul_left _ (Nat.le_of_ble_eq_true (rfl : Nat.ble _ 1024 = true))) ?_; omega) | (unfold inI64; omega) | (constructor <;> omega) | (simp only [inI64, List.length_cons, List.length_append, List.length_nil, List.length_set] at *; omega) | decide | (unfold inI64; decide)); conv => whnf)
    | omega | decide | assumption)
  all_goals
    unfold placeV
    rw [if_neg (by omega), hR]
    first
      | rw [if_pos (by omega)]
      | rw [if_neg (by omega)]
    refine .ret _ ?_
    conv => whnf
    refine ⟨[], ⟨congrArg SV.tup ?_, rfl⟩, trivial⟩
    repeat' (refine cons_eq ?_ ?_)
    all_goals (conv => lhs; whnf)
    all_goals try (with_reducible rfl)
  all_goals rfl
end Go.Proofs.Ytnkdlkgannnfhaa
set_option maxRecDepth 20000
namespace Go.Proofs.Ytnkdlkgannnfhaa
open Go Go.Eng
theorem cntD_mono (l : List Plc) (day : Int) {n : Nat} : ∀ {m : Nat}, n ≤ m → cntD l day n ≤ cntD l day m := by
  intro m
  induction m with
  | zero => intro h; have : n = 0 := by omega
            subst this; exact Int.le_refl _
  | succ m ih =>
    intro h
    rcases Nat.lt_or_ge n (m + 1) with q | q
    · have := ih (by omega)
      rw [cntD]
      split <;> omega
    · have : n = m + 1 := by omega
      subst this; exact Int.le_refl _
theorem take_snocZ {α : Type} {p : List α} {n : Nat} (z : α) (h : n < p.length) : p.take (n + 1) = p.take n ++ [p.getD n z] := by
  rw [List.take_add_one, List.getD_eq_getElem?_getD, List.getElem?_eq_getElem h]; rfl
theorem lostA_take {b : List Bsy} (hb : bsysE b = 0) (p : List Plc) : ∀ n, n ≤ p.length → lostA b (p.take n) ≤ lostA b p := by
  have up : ∀ n, n < p.length → lostA b (p.take n) ≤ lostA b (p.take (n + 1)) := fun n hn => by
    rw [take_snocZ pl0 hn, lostA_snoc]
    have := lostP_bd hb (p.getD n pl0)
    omega
  have all : ∀ k n, n + k = p.length → lostA b (p.take n) ≤ lostA b p := by
    intro k
    induction k with
    | zero => intro n hn; rw [List.take_of_length_le (by omega)]; exact Int.le_refl _
    | succ k ih => intro n hn; exact Int.le_trans (up n (by omega)) (ih (n + 1) (by omega))
  intro n hn
  exact all (p.length - n) n (by omega)
/-- A state of the search that is right. -/
def stOk (s : List Slt) (w : List Wnt) (b : List Bsy) (st : PSt) : Prop := st.2 < 0 ∨ (good s w st.1 ∧ st.1.length = w.length ∧ lostA b st.1 = st.2)
structure stUp (s : List Slt) (w : List Wnt) (b : List Bsy) (st R : PSt) : Prop where
  ok : stOk s w b R
  up : 0 ≤ st.2 → 0 ≤ R.2 ∧ R.2 ≤ st.2
theorem stUp.refl {s : List Slt} {w : List Wnt} {b : List Bsy} {st : PSt} (h : stOk s w b st) : stUp s w b st st := ⟨h, fun h => ⟨h, Int.le_refl _⟩⟩
theorem stUp.trans {s : List Slt} {w : List Wnt} {b : List Bsy} {st R Q : PSt} (h : stUp s w b st R) (k : stUp s w b R Q) : stUp s w b st Q :=
  ⟨k.ok, fun h0 => by have h1 := h.up h0; have h2 := k.up h1.1; omega⟩
theorem srch_best {s : List Slt} {w : List Wnt} {b : List Bsy} (hs : sltsE s = 0) (hw6 : w.length ≤ 6) (hb : bsysE b = 0) : ∀ (d : Nat) (l : List Plc) (st : PSt), l.length + d = w.length → good s w l → stOk s w b st →
    stUp s w b st (srch s w b d l st) ∧ ∀ p, good s w p → p.length = w.length → p.take l.length = l → 0 ≤ (srch s w b d l st).2 ∧ (srch s w b d l st).2 ≤ lostA b p := by
  intro d
  induction d with
  | zero =>
    intro l st hd g hst
    have h0 := lostA_bd hb l (by omega)
    have hp : ∀ p : List Plc, p.length = w.length → p.take l.length = l → p = l := fun p h1 h2 => by
      rw [List.take_of_length_le (by omega)] at h2; exact h2
    rw [srch]
    split
    · rename_i h
      refine ⟨.refl hst, fun p _ h1 h2 => ?_⟩
      rw [hp p h1 h2]; exact h
    · rename_i h
      refine ⟨⟨.inr ⟨g, by show l.length = _; omega, rfl⟩, fun h1 => ⟨h0.1, ?_⟩⟩, fun p _ h1 h2 => ?_⟩
      · show lostA b l ≤ st.2; omega
      · rw [hp p h1 h2]; exact ⟨h0.1, Int.le_refl _⟩
  | succ d ih =>
    intro l st hd g hst
    rw [srch]
    split
    · rename_i h
      refine ⟨.refl hst, fun p _ h1 h2 => ⟨h.1, ?_⟩⟩
      have := lostA_take hb p l.length (by omega)
      rw [h2] at this
      omega
    · have fold : ∀ n, n ≤ s.length → stUp s w b st (foldN (fun k st => if canP s w l k then srch s w b d (l ++ [plN s w l k]) st else st) n st) ∧
          ∀ p, good s w p → p.length = w.length → p.take l.length = l → (∃ k, k < n ∧ (s.getD k sl0).day = (p.getD l.length pl0).day) →
            0 ≤ (foldN (fun k st => if canP s w l k then srch s w b d (l ++ [plN s w l k]) st else st) n st).2 ∧ (foldN (fun k st => if canP s w l k then srch s w b d (l ++ [plN s w l k]) st else st) n st).2 ≤ lostA b p := by
        intro n
        induction n with
        | zero => intro _; exact ⟨.refl hst, fun p _ _ _ hk => by obtain ⟨k, hk, _⟩ := hk; omega⟩
        | succ n ihn =>
          intro hn
          obtain ⟨u1, u2⟩ := ihn (by omega)
          rw [foldN]
          generalize foldN (fun k st => if canP s w l k then srch s w b d (l ++ [plN s w l k]) st else st) n st = Q at u1 u2
          have can : ∀ p, good s w p → p.length = w.length → p.take l.length = l → (s.getD n sl0).day = (p.getD l.length pl0).day → canP s w l n ∧ p.take (l.length + 1) = l ++ [plN s w l n] := by
            intro p gp h1 h2 h3
            obtain ⟨⟨_, i2, i3⟩, i4⟩ := gp.ins l.length (by omega)
            have e : p.getD l.length pl0 = plN s w l n := by
              generalize p.getD l.length pl0 = x at h3 i4
              cases x
              simp only at h3 i4
              subst i4
              rw [← h3]; rfl
            have ht : p.take (l.length + 1) = l ++ [plN s w l n] := by rw [take_snocZ pl0 (by omega), h2, e]
            refine ⟨⟨?_, by rw [h3]; exact i2, by rw [h3]; exact i3⟩, ht⟩
            have r := gp.room n (by omega)
            have m1 := cntD_mono p (s.getD n sl0).day (n := l.length + 1) (m := p.length) (by omega)
            have m2 : cntD p (s.getD n sl0).day (l.length + 1) = cntD (l ++ [plN s w l n]) (s.getD n sl0).day (l.length + 1) := by
              have := cntD_app (l := p.take (l.length + 1)) (m := p.drop (l.length + 1)) (day := (s.getD n sl0).day) (n := l.length + 1) (by rw [List.length_take]; omega)
              rw [List.take_append_drop, ht] at this
              exact this
            rw [cntD_snoc, if_pos (show (plN s w l n).day = (s.getD n sl0).day from rfl)] at m2
            omega
          by_cases hc : canP s w l n
          · rw [if_pos hc]
            obtain ⟨v1, v2⟩ := ih (l ++ [plN s w l n]) Q (by simp; omega) (good_snoc hs g (by omega) (by omega) hc) u1.ok
            refine ⟨u1.trans v1, fun p gp h1 h2 hk => ?_⟩
            obtain ⟨k, hk, hd3⟩ := hk
            rcases Nat.lt_or_ge k n with q | q
            · have h4 := u2 p gp h1 h2 ⟨k, q, hd3⟩
              have h5 := v1.up h4.1
              omega
            · have : k = n := by omega
              subst this
              exact v2 p gp h1 (by rw [show (l ++ [plN s w l k]).length = l.length + 1 by simp]; exact (can p gp h1 h2 hd3).2)
          · rw [if_neg hc]
            refine ⟨u1, fun p gp h1 h2 hk => ?_⟩
            obtain ⟨k, hk, hd3⟩ := hk
            rcases Nat.lt_or_ge k n with q | q
            · exact u2 p gp h1 h2 ⟨k, q, hd3⟩
            · have : k = n := by omega
              subst this
              exact absurd (can p gp h1 h2 hd3).1 hc
      obtain ⟨f1, f2⟩ := fold s.length (Nat.le_refl _)
      refine ⟨f1, fun p gp h1 h2 => f2 p gp h1 h2 ?_⟩
      exact (gp.ins l.length (by omega)).1.1
theorem placed_good {s : List Slt} {w : List Wnt} {p : List Plc} (hs : sltsE s = 0) (h : placedE s w p = 0) : good s w p ∧ p.length = w.length := by
  unfold placedE at h
  split at h
  · cases h
  rename_i hn
  split at h
  · rename_i h1; exact absurd h h1
  rename_i h1
  have hn : namesB w p := Decidable.of_not_not hn
  have h2 := firstAt_all (by simpa using h1)
  have h3 := firstAt_all h
  refine ⟨⟨by have := hn.1; omega, fun i hi => ?_, fun k hk => ?_⟩, hn.1.symm⟩
  · have h4 := h2 i hi
    unfold setE at h4
    simp only at h4
    split at h4
    · cases h4
    rename_i h5
    split at h4
    · cases h4
    rename_i h6
    have hb := ixF_bd (p := fun i' => decide ((s.getD i' sl0).day = (p.getD i pl0).day)) (n := s.length)
    change -1 ≤ sltIx s _ ∧ sltIx s _ < s.length ∧ (0 ≤ sltIx s _ → decide ((s.getD (sltIx s _).toNat sl0).day = (p.getD i pl0).day) = true) at hb
    exact ⟨⟨⟨_, by omega, of_decide_eq_true (hb.2.2 (by omega))⟩, by omega, by omega⟩, (hn.2 i (by have := hn.1; omega)).symm⟩
  · have h4 := h3 k hk
    unfold roomE at h4
    split at h4
    · cases h4
    · omega
/-- What the search finds is right, and none that is right loses less. -/
theorem place_best {s : List Slt} {w : List Wnt} {b : List Bsy} (hs : sltsE s = 0) (hw6 : w.length ≤ 6) (hb : bsysE b = 0) (R : PSt) (hR : srch s w b w.length [] ([], -1) = R) :
    (0 ≤ R.2 → placedE s w R.1 = 0 ∧ lostA b R.1 = R.2) ∧ ∀ p, placedE s w p = 0 → 0 ≤ R.2 ∧ R.2 ≤ lostA b p := by
  obtain ⟨h1, h2⟩ := srch_best hs hw6 hb w.length [] ([], -1) (by simp) (good_nil w hs) (.inl (by decide))
  rw [hR] at h1 h2
  refine ⟨fun h0 => ?_, fun p hp => ?_⟩
  · rcases h1.ok with q | ⟨q1, q2, q3⟩
    · omega
    · have := good_placed q1
      rw [q2, List.take_of_length_le (Nat.le_refl _)] at this
      exact ⟨this, q3⟩
  · obtain ⟨g, hl⟩ := placed_good hs hp
    exact h2 p g hl (by simp)
end Go.Proofs.Ytnkdlkgannnfhaa
set_option maxRecDepth 20000
namespace Go.Proofs.Ytnkdlkgannnfhaa
open Go Go.Eng
-- shift.CheckPlaced
theorem s82 (s : List Slt) (w : List Wnt) (l : List Plc) (hs : slOk s) (hw : wnOk w) (hl : plOk l) : FSpec Try.prog 14 [.d (slts s), .d (wnts w), .d (plcs l)] [] (fun x r => x = .d (.int .i64 (placeE s w l)) ∧ r = []) := by
  have h105 := s105 [sltsE s, wntsE w, plcsE l] (by simp)
  by_cases hE : firstE [sltsE s, wntsE w, plcsE l] = 0
  · have hs0 : sltsE s = 0 := by simp only [firstE] at hE; grind
    have hw0 : wntsE w = 0 := by simp only [firstE] at hE; grind
    have hl0 : plcsE l = 0 := by simp only [firstE] at hE; grind
    obtain ⟨s1, s2⟩ := slts_bd hs0
    obtain ⟨w1, w2⟩ := wnts_bd hw0
    obtain ⟨l1, l2⟩ := plcs_bd hl0
    have hP : placeE s w l = placedE s w l := by unfold placeE; rw [if_neg (by omega), if_neg (by omega), if_neg (by omega)]
    rw [hE] at h105
    rw [hP]
    refine spec_of hT (C := []) Try.func14 rfl Try.call14 rfl rfl rfl ?_
    conv => whnf
    repeat' (first
      | (refine CallX.exact (s134 s hs) rfl rfl ?_; rotate_right; conv => whnf)
      | (refine CallX.exact (s135 w hw) rfl rfl ?_; rotate_right; conv => whnf)
      | (refine CallX.exact (s141 l hl) rfl rfl ?_; rotate_right; conv => whnf)
      | (refine CallX.pure h105 ⟨SV.le_lit (by rfl) (by rfl), trivial⟩ rfl ?_; conv => whnf)
      | (refine CallX.exact (s142 36 w l (by omega) s143) rfl rfl ?_; rotate_right; conv => whnf)
      | (refine br_intro (fun hb => ?_) (fun hb => ?_) <;> (try simp only [decide_eq_true_eq, decide_eq_false_iff_not, Bool.not_eq_true', Bool.not_eq_false', Bool.and_eq_true, Bool.or_eq_true, beq_iff_eq, not_and, Int.not_le, Int.not_lt, Int.toNat_natCast, beq_eq_false_iff_ne, ne_eq, eq_self, not_true_eq_false, not_false_eq_true] at hb) <;> (conv => whnf))
      | (refine RegX.rule (id := 10) hT rfl [] [(0, []), (1, []), (2, [0, 1]), (3, [0, 1, 2]), (4, [0, 1]), (5, [0, 1]), (6, [0, 1]), (7, []), (8, []), (9, []), (10, []), (11, [9, 10]), (12, [9, 10, 11]), (13, [9, 10]), (14, [9, 10]), (15, [9, 10]), (16, []), (17, [])] (by decide +kernel) ?_; conv => whnf)
      | (refine RegX.rule (id := 20) hT rfl [] [(0, []), (1, [0]), (2, []), (3, []), (4, [0, 1, 2, 3]), (5, [0, 1, 2, 3]), (6, [])] (by decide +kernel) ?_; conv => whnf)
      | omega
      | (refine And.intro ?_ ?_; ((try dsimp only); first | omega | (refine ⟨by omega, by omega, Int.le_trans (Int.mul_le_mul_of_nonneg_right (Int.ofNat_le.2 (Nat.le_of_ble_eq_true (rfl : Nat.ble _ 1024 = true))) (by omega)) (by omega), by omega⟩) | (refine Nat.le_trans (Nat.mul_le_mul_left _ (Nat.le_of_ble_eq_true (rfl : Nat.ble _ 1024 = true))) ?_; omega) | (unfold inI64; omega) | (constructor <;> omega) | (simp only [inI64, List.length_cons, List.length_append, List.length_nil, List.length_set] at *; omega) | decide | (unfold inI64; decide)); conv => whnf)
      | omega | decide | assumption)
    · refine .ret _ ?_
      conv => whnf
      refine ⟨[], ⟨?_, rfl⟩, trivial⟩
      conv => lhs; whnf
      unfold placedE; rw [if_pos hb]
    have hn := hb
    have hP2 : placedE s w l = if firstAt (setE s w l) l.length ≠ 0 then firstAt (setE s w l) l.length else firstAt (roomE s l) s.length := by unfold placedE; rw [if_neg (by simpa using hn)]
    rw [hP2]
    have hwl := hn.1
    refine LoopX.rule hT (C := []) (ι := Nat × List Int) (fun (i, c) => (i ≤ l.length ∧ ∀ j, j < i → setE s w l j = 0) ∧ (c.length = s.length ∧ ∀ k, k < s.length → c.getD k 0 = cntD l (s.getD k sl0).day i))
      (fun (i, c) => mkSt [(0, .d (slts s)), (1, .d (wnts w)), (8, .buf 8), (32, .d (plcs l)), (33, .d (.int .i64 l.length)), (34, .d (.int .i64 i))] [(8, seqB 3 1 iF 0 c)]) (fun (i, _) => l.length - i) (0, List.replicate s.length 0) ⟨⟨by simp, by simp⟩, by simp, ?_⟩ ?_ ?_
    · intro k hk
      simp [cntD, hk]
    · exact Entails.mk' [(8, 31)] rfl rfl ⟨SV.le_refl _, SV.le_refl _, SV.le_refl _, SV.le_refl _, SV.le_refl _, SV.le_refl _, trivial⟩ ⟨Res.le_zeros, trivial⟩
    rintro ⟨i, c⟩ ⟨⟨p1, p2⟩, c1, c2⟩
    have e1 : (i : Int).toNat = i := Int.toNat_natCast i
    have hbad : ∀ e : Int, i < l.length → e ≠ 0 → setE s w l i = e → firstAt (setE s w l) l.length = e := fun e h h1 h2 => firstAt_eq h p2 h1 h2
    have hix := sltIx_lt s (l.getD i pl0).day
    have hcb : 0 ≤ sltIx s (l.getD i pl0).day → 0 ≤ c.getD (sltIx s (l.getD i pl0).day).toNat 0 ∧ c.getD (sltIx s (l.getD i pl0).day).toNat 0 ≤ i := fun h => by
      rw [c2 _ (by omega)]; exact cntD_bd _ _ _
    conv => whnf
    repeat' (first
      | (refine CallX.exact (s147 s (by omega) (l.getD i pl0).day) rfl rfl ?_; rotate_right; conv => whnf)
      | (refine br_intro (fun hb => ?_) (fun hb => ?_) <;> (try simp only [decide_eq_true_eq, decide_eq_false_iff_not, Bool.not_eq_true', Bool.not_eq_false', Bool.and_eq_true, Bool.or_eq_true, beq_iff_eq, not_and, Int.not_le, Int.not_lt, Int.toNat_natCast, beq_eq_false_iff_ne, ne_eq, eq_self, not_true_eq_false, not_false_eq_true] at hb) <;> (conv => whnf))
      | (refine RegX.rule (id := 10) hT rfl [] [(0, []), (1, []), (2, [0, 1]), (3, [0, 1, 2]), (4, [0, 1]), (5, [0, 1]), (6, [0, 1]), (7, []), (8, []), (9, []), (10, []), (11, [9, 10]), (12, [9, 10, 11]), (13, [9, 10]), (14, [9, 10]), (15, [9, 10]), (16, []), (17, [])] (by decide +kernel) ?_; conv => whnf)
      | (refine RegX.rule (id := 20) hT rfl [] [(0, []), (1, [0]), (2, []), (3, []), (4, [0, 1, 2, 3]), (5, [0, 1, 2, 3]), (6, [])] (by decide +kernel) ?_; conv => whnf)
      | omega
      | (refine And.intro ?_ ?_; ((try dsimp only); first | omega | (refine ⟨by omega, by omega, Int.le_trans (Int.mul_le_mul_of_nonneg_right (Int.ofNat_le.2 (Nat.le_of_ble_eq_true (rfl : Nat.ble _ 1024 = true))) (by omega)) (by omega), by omega⟩) | (refine Nat.le_trans (Nat.mul_le_mul_left _ (Nat.le_of_ble_eq_true (rfl : Nat.ble _ 1024 = true))) ?_; omega) | (unfold inI64; omega) | (constructor <;> omega) | (simp only [inI64, List.length_cons, List.length_append, List.length_nil, List.length_set] at *; omega) | decide | (unfold inI64; decide)); conv => whnf)
      | omega | decide | assumption)
    · refine .ret _ ?_
      conv => whnf
      refine ⟨[], ⟨?_, rfl⟩, trivial⟩
      conv => lhs; whnf
      congr 2
      rw [hbad 16 (by omega) (by decide) (by clear p2 hbad s2 w2 l2 hcb; unfold setE; simp only; rw [if_pos]; omega)]; rfl
    · refine .ret _ ?_
      conv => whnf
      refine ⟨[], ⟨?_, rfl⟩, trivial⟩
      conv => lhs; whnf
      congr 2
      rw [hbad 16 (by omega) (by decide) (by clear p2 hbad s2 w2 l2 hcb; unfold setE; simp only; rw [if_pos]; omega)]; rfl
    · refine .ret _ ?_
      conv => whnf
      refine ⟨[], ⟨?_, rfl⟩, trivial⟩
      conv => lhs; whnf
      congr 2
      rw [hbad 8 (by omega) (by decide) (by clear p2 hbad s2 w2 l2 hcb; unfold setE; simp only; rw [if_neg (by omega), if_pos (by omega)])]; rfl
    · refine ⟨(i + 1, c.set (sltIx s (l.getD i pl0).day).toNat (c.getD (sltIx s (l.getD i pl0).day).toNat 0 + 1)), ⟨⟨by omega, first_step p2 (by clear p2 hbad s2 w2 l2 hcb; unfold setE; simp only; rw [if_neg (by omega), if_neg (by omega)])⟩, by rw [List.length_set]; exact c1, fun k hk => ?_⟩, by show l.length - (i + 1) < l.length - i; omega,
        Entails.mk' [(8, 8)] rfl rfl ⟨SV.le_refl _, SV.le_refl _, SV.le_refl _, SV.le_refl _, SV.le_refl _, SV.le_refl _, trivial⟩ ⟨Res.le_putF (fun _ _ => rfl), trivial⟩⟩
      have hh := sltIx_hit hs0 (day := (l.getD i pl0).day) (k := k) hb hk
      rw [cntD]
      by_cases q : k = (sltIx s (l.getD i pl0).day).toNat
      · rw [if_pos (hh.2 q).symm, ← q, List.getD_eq_getElem?_getD, List.getElem?_set_self (by omega), Option.getD_some, c2 _ hk]
      · rw [if_neg (fun e => q (hh.1 e.symm)), List.getD_eq_getElem?_getD, List.getElem?_set_ne (fun e => q e.symm), ← List.getD_eq_getElem?_getD, c2 _ hk]; omega
    have hi : i = l.length := by omega
    rw [hi] at p2 c2
    rw [firstAt_zero p2, if_neg (by decide)]
    refine LoopX.rule hT (C := []) (ι := Nat) (fun i => i ≤ s.length ∧ ∀ j, j < i → roomE s l j = 0) (fun i => mkSt [(8, .buf 8), (70, .d (slts s)), (71, .d (.int .i64 s.length)), (72, .d (.int .i64 i))] [(8, seqB 3 1 iF 0 c)]) (fun i => s.length - i) 0 ⟨by omega, by omega⟩ (by (refine Entails.mk' [(8, 8)] rfl rfl ?_ ?_ <;> repeat' (first | exact True.intro | exact SV.le_refl _ | exact Res.le_refl _ | exact SV.le_int (by omega) | exact SV.le_any _ | refine And.intro ?_ ?_)); done) ?_
    rintro k ⟨k1, k2⟩
    have hbad2 : k < s.length → roomE s l k = 12 → firstAt (roomE s l) s.length = 12 := fun h h1 => firstAt_eq h k2 (by decide) h1
    have hk0 : k < s.length → c.getD k 0 = cntD l (s.getD k sl0).day l.length := fun h => c2 k h
    conv => whnf
    repeat' (first
      | (refine br_intro (fun hb => ?_) (fun hb => ?_) <;> (try simp only [decide_eq_true_eq, decide_eq_false_iff_not, Bool.not_eq_true', Bool.not_eq_false', Bool.and_eq_true, Bool.or_eq_true, beq_iff_eq, not_and, Int.not_le, Int.not_lt, Int.toNat_natCast, beq_eq_false_iff_ne, ne_eq, eq_self, not_true_eq_false, not_false_eq_true] at hb) <;> (conv => whnf))
      | (refine RegX.rule (id := 10) hT rfl [] [(0, []), (1, []), (2, [0, 1]), (3, [0, 1, 2]), (4, [0, 1]), (5, [0, 1]), (6, [0, 1]), (7, []), (8, []), (9, []), (10, []), (11, [9, 10]), (12, [9, 10, 11]), (13, [9, 10]), (14, [9, 10]), (15, [9, 10]), (16, []), (17, [])] (by decide +kernel) ?_; conv => whnf)
      | (refine RegX.rule (id := 20) hT rfl [] [(0, []), (1, [0]), (2, []), (3, []), (4, [0, 1, 2, 3]), (5, [0, 1, 2, 3]), (6, [])] (by decide +kernel) ?_; conv => whnf)
      | omega
      | (refine And.intro ?_ ?_; ((try dsimp only); first | omega | (refine ⟨by omega, by omega, Int.le_trans (Int.mul_le_mul_of_nonneg_right (Int.ofNat_le.2 (Nat.le_of_ble_eq_true (rfl : Nat.ble _ 1024 = true))) (by omega)) (by omega), by omega⟩) | (refine Nat.le_trans (Nat.mul_le_mul_left _ (Nat.le_of_ble_eq_true (rfl : Nat.ble _ 1024 = true))) ?_; omega) | (unfold inI64; omega) | (constructor <;> omega) | (simp only [inI64, List.length_cons, List.length_append, List.length_nil, List.length_set] at *; omega) | decide | (unfold inI64; decide)); conv => whnf)
      | omega | decide | assumption)
    · refine .ret _ ?_
      conv => whnf
      refine ⟨[], ⟨?_, rfl⟩, trivial⟩
      conv => lhs; whnf
      congr 2
      rw [hbad2 (by omega) (by unfold roomE; rw [← hk0 (by omega), if_pos (by omega)])]
    · exact ⟨k + 1, ⟨by omega, first_step k2 (by unfold roomE; rw [← hk0 (by omega), if_neg (by omega)])⟩, by omega, (by (refine Entails.mk' [(8, 8)] rfl rfl ?_ ?_ <;> repeat' (first | exact True.intro | exact SV.le_refl _ | exact Res.le_refl _ | exact SV.le_int (by omega) | exact SV.le_any _ | refine And.intro ?_ ?_)); done)⟩
    · refine .ret _ ?_
      conv => whnf
      refine ⟨[], ⟨?_, rfl⟩, trivial⟩
      conv => lhs; whnf
      congr 2
      have : k = s.length := by omega
      subst this
      rw [firstAt_zero k2]
  · have hP : placeE s w l = firstE [sltsE s, wntsE w, plcsE l] := by
      unfold placeE; simp only [firstE] at hE ⊢; grind
    rw [hP]
    generalize firstE [sltsE s, wntsE w, plcsE l] = e at h105 hE
    refine spec_of hT (C := []) Try.func14 rfl Try.call14 rfl rfl rfl ?_
    conv => whnf
    repeat' (first
      | (refine CallX.exact (s134 s hs) rfl rfl ?_; rotate_right; conv => whnf)
      | (refine CallX.exact (s135 w hw) rfl rfl ?_; rotate_right; conv => whnf)
      | (refine CallX.exact (s141 l hl) rfl rfl ?_; rotate_right; conv => whnf)
      | (refine CallX.pure h105 ⟨SV.le_lit (by rfl) (by rfl), trivial⟩ rfl ?_; conv => whnf)
      | (refine br_intro (fun hb => ?_) (fun hb => ?_) <;> (try simp only [decide_eq_true_eq, decide_eq_false_iff_not, Bool.not_eq_true', Bool.not_eq_false', Bool.and_eq_true, Bool.or_eq_true, beq_iff_eq, not_and, Int.not_le, Int.not_lt, Int.toNat_natCast, beq_eq_false_iff_ne, ne_eq, eq_self, not_true_eq_false, not_false_eq_true] at hb) <;> (conv => whnf))
      | (refine RegX.rule (id := 10) hT rfl [] [(0, []), (1, []), (2, [0, 1]), (3, [0, 1, 2]), (4, [0, 1]), (5, [0, 1]), (6, [0, 1]), (7, []), (8, []), (9, []), (10, []), (11, [9, 10]), (12, [9, 10, 11]), (13, [9, 10]), (14, [9, 10]), (15, [9, 10]), (16, []), (17, [])] (by decide +kernel) ?_; conv => whnf)
      | (refine RegX.rule (id := 20) hT rfl [] [(0, []), (1, [0]), (2, []), (3, []), (4, [0, 1, 2, 3]), (5, [0, 1, 2, 3]), (6, [])] (by decide +kernel) ?_; conv => whnf)
      | omega
      | (refine And.intro ?_ ?_; ((try dsimp only); first | omega | (refine ⟨by omega, by omega, Int.le_trans (Int.mul_le_mul_of_nonneg_right (Int.ofNat_le.2 (Nat.le_of_ble_eq_true (rfl : Nat.ble _ 1024 = true))) (by omega)) (by omega), by omega⟩) | (refine Nat.le_trans (Nat.mul_le_mul_left _ (Nat.le_of_ble_eq_true (rfl : Nat.ble _ 1024 = true))) ?_; omega) | (unfold inI64; omega) | (constructor <;> omega) | (simp only [inI64, List.length_cons, List.length_append, List.length_nil, List.length_set] at *; omega) | decide | (unfold inI64; decide)); conv => whnf)
      | omega | decide | assumption)
    refine .ret _ ?_
    conv => whnf
    refine ⟨[], ⟨?_, rfl⟩, trivial⟩
    conv => lhs; whnf
end Go.Proofs.Ytnkdlkgannnfhaa
set_option maxRecDepth 20000
namespace Go.Proofs.Ytnkdlkgannnfhaa
open Go Go.Eng
structure Ntr where
  name : Int
  pay : Int
  step : Int
  late : Int
def ntrF : Ntr → List DV := fun r => [.int .i64 r.name, .int .i64 r.pay, .int .i64 r.step, .int .i64 r.late]
structure Ntc where
  key : List UInt8
  plate : List UInt8
  tm : Int
  came : Int
  cents : Int
def ntcF : Ntc → List DV := fun n => [.str n.key, .str n.plate, .int .i64 n.tm, .int .i64 n.came, .int .i64 n.cents]
def ntc0 : Ntc := ⟨[], [], 0, 0, 0⟩
abbrev ntcs (l : List Ntc) : DV := seqD 5 ntcF ntc0 l
def ntrE (r : Ntr) : Int := if (0 ≤ r.name ∧ r.name ≤ 4000) ∧ (0 ≤ r.pay ∧ r.pay ≤ 4000) ∧ (1 ≤ r.step ∧ r.step ≤ 4000) ∧ (0 ≤ r.late ∧ r.late ≤ 1000000) then 0 else 1
def ntcE (l : List Ntc) (i : Nat) : Int :=
  if isKeyB (l.getD i ntc0).key = false then 5 else if 0 < i ∧ strLe (l.getD i ntc0).key (l.getD (i - 1) ntc0).key = true then 7 else if isPlateB (l.getD i ntc0).plate = false then 3
  else if ¬ ((0 ≤ (l.getD i ntc0).tm ∧ (l.getD i ntc0).tm ≤ (l.getD i ntc0).came) ∧ (0 ≤ (l.getD i ntc0).came ∧ (l.getD i ntc0).came ≤ 5761439) ∧ (0 ≤ (l.getD i ntc0).cents ∧ (l.getD i ntc0).cents ≤ 1000000)) then 1 else 0
def ntcsE (l : List Ntc) : Int := if 200 < l.length then 2 else firstAt (ntcE l) l.length
def ntK (n : Ntc) : Prop := n.key.length ≤ 2^40 ∧ n.plate.length ≤ 2^40
def ntOk (l : List Ntc) : Prop := l.length ≤ 2^40 ∧ ∀ x ∈ l, ntK x
-- toll.CheckNoticeRules
theorem sNtRules (r : Ntr) : FSpec Try.prog 8 [.agg ((ntrF r).map .d)] [] (fun x o => x = .d (.int .i64 (ntrE r)) ∧ o = []) := by
  refine spec_of hT (C := []) Try.func8 rfl Try.call8 rfl rfl rfl ?_
  conv => whnf
  repeat' (first
    | (refine CallX.exact (s119 _ _ _) rfl rfl ?_; rotate_right; conv => whnf)
    | (refine CallX.exact (s107 _ _) rfl rfl ?_; rotate_right; conv => whnf)
    | (refine br_intro (fun hb => ?_) (fun hb => ?_) <;> (try simp only [decide_eq_true_eq, decide_eq_false_iff_not, Bool.not_eq_true', Bool.not_eq_false', Bool.and_eq_true, Bool.or_eq_true, beq_iff_eq, not_and, Int.not_le, Int.not_lt, Int.toNat_natCast, beq_eq_false_iff_ne, ne_eq, eq_self, not_true_eq_false, not_false_eq_true] at hb) <;> (conv => whnf))
    | omega
    | (refine And.intro ?_ ?_; ((try dsimp only); first | omega | (refine ⟨by omega, by omega, Int.le_trans (Int.mul_le_mul_of_nonneg_right (Int.ofNat_le.2 (Nat.le_of_ble_eq_true (rfl : Nat.ble _ 1024 = true))) (by omega)) (by omega), by omega⟩) | (refine Nat.le_trans (Nat.mul_le_mul_left _ (Nat.le_of_ble_eq_true (rfl : Nat.ble _ 1024 = true))) ?_; omega) | (unfold inI64; omega) | (constructor <;> omega) | (simp only [inI64, List.length_cons, List.length_append, List.length_nil, List.length_set] at *; omega) | decide | (unfold inI64; decide)); conv => whnf)
    | omega | decide | assumption)
  all_goals
    refine .ret _ ?_
    conv => whnf
    refine ⟨[], ⟨?_, rfl⟩, trivial⟩
    conv => lhs; whnf
    congr 2
    unfold ntrE; grind
-- word.Moment
theorem sMoment (n : Int) : FSpec Try.prog 22 [.d (.int .i64 n)] [] (fun x o => x = .d (.int .i64 (if 0 ≤ n ∧ n ≤ 5761439 then 0 else 1)) ∧ o = []) := by
  refine spec_of hT (C := []) Try.func22 rfl Try.call22 rfl rfl rfl ?_
  conv => whnf
  repeat' (first
    | (refine CallX.exact (s154 _) rfl rfl ?_; rotate_right; conv => whnf)
    | (refine CallX.exact (s107 _ _) rfl rfl ?_; rotate_right; conv => whnf)
    | (refine br_intro (fun hb => ?_) (fun hb => ?_) <;> (try simp only [decide_eq_true_eq, decide_eq_false_iff_not, Bool.not_eq_true', Bool.not_eq_false', Bool.and_eq_true, Bool.or_eq_true, beq_iff_eq, not_and, Int.not_le, Int.not_lt, Int.toNat_natCast, beq_eq_false_iff_ne, ne_eq, eq_self, not_true_eq_false, not_false_eq_true] at hb) <;> (conv => whnf))
    | omega
    | (refine And.intro ?_ ?_; ((try dsimp only); first | omega | (refine ⟨by omega, by omega, Int.le_trans (Int.mul_le_mul_of_nonneg_right (Int.ofNat_le.2 (Nat.le_of_ble_eq_true (rfl : Nat.ble _ 1024 = true))) (by omega)) (by omega), by omega⟩) | (refine Nat.le_trans (Nat.mul_le_mul_left _ (Nat.le_of_ble_eq_true (rfl : Nat.ble _ 1024 = true))) ?_; omega) | (unfold inI64; omega) | (constructor <;> omega) | (simp only [inI64, List.length_cons, List.length_append, List.length_nil, List.length_set] at *; omega) | decide | (unfold inI64; decide)); conv => whnf)
    | omega | decide | assumption)
  refine .ret _ ?_
  conv => whnf
  refine ⟨[], ⟨?_, rfl⟩, trivial⟩
  conv => lhs; whnf
  congr 2
  grind
-- toll.CheckNotices
theorem sNotices (l : List Ntc) (hk : ntOk l) : FSpec Try.prog 21 [.d (ntcs l)] [] (fun x r => x = .d (.int .i64 (ntcsE l)) ∧ r = []) := by
  refine spec_of hT (C := []) Try.func21 rfl Try.call21 rfl rfl rfl ?_
  conv => whnf
  refine br_intro (fun h0 => ?_) (fun h0 => ?_)
  · simp at h0
    conv => whnf
    refine .ret _ ?_
    conv => whnf
    refine ⟨[], ⟨?_, rfl⟩, trivial⟩
    conv => lhs; whnf
    unfold ntcsE; rw [if_pos (by omega)]
  simp at h0
  conv => whnf
  refine LoopX.rule hT (C := []) (ι := Nat) (fun i => i ≤ l.length ∧ ∀ j, j < i → ntcE l j = 0) (fun i => mkSt [(0, .d (ntcs l)), (8, .d (ntcs l)), (9, .d (.int .i64 l.length)), (10, .d (.int .i64 i))] []) (fun i => l.length - i) 0 ⟨by omega, by omega⟩ (by refine Entails.mk' [] rfl rfl ?_ ?_ <;> repeat' (first | exact True.intro | exact SV.le_refl _ | exact Res.le_refl _ | exact SV.le_int (by omega) | exact SV.le_any _ | refine And.intro ?_ ?_)) ?_
  rintro i ⟨p1, p2⟩
  have hx : (i : Int) < l.length → ntK (l.getD (i : Int).toNat ntc0) := fun hi => hk.2 _ (getD_mem (by omega))
  have e1 : (i : Int).toNat = i := Int.toNat_natCast i
  have hbad : ∀ e : Int, i < l.length → e ≠ 0 → ntcE l i = e → ntcsE l = e := fun e h h1 h2 => by
    unfold ntcsE; rw [if_neg (by omega)]
    exact firstAt_eq h p2 h1 h2
  conv => whnf
  repeat' (first
    | (refine CallX.exact (s108 _ (hx (by omega)).1) rfl rfl ?_; rotate_right; conv => whnf)
    | (refine CallX.exact (s185 _ (hx (by omega)).2) rfl rfl ?_; rotate_right; conv => whnf)
    | (refine CallX.exact (s119 _ _ _) rfl rfl ?_; rotate_right; conv => whnf)
    | (refine CallX.exact (s154 _) rfl rfl ?_; rotate_right; conv => whnf)
    | (refine br_intro (fun hb => ?_) (fun hb => ?_) <;> (try simp only [decide_eq_true_eq, decide_eq_false_iff_not, Bool.not_eq_true', Bool.not_eq_false', Bool.and_eq_true, Bool.or_eq_true, beq_iff_eq, not_and, Int.not_le, Int.not_lt, Int.toNat_natCast, beq_eq_false_iff_ne, ne_eq, eq_self, not_true_eq_false, not_false_eq_true] at hb) <;> (conv => whnf))
    | (refine RegX.rule (id := 8) hT rfl [] [(0, []), (1, []), (2, []), (3, []), (4, []), (5, [3, 4]), (6, [3, 4, 5]), (7, [3, 4, 5]), (8, [3, 4]), (9, [3, 4]), (10, [3, 4]), (11, []), (12, []), (13, [])] (by decide +kernel) ?_; conv => whnf)
    | omega
    | (refine And.intro ?_ ?_; ((try dsimp only); first | omega | (refine ⟨by omega, by omega, Int.le_trans (Int.mul_le_mul_of_nonneg_right (Int.ofNat_le.2 (Nat.le_of_ble_eq_true (rfl : Nat.ble _ 1024 = true))) (by omega)) (by omega), by omega⟩) | (refine Nat.le_trans (Nat.mul_le_mul_left _ (Nat.le_of_ble_eq_true (rfl : Nat.ble _ 1024 = true))) ?_; omega) | (unfold inI64; omega) | (constructor <;> omega) | (simp only [inI64, List.length_cons, List.length_append, List.length_nil, List.length_set] at *; omega) | decide | (unfold inI64; decide)); conv => whnf)
    | omega | decide | assumption)
  all_goals first
    | (refine ⟨i + 1, ⟨by omega, first_step p2 (by clear p2 hbad hk hx; simp only [e1, toNat_pred] at *; unfold ntcE strLe; grind)⟩, by omega, (by refine Entails.mk' [] rfl rfl ?_ ?_ <;> repeat' (first | exact True.intro | exact SV.le_refl _ | exact Res.le_refl _ | exact SV.le_int (by omega) | exact SV.le_any _ | refine And.intro ?_ ?_))⟩)
    | (refine .ret _ ?_
       conv => whnf
       refine ⟨[], ⟨?_, rfl⟩, trivial⟩
       conv => lhs; whnf
       congr 2
       first
         | exact (hbad _ (by omega) (by decide) (by clear p2 hbad hk hx; simp only [e1, toNat_pred] at *; unfold ntcE strLe; grind)).symm
         | (have : i = l.length := by omega
            subst this
            unfold ntcsE; rw [if_neg (by omega), firstAt_zero p2]))
def dueE (r : Ntr) (n : Ntc) (t : Int) : Int := firstE [ntrE r, ntcsE [n], if 0 ≤ t ∧ t ≤ 5761439 then 0 else 1, if t < n.came then 11 else 0]
def dueO (r : Ntr) (n : Ntc) (t : Int) : Int := (max 0 (t.tdiv 1440 - n.came.tdiv 1440 - r.pay) + r.step - 1).tdiv r.step
def dueV (r : Ntr) (n : Ntc) (t : Int) : Int := n.cents + dueO r n t * r.late
theorem ntc_one {n : Ntc} (h : ntcsE [n] = 0) : isKeyB n.key = true ∧ isPlateB n.plate = true ∧ (0 ≤ n.tm ∧ n.tm ≤ n.came) ∧ (0 ≤ n.came ∧ n.came ≤ 5761439) ∧ (0 ≤ n.cents ∧ n.cents ≤ 1000000) := by
  have h : ntcE [n] 0 = 0 := by simpa [ntcsE, firstAt] using h
  unfold ntcE at h
  simp only [List.getD_cons_zero] at h
  grind
theorem ntr_zero {r : Ntr} (h : ntrE r = 0) : (0 ≤ r.name ∧ r.name ≤ 4000) ∧ (0 ≤ r.pay ∧ r.pay ≤ 4000) ∧ (1 ≤ r.step ∧ r.step ≤ 4000) ∧ (0 ≤ r.late ∧ r.late ≤ 1000000) := by unfold ntrE at h; grind
theorem dueE_zero {r : Ntr} {n : Ntc} {t : Int} (h : dueE r n t = 0) : ntrE r = 0 ∧ ntcsE [n] = 0 ∧ (0 ≤ t ∧ t ≤ 5761439) ∧ n.came ≤ t := by
  unfold dueE at h
  simp only [firstE] at h
  grind
theorem mul_bd {a b A B : Int} (h0 : 0 ≤ a) (h1 : a ≤ A) (h2 : 0 ≤ b) (h3 : b ≤ B) : 0 ≤ a * b ∧ a * b ≤ A * B :=
  ⟨Int.mul_nonneg h0 h2, Int.mul_le_mul h1 h3 h2 (by omega)⟩
theorem tdiv_bd {a b : Int} (h0 : 0 ≤ a) (h1 : 1 ≤ b) : 0 ≤ a.tdiv b ∧ a.tdiv b ≤ a := by
  refine ⟨Int.tdiv_nonneg h0 (by omega), ?_⟩
  have h4 := Int.tmod_add_mul_tdiv a b
  have h2 : 0 ≤ a.tmod b := Int.tmod_nonneg _ h0
  have h5 : a.tdiv b * 1 ≤ a.tdiv b * b := Int.mul_le_mul_of_nonneg_left h1 (Int.tdiv_nonneg h0 (by omega))
  rw [Int.mul_comm] at h4
  omega
theorem dueO_bd {r : Ntr} {n : Ntc} {t : Int} (h1 : ntrE r = 0) (hc : 0 ≤ n.came) (ht : n.came ≤ t) (ht2 : t ≤ 5761439) : 0 ≤ dueO r n t ∧ dueO r n t ≤ 10000 := by
  obtain ⟨_, h2, h3, _⟩ := ntr_zero h1
  unfold dueO
  have a1 := tdiv_bd (a := t) (b := 1440) (by omega) (by omega)
  have a2 := tdiv_bd (a := n.came) (b := 1440) (by omega) (by omega)
  have h4 := Int.tmod_add_mul_tdiv t 1440
  have h5 : 0 ≤ t.tmod 1440 := Int.tmod_nonneg _ (by omega)
  obtain ⟨q, hq⟩ : ∃ q, q = max 0 (t.tdiv 1440 - n.came.tdiv 1440 - r.pay) + r.step - 1 := ⟨_, rfl⟩
  have hq0 : 0 ≤ q ∧ q ≤ 10000 := by omega
  rw [← hq]
  have := tdiv_bd hq0.1 h3.1
  omega
def dueW (r : Ntr) (n : Ntc) (t : Int) : SV := if dueE r n t = 0 then .tup [.d (.int .i64 (dueV r n t)), .d (.int .i64 0)] else .tup [.d (.int .i64 0), .d (.int .i64 (dueE r n t))]
theorem ntOk_one {n : Ntc} (h : ntK n) : ntOk [n] := ⟨by simp, fun x hx => by rw [List.mem_singleton] at hx; rw [hx]; exact h⟩
-- toll.Due
theorem sDue (r : Ntr) (n : Ntc) (t : Int) (hn : ntK n) : FSpec Try.prog 7 [.agg ((ntrF r).map .d), .agg ((ntcF n).map .d), .d (.int .i64 t)] [] (fun x o => x = dueW r n t ∧ o = []) := by
  have h105 := s105 [ntrE r, ntcsE [n], if 0 ≤ t ∧ t ≤ 5761439 then 0 else 1, if decide (t < n.came) = true then 11 else 0] (by simp)
  have hE : firstE [ntrE r, ntcsE [n], if 0 ≤ t ∧ t ≤ 5761439 then 0 else 1, if decide (t < n.came) = true then 11 else 0] = dueE r n t := by
    unfold dueE; simp only [decide_eq_true_eq]
  rw [hE] at h105
  unfold dueW
  by_cases hz : dueE r n t = 0
  · rw [if_pos hz]
    rw [hz] at h105
    obtain ⟨h1, h2, h3, h4⟩ := dueE_zero hz
    obtain ⟨_, _, _, h5, h6⟩ := ntc_one h2
    obtain ⟨_, h7, h8, h9⟩ := ntr_zero h1
    have hO := dueO_bd h1 h5.1 h4 h3.2
    have hM := mul_bd hO.1 hO.2 h9.1 h9.2
    have a1 := tdiv_bd (a := t) (b := 1440) (by omega) (by omega)
    have a2 := tdiv_bd (a := n.came) (b := 1440) (by omega) (by omega)
    have hM1 : inI64 (dueO r n t * r.late) := by unfold inI64; omega
    have hM2 : inI64 (dueV r n t) := by unfold dueV inI64; omega
    have hq : inI64 (max 0 (t.tdiv 1440 - n.came.tdiv 1440 - r.pay) + r.step) := by unfold inI64; omega
    have hq2 : inI64 (max 0 (t.tdiv 1440 - n.came.tdiv 1440 - r.pay) + r.step - 1) := by unfold inI64; omega
    have hq3 : inI64 (dueO r n t) := by unfold inI64; omega
    refine spec_of hT (C := []) Try.func7 rfl Try.call7 rfl rfl rfl ?_
    conv => whnf
    repeat' (first
      | (refine CallX.exact (sNtRules r) rfl rfl ?_; rotate_right; conv => whnf)
      | (refine CallX.pure (sNotices [n] (ntOk_one hn)) ⟨SV.le_lit (by rfl) (by rfl), trivial⟩ rfl ?_; conv => whnf)
      | (refine CallX.exact (sMoment t) rfl rfl ?_; rotate_right; conv => whnf)
      | (refine CallX.exact (s107 _ _) rfl rfl ?_; rotate_right; conv => whnf)
      | (refine CallX.pure h105 ⟨SV.le_lit (by rfl) (by rfl), trivial⟩ rfl ?_; conv => whnf)
      | (refine And.intro hq ?_; conv => whnf)
      | (refine And.intro hq2 ?_; conv => whnf)
      | (refine And.intro hq3 ?_; conv => whnf)
      | (refine And.intro hM1 ?_; conv => whnf)
      | (refine And.intro hM2 ?_; conv => whnf)
      | (refine br_intro (fun hb => ?_) (fun hb => ?_) <;> (try simp only [decide_eq_true_eq, decide_eq_false_iff_not, Bool.not_eq_true', Bool.not_eq_false', Bool.and_eq_true, Bool.or_eq_true, beq_iff_eq, not_and, Int.not_le, Int.not_lt, Int.toNat_natCast, beq_eq_false_iff_ne, ne_eq, eq_self, not_true_eq_false, not_false_eq_true] at hb) <;> (conv => whnf))
      | (refine RegX.rule (id := 1) hT rfl [] [(0, []), (2, [0]), (3, [0]), (5, [0, 2, 3]), (7, [0, 2, 3, 5]), (8, [0, 2, 3, 5, 7]), (9, [0, 2, 3, 5, 7]), (10, [0, 2, 3, 5]), (1, [2, 3, 5, 7, 8, 9, 10]), (4, [5, 7, 8, 9, 10]), (6, [7, 8, 9, 10]), (11, []), (12, []), (13, []), (14, [])] (by decide +kernel) ?_; conv => whnf)
      | (refine RegX.rule (id := 5) hT rfl [] [(0, []), (1, []), (2, [0, 1]), (3, [0, 1, 2]), (4, [0, 1, 2]), (5, [0, 1]), (6, [0, 1]), (7, [0, 1, 2, 3, 4, 5, 6]), (8, [0, 1, 2, 3, 4, 5, 6]), (9, [0, 1]), (10, [0, 1, 2, 3, 4, 5, 6, 7, 8, 9]), (11, [0, 1, 2, 3, 4, 5, 6, 7, 8, 9]), (12, [0, 1]), (13, []), (14, []), (15, [])] (by decide +kernel) ?_; conv => whnf)
      | omega
      | (refine And.intro ?_ ?_; ((try dsimp only); first | omega | (refine ⟨by omega, by omega, Int.le_trans (Int.mul_le_mul_of_nonneg_right (Int.ofNat_le.2 (Nat.le_of_ble_eq_true (rfl : Nat.ble _ 1024 = true))) (by omega)) (by omega), by omega⟩) | (refine Nat.le_trans (Nat.mul_le_mul_left _ (Nat.le_of_ble_eq_true (rfl : Nat.ble _ 1024 = true))) ?_; omega) | (unfold inI64; omega) | (constructor <;> omega) | (simp only [inI64, List.length_cons, List.length_append, List.length_nil, List.length_set] at *; omega) | decide | (unfold inI64; decide)); conv => whnf)
      | omega | decide | assumption)
    refine .ret _ ?_
    conv => whnf
    refine ⟨[], ⟨congrArg SV.tup ?_, rfl⟩, trivial⟩
    repeat' (refine cons_eq ?_ ?_)
    all_goals (conv => lhs; whnf)
    all_goals try (with_reducible rfl)
    all_goals rfl
  · rw [if_neg hz]
    generalize dueE r n t = e at h105 hz
    refine spec_of hT (C := []) Try.func7 rfl Try.call7 rfl rfl rfl ?_
    conv => whnf
    repeat' (first
      | (refine CallX.exact (sNtRules r) rfl rfl ?_; rotate_right; conv => whnf)
      | (refine CallX.pure (sNotices [n] (ntOk_one hn)) ⟨SV.le_lit (by rfl) (by rfl), trivial⟩ rfl ?_; conv => whnf)
      | (refine CallX.exact (sMoment t) rfl rfl ?_; rotate_right; conv => whnf)
      | (refine CallX.exact (s107 _ _) rfl rfl ?_; rotate_right; conv => whnf)
      | (refine CallX.pure h105 ⟨SV.le_lit (by rfl) (by rfl), trivial⟩ rfl ?_; conv => whnf)
      | (refine br_intro (fun hb => ?_) (fun hb => ?_) <;> (try simp only [decide_eq_true_eq, decide_eq_false_iff_not, Bool.not_eq_true', Bool.not_eq_false', Bool.and_eq_true, Bool.or_eq_true, beq_iff_eq, not_and, Int.not_le, Int.not_lt, Int.toNat_natCast, beq_eq_false_iff_ne, ne_eq, eq_self, not_true_eq_false, not_false_eq_true] at hb) <;> (conv => whnf))
      | (refine RegX.rule (id := 1) hT rfl [] [(0, []), (2, [0]), (3, [0]), (5, [0, 2, 3]), (7, [0, 2, 3, 5]), (8, [0, 2, 3, 5, 7]), (9, [0, 2, 3, 5, 7]), (10, [0, 2, 3, 5]), (1, [2, 3, 5, 7, 8, 9, 10]), (4, [5, 7, 8, 9, 10]), (6, [7, 8, 9, 10]), (11, []), (12, []), (13, []), (14, [])] (by decide +kernel) ?_; conv => whnf)
      | (refine RegX.rule (id := 5) hT rfl [] [(0, []), (1, []), (2, [0, 1]), (3, [0, 1, 2]), (4, [0, 1, 2]), (5, [0, 1]), (6, [0, 1]), (7, [0, 1, 2, 3, 4, 5, 6]), (8, [0, 1, 2, 3, 4, 5, 6]), (9, [0, 1]), (10, [0, 1, 2, 3, 4, 5, 6, 7, 8, 9]), (11, [0, 1, 2, 3, 4, 5, 6, 7, 8, 9]), (12, [0, 1]), (13, []), (14, []), (15, [])] (by decide +kernel) ?_; conv => whnf)
      | omega
      | (refine And.intro ?_ ?_; ((try dsimp only); first | omega | (refine ⟨by omega, by omega, Int.le_trans (Int.mul_le_mul_of_nonneg_right (Int.ofNat_le.2 (Nat.le_of_ble_eq_true (rfl : Nat.ble _ 1024 = true))) (by omega)) (by omega), by omega⟩) | (refine Nat.le_trans (Nat.mul_le_mul_left _ (Nat.le_of_ble_eq_true (rfl : Nat.ble _ 1024 = true))) ?_; omega) | (unfold inI64; omega) | (constructor <;> omega) | (simp only [inI64, List.length_cons, List.length_append, List.length_nil, List.length_set] at *; omega) | decide | (unfold inI64; decide)); conv => whnf)
      | omega | decide | assumption)
    refine .ret _ ?_
    conv => whnf
    refine ⟨[], ⟨congrArg SV.tup ?_, rfl⟩, trivial⟩
    repeat' (refine cons_eq ?_ ?_)
    all_goals (conv => lhs; whnf)
    all_goals try (with_reducible rfl)
    all_goals rfl
-- NoticeRules
theorem sNrl (n : Nat) (L : Nat → Int) (hL : Rok n L) (a : Int) (h0 : 0 ≤ a) (ha : a ≤ 2^38) :
    FSpec Try.prog 5 [.ptr 1000000 0] [(1000000, strm n L a)] (fun y r => (∃ z : Ntr, y = .agg ((ntrF z).map .d)) ∧ Moved n L a 20 r) := by
  refine spec_of hT (C := []) Try.func5 rfl Try.call5 rfl rfl rfl ?_
  conv => whnf
  repeat' (first
    | (refine CallX.of (s33 n L hL _ ?_ ?_ [0, 10, 4000] ?_ ?_) [(1000000, 1000000)] rfl ⟨SV.le_refl _, SV.le_lit rfl rfl, trivial⟩ ⟨Res.le_refl _, trivial⟩ rfl rfl ?_; rotate_right; rintro x rout ⟨⟨u1, hu1, rfl⟩, ⟨c, c1, c2, rfl⟩⟩; refine ⟨rfl, ?_⟩; conv => whnf)
    | (refine CallX.of (s33 n L hL _ ?_ ?_ [0, 14, 4000] ?_ ?_) [(1000000, 1000000)] rfl ⟨SV.le_refl _, SV.le_lit rfl rfl, trivial⟩ ⟨Res.le_refl _, trivial⟩ rfl rfl ?_; rotate_right; rintro x rout ⟨⟨u2, hu2, rfl⟩, ⟨c, c1, c2, rfl⟩⟩; refine ⟨rfl, ?_⟩; conv => whnf)
    | (refine CallX.of (s33 n L hL _ ?_ ?_ [1, 7, 4000] ?_ ?_) [(1000000, 1000000)] rfl ⟨SV.le_refl _, SV.le_lit rfl rfl, trivial⟩ ⟨Res.le_refl _, trivial⟩ rfl rfl ?_; rotate_right; rintro x rout ⟨⟨u3, hu3, rfl⟩, ⟨c, c1, c2, rfl⟩⟩; refine ⟨rfl, ?_⟩; conv => whnf)
    | (refine CallX.of (s33 n L hL _ ?_ ?_ [0, 500] ?_ ?_) [(1000000, 1000000)] rfl ⟨SV.le_refl _, SV.le_lit rfl rfl, trivial⟩ ⟨Res.le_refl _, trivial⟩ rfl rfl ?_; rotate_right; rintro x rout ⟨⟨u4, hu4, rfl⟩, ⟨c, c1, c2, rfl⟩⟩; refine ⟨rfl, ?_⟩; conv => whnf)
    | (refine CallX.of (s84 n L hL _ ?_ ?_ _ ?_) [(1000000, 1000000)] rfl ⟨SV.le_refl _, SV.le_refl _, trivial⟩ ⟨Res.le_refl _, trivial⟩ rfl rfl ?_; rotate_right; rintro x rout ⟨⟨f, rfl⟩, ⟨c, c1, c2, rfl⟩⟩; refine ⟨rfl, ?_⟩; conv => whnf)
    | (refine CallX.of (s104 n L hL _ ?_ ?_ _ _ ?_ ?_ ?_) [(1000000, 1000000)] rfl ⟨SV.le_refl _, SV.le_refl _, SV.le_refl _, trivial⟩ ⟨Res.le_refl _, trivial⟩ rfl rfl ?_; rotate_right; rintro x rout ⟨⟨u5, hk1, hk2, rfl⟩, ⟨c, c1, c2, rfl⟩⟩; refine ⟨rfl, ?_⟩; conv => whnf)
    | (refine br_intro (fun hb => ?_) (fun hb => ?_) <;> (try simp only [decide_eq_true_eq, decide_eq_false_iff_not, Bool.not_eq_true', Bool.not_eq_false', Bool.and_eq_true, Bool.or_eq_true, beq_iff_eq, not_and, Int.not_le, Int.not_lt, Int.toNat_natCast, beq_eq_false_iff_ne, ne_eq, eq_self, not_true_eq_false, not_false_eq_true] at hb) <;> (conv => whnf))
    | omega
    | (refine And.intro ?_ ?_; ((try dsimp only); first | omega | (refine ⟨by omega, by omega, Int.le_trans (Int.mul_le_mul_of_nonneg_right (Int.ofNat_le.2 (Nat.le_of_ble_eq_true (rfl : Nat.ble _ 1024 = true))) (by omega)) (by omega), by omega⟩) | (refine Nat.le_trans (Nat.mul_le_mul_left _ (Nat.le_of_ble_eq_true (rfl : Nat.ble _ 1024 = true))) ?_; omega) | (unfold inI64; omega) | (constructor <;> omega) | (simp only [inI64, List.length_cons, List.length_append, List.length_nil, List.length_set] at *; omega) | decide | (unfold inI64; decide)); conv => whnf)
    | omega | decide | assumption)
  all_goals
    refine .ret _ ?_
    conv => whnf
    exact ⟨[(1000000, strm n L _)], ⟨⟨⟨_, _, _, _⟩, rfl⟩, _, by omega, by omega, rfl⟩, Res.le_refl _, trivial⟩
end Go.Proofs.Ytnkdlkgannnfhaa
namespace Go.Proofs
open Go.Shelf
def Try.laysGrowE_ren : Go.Shelf.Ren := ⟨fun | 4 => 69 | n => n, fun | 22 => 73 | 25 => 77 | 3 => 3 | 4 => 4 | 9 => 9 | 20 => 20 | 0 => 0 | n => n, fun | n => n⟩
theorem Try.laysGrowE : Go.Proofs.Lays8.n4 Try.prog Try.laysGrowE_ren := {
  mixed := by kernel_rfl
  f4 := ⟨Try.f69.name, by decide, Try.func69.trans (congrArg some (by kernel_rfl))⟩
  t0 := Try.underlying0
  a0 := Try.isAgg0
  z0 := Try.sizeOf0
  v0 := Try.zeroValue0
  t3 := Try.underlying3
  a3 := Try.isAgg3
  z3 := Try.sizeOf3
  v3 := Try.zeroValue3
  t4 := Try.underlying4
  a4 := Try.isAgg4
  z4 := Try.sizeOf4
  v4 := Try.zeroValue4
  t9 := Try.underlying9
  a9 := Try.isAgg9
  z9 := Try.sizeOf9
  v9 := Try.zeroValue9
  t20 := Try.underlying20
  a20 := Try.isAgg20
  z20 := Try.sizeOf20
  v20 := Try.zeroValue20
  t22 := Try.underlying73
  a22 := Try.isAgg73
  z22 := Try.sizeOf73
  v22 := Try.zeroValue73 }
end Go.Proofs

set_option maxRecDepth 20000
namespace Go.Proofs.Ytnkdlkgannnfhaa
open Go Go.Eng Go.RowKit
structure Ent where
  tm : Int
  desk : List UInt8
  no : Int
  words : List UInt8
def enF : Ent → List DV := fun x => [.int .i64 x.tm, .str x.desk, .int .i64 x.no, .str x.words]
def en0 : Ent := ⟨0, [], 0, []⟩
abbrev ents (l : List Ent) : DV := seqD 4 enF en0 l
-- slices.Grow of entries, from nil
theorem sGrowE (n : Nat) (hn : n ≤ 2^20) : FSpec Try.prog 69 [.d .nilsl, .d (.int .i64 n)] [] (fun y r => y = .buf 1000001 ∧ r = [(1000001, .buf 77 4 0 fun _ => [])]) := by
  refine FSpec.ofRow (by decide) Try.call69 (fun G β w vs _ hl hd => ?_)
  match vs, hl with
  | [u, v], _ =>
    have hu := hd 0 _ _ rfl rfl
    have hv := hd 1 _ _ rfl rfl
    cases hu with | d _ _ hu => cases hu with | nilsl =>
    cases hv with | d _ _ hv => cases hv with | int _ _ =>
    by_cases h0 : n = 0
    · subst h0
      refine (Go.Proofs.Any8.slices_Grow_room Go.Proofs.Try.laysGrowE none 0 0 0 w (by decide) (by decide) (by decide) (by decide)).mono ?_
      rintro e w' ⟨rfl, rfl⟩
      exact ⟨Below.refl _ _, _, rfl, .inl rfl⟩
    · obtain ⟨_, inf, hi, hsz, hby, hz⟩ := hT.get (t := 77) (i := (T 77).get rfl) rfl
      have hg1 := grownCap_ge w (0 + n) 0 77
      have hg2 := grownCap_le_maxLen w (0 + n) 0 77 (by simp only [maxLen]; omega)
      refine (Go.Proofs.Any8.slices_Grow_grow Go.Proofs.Try.laysGrowE inf _ hi hz (by rw [hsz]; decide) none 0 0 n [] w (Nat.le_refl _) (by omega) (by rw [hby]; show (0 + n) * 48 ≤ _; omega) (by omega) (by simp) (fun _ => rfl) (fun a h => by cases h)).mono ?_
      rintro e w' ⟨rfl, rfl⟩
      refine ⟨⟨rfl, rfl, rfl, ?_, fun b hb => ?_⟩, _, rfl, .inr ⟨_, _, _, rfl, Nat.le_refl _, Array.getElem?_push_size, hg2, ?_⟩⟩
      · show w.heap.size ≤ (w.heap.push _).size
        rw [Array.size_push]; omega
      · show (w.heap.push _)[b]? = w.heap[b]?
        rw [Array.getElem?_push]; exact if_neg (by omega)
      · rw [Array.size_append, Array.size_append, size_zeroCells, size_zeroCells]
        show 0 + (0 + n - 0) * 4 + (grownCap w (0 + n) 0 77 - (0 + n)) * 4 = grownCap w (0 + n) 0 77 * 4
        omega
end Go.Proofs.Ytnkdlkgannnfhaa
set_option maxRecDepth 20000
namespace Go.Proofs.Ytnkdlkgannnfhaa
open Go Go.Eng
def esF : List Ent → List DV := fun l => [ents l]
abbrev entss (l : List (List Ent)) : DV := seqD 1 esF [] l
def lensE (l : List (List Ent)) : Nat := (l.map List.length).sum
theorem lensE_take {l : List (List Ent)} {i : Nat} (h : i < l.length) : lensE (l.take (i + 1)) = lensE (l.take i) + (l.getD i []).length := by
  unfold lensE; rw [take_snocD (d := []) h]; simp
theorem lensE_le {l : List (List Ent)} {i : Nat} : lensE (l.take i) ≤ lensE l := by
  have h := congrArg lensE (List.take_append_drop i l)
  have h2 : lensE (l.take i ++ l.drop i) = lensE (l.take i) + lensE (l.drop i) := by unfold lensE; rw [List.map_append, List.sum_append]
  omega
theorem flat_lenE (l : List (List Ent)) : l.flatten.length = lensE l := by
  unfold lensE; rw [List.length_flatten]
-- slices.Concat of entries
theorem sConcatE (l : List (List Ent)) (hl : l.length ≤ 2^20) (hn : lensE l ≤ 2^20) :
    FSpec Try.prog 49 [.d (entss l)] [] (fun y r => y = .buf 6 ∧ r = [(6, seqB 77 4 enF en0 l.flatten)]) := by
  refine spec_of hT (C := []) Try.func49 rfl Try.call49 rfl rfl rfl ?_
  conv => whnf
  refine LoopX.rule hT (C := []) (ι := Nat) (fun i => i ≤ l.length) (fun i => mkSt [(0, .d (entss l)), (3, .d (.int .i64 (lensE (l.take i)))), (9, .d (entss l)), (10, .d (.int .i64 l.length)), (11, .d (.int .i64 i))] []) (fun i => l.length - i) 0 (by omega) (by refine Entails.mk' [] rfl rfl ?_ ?_ <;> repeat' (first | exact True.intro | exact SV.le_refl _ | exact Res.le_refl _ | exact SV.le_int (by omega) | exact SV.le_any _ | refine And.intro ?_ ?_)) ?_
  rintro i p1
  have e1 : (i : Int).toNat = i := Int.toNat_natCast i
  have hls : lensE (l.take i) ≤ lensE l := lensE_le
  have hls2 : i < l.length → lensE (l.take i) + (l.getD (i : Int).toNat []).length ≤ lensE l := fun h => by rw [e1, ← lensE_take h]; exact lensE_le
  conv => whnf
  repeat' (first
    | (refine br_intro (fun hb => ?_) (fun hb => ?_) <;> (try simp only [decide_eq_true_eq, decide_eq_false_iff_not, Bool.not_eq_true', Bool.not_eq_false', Bool.and_eq_true, Bool.or_eq_true, beq_iff_eq, not_and, Int.not_le, Int.not_lt, Int.toNat_natCast, beq_eq_false_iff_ne, ne_eq, eq_self, not_true_eq_false, not_false_eq_true] at hb) <;> (conv => whnf))
    | omega
    | (refine And.intro ?_ ?_; ((try dsimp only); first | omega | (refine ⟨by omega, by omega, Int.le_trans (Int.mul_le_mul_of_nonneg_right (Int.ofNat_le.2 (Nat.le_of_ble_eq_true (rfl : Nat.ble _ 1024 = true))) (by omega)) (by omega), by omega⟩) | (refine Nat.le_trans (Nat.mul_le_mul_left _ (Nat.le_of_ble_eq_true (rfl : Nat.ble _ 1024 = true))) ?_; omega) | (unfold inI64; omega) | (constructor <;> omega) | (simp only [inI64, List.length_cons, List.length_append, List.length_nil, List.length_set] at *; omega) | decide | (unfold inI64; decide)); conv => whnf)
    | omega | decide | assumption)
  · refine ⟨i + 1, by omega, by omega, Entails.mk' [] rfl rfl ⟨SV.le_refl _, SV.le_int ?_, SV.le_refl _, SV.le_refl _, SV.le_refl _, trivial⟩ trivial⟩
    rw [lensE_take (by omega), e1]; omega
  have hi : i = l.length := by omega
  subst hi
  rw [List.take_length] at *
  refine CallX.of (sGrowE (lensE l) hn) [(1000001, 24)] rfl ⟨SV.le_refl _, SV.le_refl _, trivial⟩ trivial rfl rfl ?_
  rintro x rout ⟨rfl, rfl⟩
  refine ⟨rfl, ?_⟩
  conv => whnf
  repeat' (first
    | (refine br_intro (fun hb => ?_) (fun hb => ?_) <;> (try simp only [decide_eq_true_eq, decide_eq_false_iff_not, Bool.not_eq_true', Bool.not_eq_false', Bool.and_eq_true, Bool.or_eq_true, beq_iff_eq, not_and, Int.not_le, Int.not_lt, Int.toNat_natCast, beq_eq_false_iff_ne, ne_eq, eq_self, not_true_eq_false, not_false_eq_true] at hb) <;> (conv => whnf))
    | omega
    | (refine And.intro ?_ ?_; ((try dsimp only); first | omega | (refine ⟨by omega, by omega, Int.le_trans (Int.mul_le_mul_of_nonneg_right (Int.ofNat_le.2 (Nat.le_of_ble_eq_true (rfl : Nat.ble _ 1024 = true))) (by omega)) (by omega), by omega⟩) | (refine Nat.le_trans (Nat.mul_le_mul_left _ (Nat.le_of_ble_eq_true (rfl : Nat.ble _ 1024 = true))) ?_; omega) | (unfold inI64; omega) | (constructor <;> omega) | (simp only [inI64, List.length_cons, List.length_append, List.length_nil, List.length_set] at *; omega) | decide | (unfold inI64; decide)); conv => whnf)
    | omega | decide | assumption)
  refine LoopX.rule hT (C := []) (ι := Nat) (fun i => i ≤ l.length) (fun i => mkSt [(6, .buf 6), (25, .d (entss l)), (26, .d (.int .i64 l.length)), (27, .d (.int .i64 i))] [(6, seqB 77 4 enF en0 (l.take i).flatten)]) (fun i => l.length - i) 0 (by omega) ?_ ?_
  · exact Entails.mk' [(6, 24)] rfl rfl ⟨SV.le_refl _, SV.le_refl _, SV.le_refl _, SV.le_refl _, trivial⟩ ⟨Res.le_buf rfl (fun i hi => absurd hi (by omega)), trivial⟩
  rintro i p1
  have e1 : (i : Int).toNat = i := Int.toNat_natCast i
  have hls : lensE (l.take i) ≤ lensE l := lensE_le
  have hf := flat_lenE (l.take i)
  have hls2 : (i : Int) < l.length → (l.take i).flatten.length + (l.getD (i : Int).toNat []).length ≤ 2^20 := fun h => by rw [e1, hf, ← lensE_take (by omega)]; exact Nat.le_trans lensE_le hn
  conv => whnf
  repeat' (first
    | (refine br_intro (fun hb => ?_) (fun hb => ?_) <;> (try simp only [decide_eq_true_eq, decide_eq_false_iff_not, Bool.not_eq_true', Bool.not_eq_false', Bool.and_eq_true, Bool.or_eq_true, beq_iff_eq, not_and, Int.not_le, Int.not_lt, Int.toNat_natCast, beq_eq_false_iff_ne, ne_eq, eq_self, not_true_eq_false, not_false_eq_true] at hb) <;> (conv => whnf))
    | omega
    | (refine And.intro ?_ ?_; ((try dsimp only); first | omega | (refine ⟨by omega, by omega, Int.le_trans (Int.mul_le_mul_of_nonneg_right (Int.ofNat_le.2 (Nat.le_of_ble_eq_true (rfl : Nat.ble _ 1024 = true))) (by omega)) (by omega), by omega⟩) | (refine Nat.le_trans (Nat.mul_le_mul_left _ (Nat.le_of_ble_eq_true (rfl : Nat.ble _ 1024 = true))) ?_; omega) | (unfold inI64; omega) | (constructor <;> omega) | (simp only [inI64, List.length_cons, List.length_append, List.length_nil, List.length_set] at *; omega) | decide | (unfold inI64; decide)); conv => whnf)
    | omega | decide | assumption)
  · have e2 : (l.take (i + 1)).flatten = (l.take i).flatten ++ l.getD (i : Int).toNat [] := by rw [take_snocD (d := []) (by omega), e1]; simp
    refine ⟨i + 1, by omega, by omega, Entails.mk' [(6, 33)] rfl rfl ⟨SV.le_refl _, SV.le_refl _, SV.le_refl _, SV.le_refl _, trivial⟩ ⟨?_, trivial⟩⟩
    rw [e2]; exact Res.le_appF
  · have hi : i = l.length := by omega
    subst hi
    refine .ret _ ?_
    conv => whnf
    refine ⟨_, ⟨rfl, rfl⟩, ?_, trivial⟩
    rw [List.take_length]; exact Res.le_refl _
def e1 : Ent := ⟨1, [100], 1, [120]⟩
theorem sPrinted1 : FSpec Try.prog 68 [.d (.str [120])] [] (fun x r => x = .d (.bool true) ∧ r = []) := by
  refine spec_of hT (C := []) Try.func68 rfl Try.call68 rfl rfl rfl ?_
  conv => whnf
  repeat' (first
    | (refine LoopX.run hT (C := []) 4 rfl [0, 5, 6] [] (fun _ _ h => h) (fun _ h => h) ?_; conv => whnf)
    | (refine br_intro (fun hb => ?_) (fun hb => ?_) <;> (try simp only [decide_eq_true_eq, decide_eq_false_iff_not, Bool.not_eq_true', Bool.not_eq_false', Bool.and_eq_true, Bool.or_eq_true, beq_iff_eq, not_and, Int.not_le, Int.not_lt, Int.toNat_natCast, beq_eq_false_iff_ne, ne_eq, eq_self, not_true_eq_false, not_false_eq_true] at hb) <;> (conv => whnf))
    | omega
    | (refine And.intro ?_ ?_; ((try dsimp only); first | omega | (refine ⟨by omega, by omega, Int.le_trans (Int.mul_le_mul_of_nonneg_right (Int.ofNat_le.2 (Nat.le_of_ble_eq_true (rfl : Nat.ble _ 1024 = true))) (by omega)) (by omega), by omega⟩) | (refine Nat.le_trans (Nat.mul_le_mul_left _ (Nat.le_of_ble_eq_true (rfl : Nat.ble _ 1024 = true))) ?_; omega) | (unfold inI64; omega) | (constructor <;> omega) | (simp only [inI64, List.length_cons, List.length_append, List.length_nil, List.length_set] at *; omega) | decide | (unfold inI64; decide)); conv => whnf)
    | omega | decide | assumption)
  refine .ret _ ?_
  conv => whnf
  refine ⟨[], ⟨?_, rfl⟩, trivial⟩
  conv => lhs; whnf
-- desk.Check, of one entry
set_option maxHeartbeats 4000000 in
theorem sDChk1 : FSpec Try.prog 48 [.d (ents [e1])] [] (fun x r => x = .d (.int .i64 0) ∧ r = []) := by
  have h108 := s108 [100] (by simp)
  rw [show isKeyB [100] = true from by decide] at h108
  refine spec_of hT (C := []) Try.func48 rfl Try.call48 rfl rfl rfl ?_
  conv => whnf
  repeat' (first
    | (refine LoopX.run hT (C := []) 10 rfl [0, 3, 11, 12, 13] [] (fun _ _ h => h) (fun _ h => h) ?_; conv => whnf)
    | (refine CallX.exact (s154 1) rfl rfl ?_; rotate_right; conv => whnf)
    | (refine CallX.exact (h108) rfl rfl ?_; rotate_right; conv => whnf)
    | (refine CallX.exact (s119 1 1 1000000) rfl rfl ?_; rotate_right; conv => whnf)
    | (refine CallX.exact (sPrinted1) rfl rfl ?_; rotate_right; conv => whnf)
    | (refine br_intro (fun hb => ?_) (fun hb => ?_) <;> (try simp only [decide_eq_true_eq, decide_eq_false_iff_not, Bool.not_eq_true', Bool.not_eq_false', Bool.and_eq_true, Bool.or_eq_true, beq_iff_eq, not_and, Int.not_le, Int.not_lt, Int.toNat_natCast, beq_eq_false_iff_ne, ne_eq, eq_self, not_true_eq_false, not_false_eq_true] at hb) <;> (conv => whnf))
    | (refine RegX.rule (id := 16) hT rfl [] [(0, []), (1, []), (2, []), (3, []), (4, [3]), (5, [3]), (6, []), (7, []), (8, [3, 4, 5, 6, 7]), (9, []), (10, []), (11, []), (12, [])] (by decide +kernel) ?_; conv => whnf)
    | omega
    | (refine And.intro ?_ ?_; ((try dsimp only); first | omega | (refine ⟨by omega, by omega, Int.le_trans (Int.mul_le_mul_of_nonneg_right (Int.ofNat_le.2 (Nat.le_of_ble_eq_true (rfl : Nat.ble _ 1024 = true))) (by omega)) (by omega), by omega⟩) | (refine Nat.le_trans (Nat.mul_le_mul_left _ (Nat.le_of_ble_eq_true (rfl : Nat.ble _ 1024 = true))) ?_; omega) | (unfold inI64; omega) | (constructor <;> omega) | (simp only [inI64, List.length_cons, List.length_append, List.length_nil, List.length_set] at *; omega) | decide | (unfold inI64; decide)); conv => whnf)
    | omega | decide | assumption)
  refine .ret _ ?_
  conv => whnf
  refine ⟨[], ⟨?_, rfl⟩, trivial⟩
  conv => lhs; whnf
theorem sDChk0 : FSpec Try.prog 48 [.d (ents [])] [] (fun x r => x = .d (.int .i64 0) ∧ r = []) := by
  refine spec_of hT (C := []) Try.func48 rfl Try.call48 rfl rfl rfl ?_
  conv => whnf
  repeat' (first
    | (refine LoopX.run hT (C := []) 10 rfl [0, 3, 11, 12, 13] [] (fun _ _ h => h) (fun _ h => h) ?_; conv => whnf)
    | (refine br_intro (fun hb => ?_) (fun hb => ?_) <;> (try simp only [decide_eq_true_eq, decide_eq_false_iff_not, Bool.not_eq_true', Bool.not_eq_false', Bool.and_eq_true, Bool.or_eq_true, beq_iff_eq, not_and, Int.not_le, Int.not_lt, Int.toNat_natCast, beq_eq_false_iff_ne, ne_eq, eq_self, not_true_eq_false, not_false_eq_true] at hb) <;> (conv => whnf))
    | (refine RegX.rule (id := 16) hT rfl [] [(0, []), (1, []), (2, []), (3, []), (4, [3]), (5, [3]), (6, []), (7, []), (8, [3, 4, 5, 6, 7]), (9, []), (10, []), (11, []), (12, [])] (by decide +kernel) ?_; conv => whnf)
    | omega
    | (refine And.intro ?_ ?_; ((try dsimp only); first | omega | (refine ⟨by omega, by omega, Int.le_trans (Int.mul_le_mul_of_nonneg_right (Int.ofNat_le.2 (Nat.le_of_ble_eq_true (rfl : Nat.ble _ 1024 = true))) (by omega)) (by omega), by omega⟩) | (refine Nat.le_trans (Nat.mul_le_mul_left _ (Nat.le_of_ble_eq_true (rfl : Nat.ble _ 1024 = true))) ?_; omega) | (unfold inI64; omega) | (constructor <;> omega) | (simp only [inI64, List.length_cons, List.length_append, List.length_nil, List.length_set] at *; omega) | decide | (unfold inI64; decide)); conv => whnf)
    | omega | decide | assumption)
  refine .ret _ ?_
  conv => whnf
  refine ⟨[], ⟨?_, rfl⟩, trivial⟩
  conv => lhs; whnf
abbrev enB (l : List Ent) : Res := seqB 77 4 enF en0 l
theorem sIns1 : FSpec Try.prog 75 [.buf 1000001, .d (.int .i64 0), .d (.int .i64 1), .fn 51 []] [(1000001, enB [e1])] (fun y r => y = .tup [] ∧ r = [(1000001, enB [e1])]) := by
  refine spec_of hT (C := []) Try.func75 rfl Try.call75 rfl rfl rfl ?_
  conv => whnf
  repeat' (first
    | (refine LoopX.run hT (C := []) 2 rfl [0, 1, 2, 3, 8] [1000001] (fun _ _ h => h) (fun _ h => h) ?_; conv => whnf)
    | (refine LoopX.run hT (C := []) 8 rfl [0, 1, 2, 3, 8, 9] [1000001] (fun _ _ h => h) (fun _ h => h) ?_; conv => whnf)
    | (refine br_intro (fun hb => ?_) (fun hb => ?_) <;> (try simp only [decide_eq_true_eq, decide_eq_false_iff_not, Bool.not_eq_true', Bool.not_eq_false', Bool.and_eq_true, Bool.or_eq_true, beq_iff_eq, not_and, Int.not_le, Int.not_lt, Int.toNat_natCast, beq_eq_false_iff_ne, ne_eq, eq_self, not_true_eq_false, not_false_eq_true] at hb) <;> (conv => whnf))
    | (refine RegX.rule (id := 4) hT rfl [] [(0, []), (1, [0]), (2, []), (3, []), (4, []), (5, [4]), (6, [4, 5]), (7, [4]), (8, [4]), (9, [4, 5, 6, 7, 8]), (10, [4, 5, 6, 7, 8, 9]), (11, [4, 5, 6, 7, 8, 9]), (12, [4, 5, 6, 7, 8]), (13, [4, 5, 6, 7, 8]), (14, []), (15, []), (16, [])] (by decide +kernel) ?_; conv => whnf)
    | (refine RegX.rule (id := 6) hT rfl [] [(0, []), (1, [0]), (2, [0, 1]), (3, [0, 1, 2]), (4, [0, 1, 2]), (5, [0, 1, 2, 3, 4]), (6, [0, 1, 2, 3, 4, 5]), (7, [0, 1, 2, 3, 4, 5]), (8, [0, 1, 2, 3, 4]), (9, [0, 1, 2, 3, 4]), (10, [0, 1, 2, 3, 4, 5, 6, 7, 8, 9]), (11, [0, 1, 2, 3, 4, 5, 6, 7, 8, 9, 10]), (12, [0, 1, 2, 3, 4, 5, 6, 7, 8, 9]), (13, [0, 1, 2, 3, 4, 5, 6, 7, 8, 9]), (14, [2, 3, 4]), (15, [2, 3, 4]), (16, []), (17, [])] (by decide +kernel) ?_; conv => whnf)
    | omega
    | (refine And.intro ?_ ?_; ((try dsimp only); first | omega | (refine ⟨by omega, by omega, Int.le_trans (Int.mul_le_mul_of_nonneg_right (Int.ofNat_le.2 (Nat.le_of_ble_eq_true (rfl : Nat.ble _ 1024 = true))) (by omega)) (by omega), by omega⟩) | (refine Nat.le_trans (Nat.mul_le_mul_left _ (Nat.le_of_ble_eq_true (rfl : Nat.ble _ 1024 = true))) ?_; omega) | (unfold inI64; omega) | (constructor <;> omega) | (simp only [inI64, List.length_cons, List.length_append, List.length_nil, List.length_set] at *; omega) | decide | (unfold inI64; decide)); conv => whnf)
    | omega | decide | assumption)
  refine .ret _ ?_
  conv => whnf
  exact ⟨_, ⟨rfl, rfl⟩, Res.le_refl _, trivial⟩
theorem sStb1 : FSpec Try.prog 70 [.buf 1000001, .d (.int .i64 1), .fn 51 []] [(1000001, enB [e1])] (fun y r => y = .tup [] ∧ r = [(1000001, enB [e1])]) := by
  refine spec_of hT (C := []) Try.func70 rfl Try.call70 rfl rfl rfl ?_
  conv => whnf
  repeat' (first
    | (refine LoopX.run hT (C := []) 4 rfl [0, 1, 2, 6, 7, 8] [1000001] (fun _ _ h => h) (fun _ h => h) ?_; conv => whnf)
    | (refine LoopX.run hT (C := []) 14 rfl [0, 1, 2, 6] [1000001] (fun _ _ h => h) (fun _ h => h) ?_; conv => whnf)
    | (refine LoopX.run hT (C := []) 18 rfl [0, 1, 2, 6, 7, 8] [1000001] (fun _ _ h => h) (fun _ h => h) ?_; conv => whnf)
    | (refine CallX.of sIns1 [(1000001, 1000001)] rfl ⟨SV.le_refl _, SV.le_refl _, SV.le_refl _, SV.le_refl _, trivial⟩ ⟨Res.le_refl _, trivial⟩ rfl rfl ?_; rintro x rout ⟨rfl, rfl⟩; refine ⟨rfl, ?_⟩; conv => whnf)
    | (refine br_intro (fun hb => ?_) (fun hb => ?_) <;> (try simp only [decide_eq_true_eq, decide_eq_false_iff_not, Bool.not_eq_true', Bool.not_eq_false', Bool.and_eq_true, Bool.or_eq_true, beq_iff_eq, not_and, Int.not_le, Int.not_lt, Int.toNat_natCast, beq_eq_false_iff_ne, ne_eq, eq_self, not_true_eq_false, not_false_eq_true] at hb) <;> (conv => whnf))
    | omega
    | (refine And.intro ?_ ?_; ((try dsimp only); first | omega | (refine ⟨by omega, by omega, Int.le_trans (Int.mul_le_mul_of_nonneg_right (Int.ofNat_le.2 (Nat.le_of_ble_eq_true (rfl : Nat.ble _ 1024 = true))) (by omega)) (by omega), by omega⟩) | (refine Nat.le_trans (Nat.mul_le_mul_left _ (Nat.le_of_ble_eq_true (rfl : Nat.ble _ 1024 = true))) ?_; omega) | (unfold inI64; omega) | (constructor <;> omega) | (simp only [inI64, List.length_cons, List.length_append, List.length_nil, List.length_set] at *; omega) | decide | (unfold inI64; decide)); conv => whnf)
    | omega | decide | assumption)
  refine .ret _ ?_
  conv => whnf
  exact ⟨_, ⟨rfl, rfl⟩, Res.le_refl _, trivial⟩
theorem sSrt1 : FSpec Try.prog 50 [.buf 1000001, .fn 51 []] [(1000001, enB [e1])] (fun y r => y = .tup [] ∧ r = [(1000001, enB [e1])]) := by
  refine spec_of hT (C := []) Try.func50 rfl Try.call50 rfl rfl rfl ?_
  conv => whnf
  repeat' (first
    | (refine CallX.of sStb1 [(1000001, 1000001)] rfl ⟨SV.le_refl _, SV.le_refl _, SV.le_refl _, trivial⟩ ⟨Res.le_refl _, trivial⟩ rfl rfl ?_; rintro x rout ⟨rfl, rfl⟩; refine ⟨rfl, ?_⟩; conv => whnf)
    | (refine br_intro (fun hb => ?_) (fun hb => ?_) <;> (try simp only [decide_eq_true_eq, decide_eq_false_iff_not, Bool.not_eq_true', Bool.not_eq_false', Bool.and_eq_true, Bool.or_eq_true, beq_iff_eq, not_and, Int.not_le, Int.not_lt, Int.toNat_natCast, beq_eq_false_iff_ne, ne_eq, eq_self, not_true_eq_false, not_false_eq_true] at hb) <;> (conv => whnf))
    | omega
    | (refine And.intro ?_ ?_; ((try dsimp only); first | omega | (refine ⟨by omega, by omega, Int.le_trans (Int.mul_le_mul_of_nonneg_right (Int.ofNat_le.2 (Nat.le_of_ble_eq_true (rfl : Nat.ble _ 1024 = true))) (by omega)) (by omega), by omega⟩) | (refine Nat.le_trans (Nat.mul_le_mul_left _ (Nat.le_of_ble_eq_true (rfl : Nat.ble _ 1024 = true))) ?_; omega) | (unfold inI64; omega) | (constructor <;> omega) | (simp only [inI64, List.length_cons, List.length_append, List.length_nil, List.length_set] at *; omega) | decide | (unfold inI64; decide)); conv => whnf)
    | omega | decide | assumption)
  refine .ret _ ?_
  conv => whnf
  exact ⟨_, ⟨rfl, rfl⟩, Res.le_refl _, trivial⟩
theorem sCmp1 : FSpec Try.prog 55 [.buf 1000001] [(1000001, enB [e1])] (fun y r => y = .buf 1000001 ∧ r = [(1000001, enB [e1])]) := by
  refine spec_of hT (C := []) Try.func55 rfl Try.call55 rfl rfl rfl ?_
  conv => whnf
  repeat' (first
    | (refine br_intro (fun hb => ?_) (fun hb => ?_) <;> (try simp only [decide_eq_true_eq, decide_eq_false_iff_not, Bool.not_eq_true', Bool.not_eq_false', Bool.and_eq_true, Bool.or_eq_true, beq_iff_eq, not_and, Int.not_le, Int.not_lt, Int.toNat_natCast, beq_eq_false_iff_ne, ne_eq, eq_self, not_true_eq_false, not_false_eq_true] at hb) <;> (conv => whnf))
    | (refine RegX.rule (id := 6) hT rfl [] [(0, []), (1, [0]), (2, []), (3, []), (4, [0, 1, 2, 3]), (5, [0, 1, 2, 3, 4]), (6, [0, 1, 2, 3, 4]), (7, [0, 1, 2, 3]), (8, [0, 1, 2, 3]), (9, [])] (by decide +kernel) ?_; conv => whnf)
    | (refine RegX.rule (id := 11) hT rfl [] [(0, []), (1, [0]), (2, []), (3, []), (4, [0, 1, 2, 3]), (5, [0, 1, 2, 3, 4]), (6, [0, 1, 2, 3, 4]), (7, [0, 1, 2, 3]), (8, [0, 1, 2, 3]), (9, [])] (by decide +kernel) ?_; conv => whnf)
    | omega
    | (refine And.intro ?_ ?_; ((try dsimp only); first | omega | (refine ⟨by omega, by omega, Int.le_trans (Int.mul_le_mul_of_nonneg_right (Int.ofNat_le.2 (Nat.le_of_ble_eq_true (rfl : Nat.ble _ 1024 = true))) (by omega)) (by omega), by omega⟩) | (refine Nat.le_trans (Nat.mul_le_mul_left _ (Nat.le_of_ble_eq_true (rfl : Nat.ble _ 1024 = true))) ?_; omega) | (unfold inI64; omega) | (constructor <;> omega) | (simp only [inI64, List.length_cons, List.length_append, List.length_nil, List.length_set] at *; omega) | decide | (unfold inI64; decide)); conv => whnf)
    | omega | decide | assumption)
  refine .ret _ ?_
  conv => whnf
  exact ⟨_, ⟨rfl, rfl⟩, Res.le_refl _, trivial⟩
-- desk.Merge, of the try
set_option maxHeartbeats 4000000 in
theorem sMerge1 : FSpec Try.prog 27 [.d (ents [e1]), .d (ents [])] [] (fun y r => y = .tup [.d (ents [e1]), .d (.int .i64 0)] ∧ r = []) := by
  have h105 := s105 [0, 0] (by simp)
  have hc := sConcatE [[e1], []] (by simp) (by decide)
  refine spec_of hT (C := []) Try.func27 rfl Try.call27 rfl rfl rfl ?_
  conv => whnf
  repeat' (first
    | (refine CallX.exact (sDChk1) rfl rfl ?_; rotate_right; conv => whnf)
    | (refine CallX.exact (sDChk0) rfl rfl ?_; rotate_right; conv => whnf)
    | (refine CallX.pure h105 ⟨SV.le_lit (by rfl) (by rfl), trivial⟩ rfl ?_; conv => whnf)
    | (refine br_intro (fun hb => ?_) (fun hb => ?_) <;> (try simp only [decide_eq_true_eq, decide_eq_false_iff_not, Bool.not_eq_true', Bool.not_eq_false', Bool.and_eq_true, Bool.or_eq_true, beq_iff_eq, not_and, Int.not_le, Int.not_lt, Int.toNat_natCast, beq_eq_false_iff_ne, ne_eq, eq_self, not_true_eq_false, not_false_eq_true] at hb) <;> (conv => whnf))
    | omega
    | (refine And.intro ?_ ?_; ((try dsimp only); first | omega | (refine ⟨by omega, by omega, Int.le_trans (Int.mul_le_mul_of_nonneg_right (Int.ofNat_le.2 (Nat.le_of_ble_eq_true (rfl : Nat.ble _ 1024 = true))) (by omega)) (by omega), by omega⟩) | (refine Nat.le_trans (Nat.mul_le_mul_left _ (Nat.le_of_ble_eq_true (rfl : Nat.ble _ 1024 = true))) ?_; omega) | (unfold inI64; omega) | (constructor <;> omega) | (simp only [inI64, List.length_cons, List.length_append, List.length_nil, List.length_set] at *; omega) | decide | (unfold inI64; decide)); conv => whnf)
    | omega | decide | assumption)
  refine CallX.of hc [(6, 24)] rfl ⟨SV.le_lit (by rfl) (by rfl), trivial⟩ trivial rfl rfl ?_
  rintro x rout ⟨rfl, rfl⟩
  refine ⟨rfl, ?_⟩
  conv => whnf
  repeat' (first
    | (refine CallX.of sSrt1 [(1000001, 24)] rfl ⟨SV.le_refl _, SV.le_refl _, trivial⟩ ⟨Res.le_refl _, trivial⟩ rfl rfl ?_; rintro x rout ⟨rfl, rfl⟩; refine ⟨rfl, ?_⟩; conv => whnf)
    | (refine CallX.of sCmp1 [(1000001, 24)] rfl ⟨SV.le_refl _, trivial⟩ ⟨Res.le_refl _, trivial⟩ rfl rfl ?_; rintro x rout ⟨rfl, rfl⟩; refine ⟨rfl, ?_⟩; conv => whnf)
    | (refine LoopX.run hT (C := []) 18 rfl [7, 8, 30, 31, 32] [24] (fun _ _ h => h) (fun _ h => h) ?_; conv => whnf)
    | (refine br_intro (fun hb => ?_) (fun hb => ?_) <;> (try simp only [decide_eq_true_eq, decide_eq_false_iff_not, Bool.not_eq_true', Bool.not_eq_false', Bool.and_eq_true, Bool.or_eq_true, beq_iff_eq, not_and, Int.not_le, Int.not_lt, Int.toNat_natCast, beq_eq_false_iff_ne, ne_eq, eq_self, not_true_eq_false, not_false_eq_true] at hb) <;> (conv => whnf))
    | omega
    | (refine And.intro ?_ ?_; ((try dsimp only); first | omega | (refine ⟨by omega, by omega, Int.le_trans (Int.mul_le_mul_of_nonneg_right (Int.ofNat_le.2 (Nat.le_of_ble_eq_true (rfl : Nat.ble _ 1024 = true))) (by omega)) (by omega), by omega⟩) | (refine Nat.le_trans (Nat.mul_le_mul_left _ (Nat.le_of_ble_eq_true (rfl : Nat.ble _ 1024 = true))) ?_; omega) | (unfold inI64; omega) | (constructor <;> omega) | (simp only [inI64, List.length_cons, List.length_append, List.length_nil, List.length_set] at *; omega) | decide | (unfold inI64; decide)); conv => whnf)
    | omega | decide | assumption)
  refine .freeze _ 24 77 4 _ _ rfl (.weak _ ?_)
  conv => whnf
  exact ⟨.tup [.d (ents [e1]), .d (.int .i64 0)], _, SV.le_tup ⟨SV.le_refl _, SV.le_refl _, trivial⟩, ⟨rfl, rfl⟩, trivial⟩
theorem dueE_1 : dueE ⟨0, 0, 1, 0⟩ ⟨[110], [65, 65], 0, 0, 7⟩ 0 = 0 := by decide +kernel
theorem dueV_1 : dueV ⟨0, 0, 1, 0⟩ ⟨[110], [65, 65], 0, 0, 7⟩ 0 = 7 := by decide +kernel
theorem dueW_1 : dueW ⟨0, 0, 1, 0⟩ ⟨[110], [65, 65], 0, 0, 7⟩ 0 = .tup [.d (.int .i64 7), .d (.int .i64 0)] := by unfold dueW; rw [if_pos dueE_1, dueV_1]
-- ready
set_option maxHeartbeats 4000000 in
theorem sReady : FSpec Try.prog 9 [] [] (fun x r => x = .d (.bool true) ∧ r = []) := by
  have h35 := s35 3 [1, 1] (by simp)
  rw [splitF_31, if_pos rfl, splitG_31] at h35
  have hd := sDue ⟨0, 0, 1, 0⟩ ⟨[110], [65, 65], 0, 0, 7⟩ 0 ⟨by simp, by simp⟩
  rw [dueW_1] at hd
  refine spec_of hT (C := []) Try.func9 rfl Try.call9 rfl rfl rfl ?_
  conv => whnf
  repeat' (first
    | (refine CallX.pure h35 ⟨SV.le_refl _, SV.le_lit (by rfl) (by rfl), trivial⟩ rfl ?_; conv => whnf)
    | (refine CallX.exact (hd) rfl rfl ?_; rotate_right; conv => whnf)
    | (refine CallX.pure s27t ⟨SV.le_lit rfl rfl, SV.le_lit rfl rfl, trivial⟩ rfl ?_; conv => whnf)
    | (refine CallX.pure sMerge1 ⟨SV.le_lit rfl rfl, SV.le_nilS, trivial⟩ rfl ?_; conv => whnf)
    | (refine br_intro (fun hb => ?_) (fun hb => ?_) <;> (try simp only [decide_eq_true_eq, decide_eq_false_iff_not, Bool.not_eq_true', Bool.not_eq_false', Bool.and_eq_true, Bool.or_eq_true, beq_iff_eq, not_and, Int.not_le, Int.not_lt, Int.toNat_natCast, beq_eq_false_iff_ne, ne_eq, eq_self, not_true_eq_false, not_false_eq_true] at hb) <;> (conv => whnf))
    | omega
    | (refine And.intro ?_ ?_; ((try dsimp only); first | omega | (refine ⟨by omega, by omega, Int.le_trans (Int.mul_le_mul_of_nonneg_right (Int.ofNat_le.2 (Nat.le_of_ble_eq_true (rfl : Nat.ble _ 1024 = true))) (by omega)) (by omega), by omega⟩) | (refine Nat.le_trans (Nat.mul_le_mul_left _ (Nat.le_of_ble_eq_true (rfl : Nat.ble _ 1024 = true))) ?_; omega) | (unfold inI64; omega) | (constructor <;> omega) | (simp only [inI64, List.length_cons, List.length_append, List.length_nil, List.length_set] at *; omega) | decide | (unfold inI64; decide)); conv => whnf)
    | omega | decide | assumption)
  all_goals first
    | (exfalso; omega)
    | (refine .ret _ ?_
       conv => whnf
       refine ⟨[], ⟨?_, rfl⟩, trivial⟩
       conv => lhs; whnf
       all_goals rfl)
end Go.Proofs.Ytnkdlkgannnfhaa
set_option maxRecDepth 20000
namespace Go.Proofs.Ytnkdlkgannnfhaa
open Go Go.Eng
theorem firstAt_ne {f : Nat → Int} {e : Int} (h0 : e ≠ 0) (h : ∀ i, f i ≠ e) : ∀ n, firstAt f n ≠ e := by
  intro n
  induction n with
  | zero => rw [firstAt]; exact fun q => h0 q.symm
  | succ n ih => rw [firstAt]; split; exact h n; exact ih
theorem plcs_of {s : List Slt} {w : List Wnt} {l : List Plc} (hs : sltsE s = 0) (hw : wntsE w = 0) (h : placedE s w l = 0) : plcsE l = 0 := by
  obtain ⟨g, hl⟩ := placed_good hs h
  obtain ⟨w6, hwk⟩ := wnts_key hw
  unfold plcsE
  rw [if_neg (by omega)]
  refine firstAt_zero fun i hi => ?_
  have h1 := hwk i (by omega)
  obtain ⟨⟨⟨k, hk, hd⟩, _, _⟩, hv⟩ := g.ins i hi
  have hday := ((slts_bd hs).2 _ (getD_mem (x := sl0) hk)).1
  rw [hd] at hday
  unfold wntE at h1
  unfold plcE
  by_cases hi0 : 0 < i
  · obtain ⟨_, hv'⟩ := g.ins (i - 1) (by omega)
    simp only at h1 ⊢
    rw [hv, hv']
    grind
  · simp only at h1 ⊢
    rw [hv]
    grind
theorem place_cases (s : List Slt) (w : List Wnt) (b : List Bsy) (hwk : wnOk w) : ∃ (l : List Plc) (N E : Int), SV.le (placeV s w b) (.tup [.d (plcs l), .d (.int .i64 N), .d (.int .i64 E)]) ∧
    ((E ≠ 0 ∧ ∀ o, E ≠ 12 ∨ placeE s w o ≠ 0) ∨ (E = 0 ∧ plOk l ∧ placeE s w l = 0 ∧ lostE b l = 0 ∧ lostA b l = N ∧ ∀ o, placeE s w o = 0 → lostE b o = 0 → N ≤ lostA b o)) := by
  unfold placeV
  by_cases h1 : firstE [sltsE s, wntsE w, bsysE b] = 0
  · rw [if_neg (by omega)]
    have hs : sltsE s = 0 := by simp only [firstE] at h1; grind
    have hw : wntsE w = 0 := by simp only [firstE] at h1; grind
    have hb : bsysE b = 0 := by simp only [firstE] at h1; grind
    obtain ⟨k1, k2⟩ := place_best hs (wnts_key hw).1 hb (srch0 s w b) rfl
    have hp : ∀ o, placeE s w o = 0 → placedE s w o = 0 := fun o ho => by
      unfold placeE at ho
      rw [if_neg (by omega), if_neg (by omega)] at ho
      split at ho
      · omega
      · exact ho
    by_cases h2 : (srch0 s w b).2 < 0
    · rw [if_pos h2]
      refine ⟨[], _, _, SV.le_tup ⟨SV.le_nilS, SV.le_refl _, SV.le_refl _, trivial⟩, .inl ⟨by decide, fun o => .inr (fun ho => ?_)⟩⟩
      have := (k2 o (hp o ho)).1
      omega
    · rw [if_neg h2]
      obtain ⟨k3, k4⟩ := k1 (by omega)
      have hpl := plcs_of hs hw k3
      refine ⟨_, _, _, SV.le_refl _, .inr ⟨rfl, ?_, ?_, ?_, k4, fun o ho _ => (k2 o (hp o ho)).2⟩⟩
      · obtain ⟨g, hl⟩ := placed_good hs k3
        refine ⟨by have := (wnts_key hw).1; omega, fun x hx => ?_⟩
        obtain ⟨i, hi, rfl⟩ := List.mem_iff_getElem.1 hx
        obtain ⟨_, hv⟩ := g.ins i hi
        rw [List.getD_eq_getElem?_getD, List.getElem?_eq_getElem hi] at hv
        simp only [Option.getD_some] at hv
        unfold plK
        rw [hv]
        exact hwk.2 _ (getD_mem (by omega))
      · unfold placeE
        rw [if_neg (by omega), if_neg (by omega), if_neg (by omega)]; exact k3
      · unfold lostE
        simp only [firstE]
        grind
  · rw [if_pos (by omega)]
    refine ⟨[], _, _, SV.le_tup ⟨SV.le_nilS, SV.le_refl _, SV.le_refl _, trivial⟩, .inl ⟨h1, fun o => ?_⟩⟩
    left
    have n1 : sltsE s ≠ 12 := by unfold sltsE; split; decide; exact firstAt_ne (by decide) (fun i => by unfold sltE; grind) _
    have n2 : wntsE w ≠ 12 := by unfold wntsE; split; decide; exact firstAt_ne (by decide) (fun i => by unfold wntE; grind) _
    have n3 : bsysE b ≠ 12 := by unfold bsysE; split; decide; exact firstAt_ne (by decide) (fun i => by unfold bsyE; grind) _
    simp only [firstE]
    grind
-- PlacesAreBest
set_option maxHeartbeats 4000000 in
theorem p4 (n : Nat) (L : Nat → Int) (hn : n ≤ maxLen) (hl : ∀ i, -2^63 ≤ L i ∧ L i < 2^63) : FSpec Try.prog 4 [.d (.ro 1 n fun i => [.int .i64 (L i)])] [] (fun x r => x = .d (.bool true) ∧ r = []) := by
  have hL : Rok n L := ⟨hn, hl⟩
  refine spec_of hT (C := []) Try.func4 rfl Try.call4 rfl rfl rfl ?_
  conv => whnf
  repeat' (first
    | (refine CallX.of (s69 n L hL _ ?_ ?_ ) [(1000000, 20)] rfl ⟨SV.le_refl _, trivial⟩ ⟨Res.le_refl _, trivial⟩ rfl rfl ?_; rotate_right; rintro x rout ⟨⟨s, q1, rfl⟩, ⟨c, c1, c2, rfl⟩⟩; refine ⟨rfl, ?_⟩; conv => whnf)
    | (refine CallX.of (s70 n L hL _ ?_ ?_ ) [(1000000, 20)] rfl ⟨SV.le_refl _, trivial⟩ ⟨Res.le_refl _, trivial⟩ rfl rfl ?_; rotate_right; rintro x rout ⟨⟨w, q2, rfl⟩, ⟨c, c1, c2, rfl⟩⟩; refine ⟨rfl, ?_⟩; conv => whnf)
    | (refine CallX.of (s71 n L hL _ ?_ ?_ ) [(1000000, 20)] rfl ⟨SV.le_refl _, trivial⟩ ⟨Res.le_refl _, trivial⟩ rfl rfl ?_; rotate_right; rintro x rout ⟨⟨b, q3, rfl⟩, ⟨c, c1, c2, rfl⟩⟩; refine ⟨rfl, ?_⟩; conv => whnf)
    | (refine br_intro (fun hb => ?_) (fun hb => ?_) <;> (try simp only [decide_eq_true_eq, decide_eq_false_iff_not, Bool.not_eq_true', Bool.not_eq_false', Bool.and_eq_true, Bool.or_eq_true, beq_iff_eq, not_and, Int.not_le, Int.not_lt, Int.toNat_natCast, beq_eq_false_iff_ne, ne_eq, eq_self, not_true_eq_false, not_false_eq_true] at hb) <;> (conv => whnf))
    | (refine RegX.rule (id := 8) hT rfl [] [(0, []), (1, [0]), (2, [0]), (3, [0, 1, 2]), (4, [0, 1, 2]), (5, [0, 1, 2, 3, 4]), (6, [0, 1, 2, 3, 4]), (7, [0, 1, 2]), (8, [0]), (9, [0]), (10, []), (11, [])] (by decide +kernel) ?_; conv => whnf)
    | omega
    | (refine And.intro ?_ ?_; ((try dsimp only); first | omega | (refine ⟨by omega, by omega, Int.le_trans (Int.mul_le_mul_of_nonneg_right (Int.ofNat_le.2 (Nat.le_of_ble_eq_true (rfl : Nat.ble _ 1024 = true))) (by omega)) (by omega), by omega⟩) | (refine Nat.le_trans (Nat.mul_le_mul_left _ (Nat.le_of_ble_eq_true (rfl : Nat.ble _ 1024 = true))) ?_; omega) | (unfold inI64; omega) | (constructor <;> omega) | (simp only [inI64, List.length_cons, List.length_append, List.length_nil, List.length_set] at *; omega) | decide | (unfold inI64; decide)); conv => whnf)
    | omega | decide | assumption)
  have hs : slOk s := ⟨by omega, fun _ _ => trivial⟩
  have hw : wnOk w := ⟨by have := q2.1; omega, fun x hx => by have := (q2.2 x hx).1; unfold wnK; omega⟩
  have hbk : bsOk b := ⟨by have := q3.1; omega, fun x hx => by have := q3.2 x hx; unfold bsG at this; unfold bsK; omega⟩
  have hw4 := q2.1
  have h72 := s72 s w b hs hw hbk
  obtain ⟨m, N, E, hV, hc⟩ := place_cases s w b hw
  have h72 := h72.up hV
  repeat' (first
    | (refine CallX.exact (h72) rfl rfl ?_; rotate_right; conv => whnf)
    | (refine br_intro (fun hb => ?_) (fun hb => ?_) <;> (try simp only [decide_eq_true_eq, decide_eq_false_iff_not, Bool.not_eq_true', Bool.not_eq_false', Bool.and_eq_true, Bool.or_eq_true, beq_iff_eq, not_and, Int.not_le, Int.not_lt, Int.toNat_natCast, beq_eq_false_iff_ne, ne_eq, eq_self, not_true_eq_false, not_false_eq_true] at hb) <;> (conv => whnf))
    | (refine RegX.rule (id := 8) hT rfl [] [(0, []), (1, [0]), (2, [0]), (3, [0, 1, 2]), (4, [0, 1, 2]), (5, [0, 1, 2, 3, 4]), (6, [0, 1, 2, 3, 4]), (7, [0, 1, 2]), (8, [0]), (9, [0]), (10, []), (11, [])] (by decide +kernel) ?_; conv => whnf)
    | omega
    | (refine And.intro ?_ ?_; ((try dsimp only); first | omega | (refine ⟨by omega, by omega, Int.le_trans (Int.mul_le_mul_of_nonneg_right (Int.ofNat_le.2 (Nat.le_of_ble_eq_true (rfl : Nat.ble _ 1024 = true))) (by omega)) (by omega), by omega⟩) | (refine Nat.le_trans (Nat.mul_le_mul_left _ (Nat.le_of_ble_eq_true (rfl : Nat.ble _ 1024 = true))) ?_; omega) | (unfold inI64; omega) | (constructor <;> omega) | (simp only [inI64, List.length_cons, List.length_append, List.length_nil, List.length_set] at *; omega) | decide | (unfold inI64; decide)); conv => whnf)
    | omega | decide | assumption)
  refine LoopX.rule hT (C := []) (ι := Int × List Plc × Nat) (fun (t, l, i) => (0 ≤ t ∧ t ≤ 200 + i ∧ i ≤ w.length) ∧ l.length = i ∧ ∀ x ∈ l, plK x)
    (fun (t, l, i) => mkSt [(3, .ptr 20 0), (4, .d (slts s)), (5, .d (wnts w)), (6, .d (bsys b)), (7, .d (plcs m)), (8, .d (.int .i64 N)), (9, .d (.int .i64 E)), (10, .buf 10), (35, .d (wnts w)), (36, .d (.int .i64 w.length)), (37, .d (.int .i64 i))] [(20, strm n L t), (10, plB l)])
    (fun (_, _, i) => w.length - i) (c, [], 0) ⟨⟨by show 0 ≤ c; omega, by show c ≤ 200 + ((0 : Nat) : Int); omega, Nat.zero_le _⟩, rfl, fun x hx => by cases hx⟩ ?_ ?_
  · exact (Entails.nil 10 10 50 2 (rowF plF pl0 []) rfl rfl (by decide)).trans (by (refine Entails.mk' [(20, 20), (10, 10)] rfl rfl ?_ ?_ <;> repeat' (first | exact True.intro | exact SV.le_refl _ | exact Res.le_refl _ | exact SV.le_int (by omega) | exact SV.le_any _ | refine And.intro ?_ ?_)); done)
  rintro ⟨t, l, i⟩ ⟨⟨p1, p2, p3⟩, p4, p5⟩
  have p1 : 0 ≤ t := p1
  have p2 : t ≤ 200 + i := p2
  have p3 : i ≤ w.length := p3
  have p4 : l.length = i := p4
  have p5 : ∀ x ∈ l, plK x := p5
  have e1 : (i : Int).toNat = i := Int.toNat_natCast i
  have hx := fun (h : (i : Int) < w.length) => q2.2 (w.getD (i : Int).toNat wn0) (getD_mem (by omega))
  unfold wnG at hx
  have ho : plOk l := ⟨by omega, p5⟩
  have h82 := s82 s w l hs hw ho
  have h79 := s79 b l hbk ho
  have h9 := sReady
  conv => whnf
  repeat' (first
    | (refine CallX.of (s64 n L hL _ ?_ ?_ 0 3 ?_ ?_ ?_ ?_) [(1000000, 20)] rfl ⟨SV.le_refl _, SV.le_refl _, SV.le_refl _, trivial⟩ ⟨Res.le_refl _, trivial⟩ rfl rfl ?_; rotate_right; rintro x rout ⟨⟨u, hu1, hu2, rfl⟩, ⟨c, c1, c2, rfl⟩⟩; refine ⟨rfl, ?_⟩; conv => whnf)
    | (refine br_intro (fun hb => ?_) (fun hb => ?_) <;> (try simp only [decide_eq_true_eq, decide_eq_false_iff_not, Bool.not_eq_true', Bool.not_eq_false', Bool.and_eq_true, Bool.or_eq_true, beq_iff_eq, not_and, Int.not_le, Int.not_lt, Int.toNat_natCast, beq_eq_false_iff_ne, ne_eq, eq_self, not_true_eq_false, not_false_eq_true] at hb) <;> (conv => whnf))
    | (refine RegX.rule (id := 8) hT rfl [] [(0, []), (1, [0]), (2, [0]), (3, [0, 1, 2]), (4, [0, 1, 2]), (5, [0, 1, 2, 3, 4]), (6, [0, 1, 2, 3, 4]), (7, [0, 1, 2]), (8, [0]), (9, [0]), (10, []), (11, [])] (by decide +kernel) ?_; conv => whnf)
    | omega
    | (refine And.intro ?_ ?_; ((try dsimp only); first | omega | (refine ⟨by omega, by omega, Int.le_trans (Int.mul_le_mul_of_nonneg_right (Int.ofNat_le.2 (Nat.le_of_ble_eq_true (rfl : Nat.ble _ 1024 = true))) (by omega)) (by omega), by omega⟩) | (refine Nat.le_trans (Nat.mul_le_mul_left _ (Nat.le_of_ble_eq_true (rfl : Nat.ble _ 1024 = true))) ?_; omega) | (unfold inI64; omega) | (constructor <;> omega) | (simp only [inI64, List.length_cons, List.length_append, List.length_nil, List.length_set] at *; omega) | decide | (unfold inI64; decide)); conv => whnf)
    | omega | decide | assumption)
  · have hx := hx (by omega)
    refine ⟨(_, l ++ [⟨(w.getD (i : Int).toNat wn0).v, (w.getD (i : Int).toNat wn0).fr + u⟩], i + 1), ⟨⟨by omega, ?_, by omega⟩, by simp; omega, fun x hx2 => ?_⟩, (show w.length - (i + 1) < w.length - i by omega), Entails.mk' [(20, 20), (10, 51)] rfl rfl ⟨SV.le_refl _, SV.le_refl _, SV.le_refl _, SV.le_refl _, SV.le_refl _, SV.le_refl _, SV.le_refl _, SV.le_refl _, SV.le_refl _, SV.le_refl _, SV.le_refl _, trivial⟩ ⟨Res.le_refl _, Res.le_snocF rfl, trivial⟩⟩
    · show _ ≤ 200 + ((i + 1 : Nat) : Int); omega
    · rcases List.mem_append.1 hx2 with q | q
      · exact p5 x q
      · rw [List.mem_singleton] at q; subst q; show (w.getD (i : Int).toNat wn0).v.length ≤ 2^40; omega
  · rcases hc with ⟨hE, hc⟩ | ⟨hE, hm, hm1, hm2, hm3, hc⟩
    · have hc := hc l
      generalize placeE s w l = FE at h82 hc
      generalize (if lostE b l = 0 then lostA b l else 0) = LA at h79
      generalize lostE b l = LE at h79
      repeat' (first
        | (refine CallX.freeze _ _ _ _ 10 50 2 _ _ rfl rfl ?_; refine CallX.exact h82 rfl rfl ?_; rotate_right; conv => whnf)
        | (refine CallX.exact (h79) rfl rfl ?_; rotate_right; conv => whnf)
        | (refine CallX.exact (h9) rfl rfl ?_; rotate_right; conv => whnf)
        | (refine br_intro (fun hb => ?_) (fun hb => ?_) <;> (try simp only [decide_eq_true_eq, decide_eq_false_iff_not, Bool.not_eq_true', Bool.not_eq_false', Bool.and_eq_true, Bool.or_eq_true, beq_iff_eq, not_and, Int.not_le, Int.not_lt, Int.toNat_natCast, beq_eq_false_iff_ne, ne_eq, eq_self, not_true_eq_false, not_false_eq_true] at hb) <;> (conv => whnf))
        | (refine RegX.rule (id := 8) hT rfl [] [(0, []), (1, [0]), (2, [0]), (3, [0, 1, 2]), (4, [0, 1, 2]), (5, [0, 1, 2, 3, 4]), (6, [0, 1, 2, 3, 4]), (7, [0, 1, 2]), (8, [0]), (9, [0]), (10, []), (11, [])] (by decide +kernel) ?_; conv => whnf)
        | omega
        | (refine And.intro ?_ ?_; ((try dsimp only); first | omega | (refine ⟨by omega, by omega, Int.le_trans (Int.mul_le_mul_of_nonneg_right (Int.ofNat_le.2 (Nat.le_of_ble_eq_true (rfl : Nat.ble _ 1024 = true))) (by omega)) (by omega), by omega⟩) | (refine Nat.le_trans (Nat.mul_le_mul_left _ (Nat.le_of_ble_eq_true (rfl : Nat.ble _ 1024 = true))) ?_; omega) | (unfold inI64; omega) | (constructor <;> omega) | (simp only [inI64, List.length_cons, List.length_append, List.length_nil, List.length_set] at *; omega) | decide | (unfold inI64; decide)); conv => whnf)
        | omega | decide | assumption)
      all_goals first
        | (exfalso; omega)
        | (refine .ret _ ?_
           conv => whnf
           refine ⟨[], ⟨?_, rfl⟩, trivial⟩
           conv => lhs; whnf
           all_goals rfl)
    · have hc := hc l
      have h82m := s82 s w m hs hw hm
      have h79m := s79 b m hbk hm
      rw [hm1] at h82m
      rw [hm2, if_pos rfl, hm3] at h79m
      generalize placeE s w l = FE at h82 hc
      by_cases hq : lostE b l = 0
      · rw [hq, if_pos rfl] at h79
        have hc := fun h => hc h hq
        generalize lostA b l = LA at h79 hc
        repeat' (first
          | (refine CallX.freeze _ _ _ _ 10 50 2 _ _ rfl rfl ?_; refine CallX.exact h82 rfl rfl ?_; rotate_right; conv => whnf)
          | (refine CallX.exact (h79) rfl rfl ?_; rotate_right; conv => whnf)
          | (refine CallX.exact (h82m) rfl rfl ?_; rotate_right; conv => whnf)
          | (refine CallX.exact (h79m) rfl rfl ?_; rotate_right; conv => whnf)
          | (refine CallX.exact (h9) rfl rfl ?_; rotate_right; conv => whnf)
          | (refine br_intro (fun hb => ?_) (fun hb => ?_) <;> (try simp only [decide_eq_true_eq, decide_eq_false_iff_not, Bool.not_eq_true', Bool.not_eq_false', Bool.and_eq_true, Bool.or_eq_true, beq_iff_eq, not_and, Int.not_le, Int.not_lt, Int.toNat_natCast, beq_eq_false_iff_ne, ne_eq, eq_self, not_true_eq_false, not_false_eq_true] at hb) <;> (conv => whnf))
          | (refine RegX.rule (id := 8) hT rfl [] [(0, []), (1, [0]), (2, [0]), (3, [0, 1, 2]), (4, [0, 1, 2]), (5, [0, 1, 2, 3, 4]), (6, [0, 1, 2, 3, 4]), (7, [0, 1, 2]), (8, [0]), (9, [0]), (10, []), (11, [])] (by decide +kernel) ?_; conv => whnf)
          | omega
          | (refine And.intro ?_ ?_; ((try dsimp only); first | omega | (refine ⟨by omega, by omega, Int.le_trans (Int.mul_le_mul_of_nonneg_right (Int.ofNat_le.2 (Nat.le_of_ble_eq_true (rfl : Nat.ble _ 1024 = true))) (by omega)) (by omega), by omega⟩) | (refine Nat.le_trans (Nat.mul_le_mul_left _ (Nat.le_of_ble_eq_true (rfl : Nat.ble _ 1024 = true))) ?_; omega) | (unfold inI64; omega) | (constructor <;> omega) | (simp only [inI64, List.length_cons, List.length_append, List.length_nil, List.length_set] at *; omega) | decide | (unfold inI64; decide)); conv => whnf)
          | omega | decide | assumption)
        all_goals first
          | (exfalso; omega)
          | (refine .ret _ ?_
             conv => whnf
             refine ⟨[], ⟨?_, rfl⟩, trivial⟩
             conv => lhs; whnf
             all_goals rfl)
      · rw [if_neg hq] at h79
        generalize lostE b l = LE at h79 hq
        repeat' (first
          | (refine CallX.freeze _ _ _ _ 10 50 2 _ _ rfl rfl ?_; refine CallX.exact h82 rfl rfl ?_; rotate_right; conv => whnf)
          | (refine CallX.exact (h79) rfl rfl ?_; rotate_right; conv => whnf)
          | (refine CallX.exact (h82m) rfl rfl ?_; rotate_right; conv => whnf)
          | (refine CallX.exact (h79m) rfl rfl ?_; rotate_right; conv => whnf)
          | (refine CallX.exact (h9) rfl rfl ?_; rotate_right; conv => whnf)
          | (refine br_intro (fun hb => ?_) (fun hb => ?_) <;> (try simp only [decide_eq_true_eq, decide_eq_false_iff_not, Bool.not_eq_true', Bool.not_eq_false', Bool.and_eq_true, Bool.or_eq_true, beq_iff_eq, not_and, Int.not_le, Int.not_lt, Int.toNat_natCast, beq_eq_false_iff_ne, ne_eq, eq_self, not_true_eq_false, not_false_eq_true] at hb) <;> (conv => whnf))
          | (refine RegX.rule (id := 8) hT rfl [] [(0, []), (1, [0]), (2, [0]), (3, [0, 1, 2]), (4, [0, 1, 2]), (5, [0, 1, 2, 3, 4]), (6, [0, 1, 2, 3, 4]), (7, [0, 1, 2]), (8, [0]), (9, [0]), (10, []), (11, [])] (by decide +kernel) ?_; conv => whnf)
          | omega
          | (refine And.intro ?_ ?_; ((try dsimp only); first | omega | (refine ⟨by omega, by omega, Int.le_trans (Int.mul_le_mul_of_nonneg_right (Int.ofNat_le.2 (Nat.le_of_ble_eq_true (rfl : Nat.ble _ 1024 = true))) (by omega)) (by omega), by omega⟩) | (refine Nat.le_trans (Nat.mul_le_mul_left _ (Nat.le_of_ble_eq_true (rfl : Nat.ble _ 1024 = true))) ?_; omega) | (unfold inI64; omega) | (constructor <;> omega) | (simp only [inI64, List.length_cons, List.length_append, List.length_nil, List.length_set] at *; omega) | decide | (unfold inI64; decide)); conv => whnf)
          | omega | decide | assumption)
        all_goals first
          | (exfalso; omega)
          | (refine .ret _ ?_
             conv => whnf
             refine ⟨[], ⟨?_, rfl⟩, trivial⟩
             conv => lhs; whnf
             all_goals rfl)
end Go.Proofs.Ytnkdlkgannnfhaa
