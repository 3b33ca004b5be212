/- PlansAreCheapest is proved: for every input the law returns true, and its argument reads afterwards as it read before. Conditions: those of the given row alone. -/
import Derived.Test.YteehenjdddlnnaaGreatDoorPchConOne
import Derived.Test.YteehenjdddlnnaaGreatDoorPchEngTwo
import Derived.Shelf.Small.Strs
import Derived.Test.YteehenjdddlnnaaGreatDoorProg
set_option linter.unusedVariables false
set_option linter.unusedSimpArgs false
set_option maxRecDepth 20000
namespace Go.Proofs.YteehenjdddlnnaaGreatDoor
open Go Go.Eng
def oVShH59_1 : List (Nat × List Nat) := [(0, []), (1, []), (2, []), (3, [0, 1, 2]), (4, [0, 1, 2]), (5, [0, 1, 2]), (6, []), (7, []), (8, [])]
def oVShH59_6 : List (Nat × List Nat) := [(0, []), (1, []), (2, []), (3, []), (4, [0, 1, 2, 3]), (5, [0, 1, 2, 3, 4]), (6, [0, 1, 2, 3, 4]), (7, [0, 1, 2, 3, 4]), (8, [0, 1, 2, 3, 4]), (9, [0, 1, 2, 3, 4, 5, 6, 7, 8]), (10, [0, 1, 2, 3, 4, 5, 6, 7, 8, 9]), (11, [0, 1, 2, 3, 4, 5, 6, 7, 8, 9]), (12, [0, 1, 2, 3, 4, 5, 6, 7, 8, 9]), (13, [0, 1, 2, 3, 4, 5, 6, 7, 8, 9, 10, 11, 12]), (14, [0, 1, 2, 3, 4, 5, 6, 7, 8, 9, 10, 11, 12]), (15, [0, 1, 2, 3, 4, 5, 6, 7, 8, 9, 10, 11, 12]), (16, [0, 1, 2, 3, 4, 5, 6, 7, 8, 9, 10, 11, 12]), (17, [9, 13, 14, 15, 16]), (18, [9, 13, 14, 15, 16]), (19, []), (20, [])]
def oVShH59_12 : List (Nat × List Nat) := [(0, []), (1, [0]), (2, [0]), (3, [0]), (4, [0]), (5, [0, 1, 2, 3, 4]), (6, [0, 1, 2, 3, 4, 5]), (7, [0, 1, 2, 3, 4, 5, 6]), (8, [0, 1, 2, 3, 4, 5, 6]), (9, [0, 1, 2, 3, 4]), (10, [0, 1, 2, 3, 4]), (11, [0]), (12, []), (13, []), (14, [])]
def nHas (l : List Roa) : Nat → List DV → Bool
 | 0 => fun _ => false
 | n + 1 => fun q => keyEq q [.str (l.getD n rd0).a, .str (l.getD n rd0).b] || nHas l n q
def nVal (l : List Roa) : Nat → List DV → List DV
 | 0 => fun _ => [.str [], .str [], .int .i64 0, .int .i64 0]
 | n + 1 => fun q => bif keyEq q [.str (l.getD n rd0).a, .str (l.getD n rd0).b] then rdF (l.getD n rd0) else nVal l n q
abbrev netR (l : List Roa) (n : Nat) : Res := .map true true [.str, .str] [.str [], .str [], .int .i64 0, .int .i64 0] (nHas l n) (nVal l n)
theorem s165 (l : List Roa) (hl : l.length ≤ 2^40) : FSpec Tryz.prog 55 [.d (roas l)] [] (fun y r => y = .mp 3 ∧ r = [(3, netR l l.length)]) := by
 refine spec_of hT (C := []) Tryz.func55 rfl Tryz.call55 rfl rfl rfl ?_
 conv => whnf
 refine LoopX.rule hT (C := []) (ι := Nat) (fun i => i ≤ l.length) (fun i => mkSt [(3, .mp 3), (7, .d (roas l)), (8, .d (.int .i64 l.length)), (9, .d (.int .i64 i))] [(3, netR l i)]) (fun i => l.length - i) 0 (by omega) ?_ ?_
 · exact Entails.mk' [(3, 6)] rfl rfl ⟨lr, lr, lr, lr, trivial⟩ ⟨rr, trivial⟩
 rintro i p1
 conv => whnf
 repeat' (first | (refine br_intro ?_ ?_ <;> intro hb <;> (try simp only [brs] at hb) <;> conv => whnf) | omega | (refine And.intro ?_ ?_; ((try dsimp only); first | omega | (refine szA rfl ?_; omega) | (refine szB rfl ?_; omega) | (unfold inI64; omega) | exact rfl | (simp only [lns] at *; omega) | decide | (unfold inI64; decide)); conv => whnf) | decide | assumption)
 · exact ⟨i + 1, by omega, by omega, Entails.mk' [(3, 3)] rfl rfl ⟨lr, lr, lr, lr, trivial⟩ ⟨rr, trivial⟩⟩
 · have : i = l.length := by omega
   subst this
   refine .ret _ ?_
   conv => whnf
   exact ⟨_, ⟨rfl, rfl⟩, rr, trivial⟩
structure Arc where
 fr : Int
 to : Int
 car : Int
 flow : Int
def arF : Arc → List DV := fun s => [.int .i64 s.fr, .int .i64 s.to, .int .i64 s.car, .int .i64 s.flow]
def ar0 : Arc := ⟨0, 0, 0, 0⟩
abbrev froI (l : List Int) : Res := .fro 1 l.length (rowF iF 0 l)
abbrev arcB (l : List Arc) : Res := seqB 108 4 arF ar0 l
set_option maxHeartbeats 4000000 in
theorem s114t : FSpec Tryz.prog 59 [.d (neds tN), .d (roas tR)] [] (fun y r => y = .ptr 20 0 ∧ r = [(20, .cells 106 [.buf 15, .buf 18, .buf 88]), (15, froI [1, 0]), (18, froI [0, 1]), (88, arcB [⟨0, 1, 4, 0⟩])]) := by
 refine spec_of hT (C := []) Tryz.func59 rfl Tryz.call59 rfl rfl rfl ?_
 conv => whnf
 repeat' (first | (refine CallX.of (s165 tR (by simp [tR])) [(3, 22)] rfl ⟨lr, trivial⟩ trivial rfl rfl ?_; rintro x rout ⟨rfl, rfl⟩; refine ⟨rfl, ?_⟩; conv => whnf) | (refine LoopX.run hT (C := []) 8 rfl [0, 5, 6, 23, 24, 25] [] (fun _ _ h => h) (fun _ h => h) ?_; conv => whnf) | (refine LoopX.run hT (C := []) 16 rfl [0, 5, 6, 7, 8, 23, 24, 25, 49, 50, 51] [] (fun _ _ h => h) (fun _ h => h) ?_; conv => whnf) | (refine And.intro (rfl : zrow _ = some [.str [], .str [], .int .i64 0, .int .i64 0]) ?_; conv => whnf) | (refine br_intro ?_ ?_ <;> intro hb <;> (try simp only [brs] at hb) <;> conv => whnf) | (refine RegX.rule (id := 1) hT rfl [] oVShH59_1 (by decide +kernel) ?_; conv => whnf) | (refine RegX.rule (id := 6) hT rfl [] oVShH59_6 (by decide +kernel) ?_; conv => whnf) | (refine RegX.rule (id := 12) hT rfl [] oVShH59_12 (by decide +kernel) ?_; conv => whnf) | omega | (refine And.intro ?_ ?_; ((try dsimp only); first | omega | (refine szA rfl ?_; omega) | (refine szB rfl ?_; omega) | (unfold inI64; omega) | exact rfl | (simp only [lns] at *; omega) | decide | (unfold inI64; decide)); conv => whnf) | decide | assumption)
 refine .freeze _ 15 3 1 _ _ rfl (.freeze _ 18 3 1 _ _ rfl (.ret _ ?_))
 conv => whnf
 refine ⟨_, ⟨rfl, rfl⟩, rr, Res.le_fro rfl ?_, Res.le_fro rfl ?_, Res.le_buf rfl ?_, trivial⟩
 · intro i hi
   have : i = 0 ∨ i = 1 := by simp [tN] at hi; omega
   rcases this with rfl | rfl <;> rfl
 · intro i hi
   have : i = 0 ∨ i = 1 := by simp [tN] at hi; omega
   rcases this with rfl | rfl <;> rfl
 · intro i hi
   have : i = 0 := by simp at hi; omega
   subst this; rfl
theorem s166 (l : List Int) (hl : l.length ≤ 2^20) (h0 : 0 < l.length) : FSpec Tryz.prog 80 [.d (ints l)] [] (fun y r => y = .buf 7 ∧ r = [(7, seqB 3 1 iF 0 l)]) := by
 refine spec_of hT (C := [5]) Tryz.func80 rfl Tryz.call80 rfl rfl rfl ?_
 conv => whnf
 rintro b hbn
 conv => whnf
 repeat' (first | (refine br_intro ?_ ?_ <;> intro hb <;> (try simp only [brs] at hb) <;> conv => whnf) | omega | (refine And.intro ?_ ?_; ((try dsimp only); first | omega | (refine szA rfl ?_; omega) | (refine szB rfl ?_; omega) | (unfold inI64; omega) | exact rfl | (simp only [lns] at *; omega) | decide | (unfold inI64; decide)); conv => whnf) | decide | assumption)
 · exact absurd (hbn (by assumption)) (by omega)
 · refine .ret _ ?_
   conv => whnf
   refine ⟨_, ⟨rfl, rfl⟩, Res.le_buf (by simp) (fun i hi => ?_), trivial⟩
   rw [appGet_ge (by omega)]; rfl
theorem s168e (g : Nat → List DV) : FSpec Tryz.prog 84 [.d (.ro 4 0 g)] [] (fun y r => y = .d (seqD 4 arF ar0 []) ∧ r = []) := by
 refine spec_of hT (C := [5]) Tryz.func84 rfl Tryz.call84 rfl rfl rfl ?_
 conv => whnf
 rintro b hbn
 conv => whnf
 repeat' (first | (refine br_intro ?_ ?_ <;> intro hb <;> (try simp only [brs] at hb) <;> conv => whnf) | omega | (refine And.intro ?_ ?_; ((try dsimp only); first | omega | (refine szA rfl ?_; omega) | (refine szB rfl ?_; omega) | (unfold inI64; omega) | exact rfl | (simp only [lns] at *; omega) | decide | (unfold inI64; decide)); conv => whnf) | decide | assumption)
 · refine .weak _ ?_
   conv => whnf
   exact ⟨_, [], SV.le_nilS, ⟨rfl, rfl⟩, trivial⟩
 · refine .freeze _ 7 108 4 _ _ rfl (.weak _ ?_)
   conv => whnf
   exact ⟨_, [], SV.le_ro (by simp) (fun i hi => absurd hi (by simp)), ⟨rfl, rfl⟩, trivial⟩
def oVShI81_1 : List (Nat × List Nat) := [(0, []), (1, []), (2, []), (3, []), (4, []), (5, []), (6, [0, 1, 2, 3, 4, 5]), (7, [0, 1, 2, 3, 4, 5]), (8, [0, 1, 2, 3, 4, 5]), (9, [0, 1, 2, 3, 4, 5]), (10, [0, 1, 2, 3, 4, 5]), (11, [0, 1, 2, 3, 4, 5]), (12, [6, 7, 8, 9, 10, 11]), (13, [])]
def oVShI81_15 : List (Nat × List Nat) := [(0, []), (1, [0]), (2, [0]), (3, []), (4, []), (5, []), (6, []), (7, []), (8, [7]), (9, [7]), (10, []), (11, []), (12, [7, 8, 9, 10, 11]), (13, [7, 8, 9, 10, 11]), (14, []), (15, [7, 8, 9, 10, 11, 12, 13, 14]), (16, [7, 8, 9, 10, 11, 12, 13, 14, 15]), (17, [7, 8, 9, 10, 11, 12, 13, 14, 15]), (18, [7, 8, 9, 10, 11, 12, 13, 14]), (19, [7, 8, 9, 10, 11, 12, 13, 14]), (20, []), (21, [])]
def oVShI81_16 : List (Nat × List Nat) := [(0, []), (1, [0]), (2, [0]), (3, [0, 1, 2]), (4, [0, 1, 2, 3]), (5, [0, 1, 2, 3]), (6, [0, 1, 2, 3, 4, 5]), (7, [0, 1, 2, 3, 4, 5, 6]), (8, [0, 1, 2, 3, 4, 5, 6]), (9, [0, 1, 2, 3, 4, 5]), (10, [0, 1, 2, 3, 4, 5]), (11, [0, 1, 2, 3, 4, 5, 6, 7, 8, 9, 10]), (12, [0, 1, 2, 3, 4, 5, 6, 7, 8, 9, 10]), (13, [0, 1, 2, 3, 4, 5]), (14, [0, 1, 2, 3, 4, 5, 6, 7, 8, 9, 10, 11, 12, 13]), (15, [0, 1, 2, 3, 4, 5, 6, 7, 8, 9, 10, 11, 12, 13]), (16, [3, 4, 5, 14, 15]), (17, [3, 4, 5, 14, 15]), (18, []), (19, []), (20, [])]
def oVShI81_17 : List (Nat × List Nat) := [(0, []), (1, []), (2, []), (3, []), (4, []), (5, [4]), (6, [4]), (7, []), (8, []), (9, []), (10, []), (11, []), (12, []), (13, [12]), (14, [12]), (15, []), (16, []), (17, [12, 13, 14, 15, 16]), (18, [12, 13, 14, 15, 16]), (19, []), (20, [12, 13, 14, 15, 16, 17, 18, 19]), (21, [12, 13, 14, 15, 16, 17, 18, 19, 20]), (22, [12, 13, 14, 15, 16, 17, 18, 19, 20]), (23, [12, 13, 14, 15, 16, 17, 18, 19]), (24, [12, 13, 14, 15, 16, 17, 18, 19]), (25, []), (26, [])]
def oVShI81_18 : List (Nat × List Nat) := [(0, []), (1, [0]), (2, [0]), (3, [0, 1, 2]), (4, [0, 1, 2, 3]), (5, [0, 1, 2, 3]), (6, [0, 1, 2, 3, 4, 5]), (7, [0, 1, 2, 3, 4, 5, 6]), (8, [0, 1, 2, 3, 4, 5, 6]), (9, [0, 1, 2, 3, 4, 5]), (10, [0, 1, 2, 3, 4, 5]), (11, [0, 1, 2, 3, 4, 5, 6, 7, 8, 9, 10]), (12, [0, 1, 2, 3, 4, 5, 6, 7, 8, 9, 10]), (13, [0, 1, 2, 3, 4, 5]), (14, [0, 1, 2, 3, 4, 5, 6, 7, 8, 9, 10, 11, 12, 13]), (15, [0, 1, 2, 3, 4, 5, 6, 7, 8, 9, 10, 11, 12, 13]), (16, [3, 4, 5, 14, 15]), (17, [3, 4, 5, 14, 15]), (18, []), (19, []), (20, [])]
def oVShI64_1 : List (Nat × List Nat) := [(0, []), (1, []), (2, []), (3, []), (5, [0, 1, 2, 3]), (6, [0, 1, 2, 3]), (7, [0, 1, 2, 3]), (8, [0, 1, 2, 3]), (10, [0, 1, 2, 3, 5, 6, 7, 8]), (11, [0, 1, 2, 3, 5, 6, 7, 8]), (12, [0, 1, 2, 3, 5, 6, 7, 8]), (13, [0, 1, 2, 3, 5, 6, 7, 8]), (14, [0, 1, 2, 3, 5, 6, 7, 8, 10, 11, 12, 13]), (15, [0, 1, 2, 3, 5, 6, 7, 8]), (4, [5, 6, 7, 8, 10, 11, 12, 13, 14, 15]), (9, [10, 11, 12, 13, 14, 15]), (16, []), (17, []), (18, []), (19, [])]
def stF : Int × Bool → List DV := fun s => [.int .i64 s.1, .bool s.2]
abbrev steps (l : List (Int × Bool)) : DV := seqD 2 stF (0, false) l
abbrev tpC : Res := .cells 106 [.buf 1000001, .buf 1000002, .buf 1000003]
abbrev tpB (h w : List Int) (l : List Arc) : List (Nat × Res) := [(1000000, tpC), (1000001, froI h), (1000002, froI w), (1000003, arcB l)]
abbrev tpD (h w : List Int) : List (Nat × Res) := [(1000000, .cells 106 [.buf 1000001, .buf 1000002, .d (seqD 4 arF ar0 [])]), (1000001, froI h), (1000002, froI w)]
set_option maxHeartbeats 4000000 in
theorem s167a : FSpec Tryz.prog 81 [.ptr 1000000 0, .buf 1000004] ([(1000004, seqB 3 1 iF 0 [1, 0])] ++ tpB [1, 0] [0, 1] [⟨0, 1, 4, 0⟩])
 (fun y r => y = .tup [.d (ints [0, 4]), .d (steps [(-1, false), (0, false)])] ∧ r = [(1000004, seqB 3 1 iF 0 [1, 0])] ++ tpB [1, 0] [0, 1] [⟨0, 1, 4, 0⟩]) := by
 refine spec_of hT (C := []) Tryz.func81 rfl Tryz.call81 rfl rfl rfl ?_
 conv => whnf
 repeat' (first | (refine LoopX.run hT (C := []) 6 rfl [0, 1, 4, 5, 23, 24] [1000000, 1000001, 1000002, 1000003, 1000004] (fun _ _ h => h) (fun _ h => h) ?_; conv => whnf) | (refine LoopX.run hT (C := []) 20 rfl [0, 4, 5, 7] [1000000, 1000001, 1000002, 1000003, 1000004] (fun _ _ h => h) (fun _ h => h) ?_; conv => whnf) | (refine LoopX.run hT (C := []) 26 rfl [0, 4, 5, 7, 47, 48, 49] [1000000, 1000001, 1000002, 1000003, 1000004] (fun _ _ h => h) (fun _ h => h) ?_; conv => whnf) | (refine br_intro ?_ ?_ <;> intro hb <;> (try simp only [brs] at hb) <;> conv => whnf) | (refine RegX.rule (id := 1) hT rfl [] oVShI81_1 (by decide +kernel) ?_; conv => whnf) | (refine RegX.rule (id := 15) hT rfl [] oVShI81_15 (by decide +kernel) ?_; conv => whnf) | (refine RegX.rule (id := 16) hT rfl [] oVShI81_16 (by decide +kernel) ?_; conv => whnf) | (refine RegX.rule (id := 17) hT rfl [] oVShI81_17 (by decide +kernel) ?_; conv => whnf) | (refine RegX.rule (id := 18) hT rfl [] oVShI81_18 (by decide +kernel) ?_; conv => whnf) | omega | (refine And.intro ?_ ?_; ((try dsimp only); first | omega | (refine szA rfl ?_; omega) | (refine szB rfl ?_; omega) | (unfold inI64; omega) | exact rfl | (simp only [lns] at *; omega) | decide | (unfold inI64; decide)); conv => whnf) | decide | assumption)
 refine .freeze _ 15 3 1 _ _ rfl (.freeze _ 21 139 2 _ _ rfl (.weak _ ?_))
 conv => whnf
 refine ⟨.tup [.d (ints [0, 4]), .d (steps [(-1, false), (0, false)])], _, SV.le_tup ⟨SV.le_ro rfl ?_, SV.le_ro rfl ?_, trivial⟩, ⟨rfl, rfl⟩, ?_⟩
 · intro i hi
   have : i = 0 ∨ i = 1 := by simp at hi; omega
   rcases this with rfl | rfl <;> rfl
 · intro i hi
   have : i = 0 ∨ i = 1 := by simp at hi; omega
   rcases this with rfl | rfl <;> rfl
 · refine ⟨rr, rr, rr, rr, ?_⟩
   first | exact trivial | exact ⟨rr, trivial⟩
set_option maxHeartbeats 4000000 in
theorem s167b : FSpec Tryz.prog 81 [.ptr 1000000 0, .buf 1000004] ([(1000004, seqB 3 1 iF 0 [0, 0])] ++ tpB [1, 0] [0, 1] [⟨0, 1, 4, 1⟩])
 (fun y r => y = .tup [.d (ints [1125899906842624, 1125899906842624]), .d (steps [(-1, false), (-1, false)])] ∧ r = [(1000004, seqB 3 1 iF 0 [0, 0])] ++ tpB [1, 0] [0, 1] [⟨0, 1, 4, 1⟩]) := by
 refine spec_of hT (C := []) Tryz.func81 rfl Tryz.call81 rfl rfl rfl ?_
 conv => whnf
 repeat' (first | (refine LoopX.run hT (C := []) 6 rfl [0, 1, 4, 5, 23, 24] [1000000, 1000001, 1000002, 1000003, 1000004] (fun _ _ h => h) (fun _ h => h) ?_; conv => whnf) | (refine LoopX.run hT (C := []) 20 rfl [0, 4, 5, 7] [1000000, 1000001, 1000002, 1000003, 1000004] (fun _ _ h => h) (fun _ h => h) ?_; conv => whnf) | (refine LoopX.run hT (C := []) 26 rfl [0, 4, 5, 7, 47, 48, 49] [1000000, 1000001, 1000002, 1000003, 1000004] (fun _ _ h => h) (fun _ h => h) ?_; conv => whnf) | (refine br_intro ?_ ?_ <;> intro hb <;> (try simp only [brs] at hb) <;> conv => whnf) | (refine RegX.rule (id := 1) hT rfl [] oVShI81_1 (by decide +kernel) ?_; conv => whnf) | (refine RegX.rule (id := 15) hT rfl [] oVShI81_15 (by decide +kernel) ?_; conv => whnf) | (refine RegX.rule (id := 16) hT rfl [] oVShI81_16 (by decide +kernel) ?_; conv => whnf) | (refine RegX.rule (id := 17) hT rfl [] oVShI81_17 (by decide +kernel) ?_; conv => whnf) | (refine RegX.rule (id := 18) hT rfl [] oVShI81_18 (by decide +kernel) ?_; conv => whnf) | omega | (refine And.intro ?_ ?_; ((try dsimp only); first | omega | (refine szA rfl ?_; omega) | (refine szB rfl ?_; omega) | (unfold inI64; omega) | exact rfl | (simp only [lns] at *; omega) | decide | (unfold inI64; decide)); conv => whnf) | decide | assumption)
 refine .freeze _ 15 3 1 _ _ rfl (.freeze _ 21 139 2 _ _ rfl (.weak _ ?_))
 conv => whnf
 refine ⟨.tup [.d (ints [1125899906842624, 1125899906842624]), .d (steps [(-1, false), (-1, false)])], _, SV.le_tup ⟨SV.le_ro rfl ?_, SV.le_ro rfl ?_, trivial⟩, ⟨rfl, rfl⟩, ?_⟩
 · intro i hi
   have : i = 0 ∨ i = 1 := by simp at hi; omega
   rcases this with rfl | rfl <;> rfl
 · intro i hi
   have : i = 0 ∨ i = 1 := by simp at hi; omega
   rcases this with rfl | rfl <;> rfl
 · refine ⟨rr, rr, rr, rr, ?_⟩
   first | exact trivial | exact ⟨rr, trivial⟩
set_option maxHeartbeats 4000000 in
theorem s167c : FSpec Tryz.prog 81 [.ptr 1000000 0, .buf 1000004] ([(1000004, seqB 3 1 iF 0 [0, 0])] ++ tpD [0, 0] [0, 0])
 (fun y r => y = .tup [.d (ints [1125899906842624, 1125899906842624]), .d (steps [(-1, false), (-1, false)])] ∧ r = [(1000004, seqB 3 1 iF 0 [0, 0])] ++ tpD [0, 0] [0, 0]) := by
 refine spec_of hT (C := []) Tryz.func81 rfl Tryz.call81 rfl rfl rfl ?_
 conv => whnf
 repeat' (first | (refine LoopX.run hT (C := []) 6 rfl [0, 1, 4, 5, 23, 24] [1000000, 1000001, 1000002, 1000004] (fun _ _ h => h) (fun _ h => h) ?_; conv => whnf) | (refine LoopX.run hT (C := []) 20 rfl [0, 4, 5, 7] [1000000, 1000001, 1000002, 1000004] (fun _ _ h => h) (fun _ h => h) ?_; conv => whnf) | (refine LoopX.run hT (C := []) 26 rfl [0, 4, 5, 7, 47, 48, 49] [1000000, 1000001, 1000002, 1000004] (fun _ _ h => h) (fun _ h => h) ?_; conv => whnf) | (refine br_intro ?_ ?_ <;> intro hb <;> (try simp only [brs] at hb) <;> conv => whnf) | (refine RegX.rule (id := 1) hT rfl [] oVShI81_1 (by decide +kernel) ?_; conv => whnf) | (refine RegX.rule (id := 15) hT rfl [] oVShI81_15 (by decide +kernel) ?_; conv => whnf) | (refine RegX.rule (id := 16) hT rfl [] oVShI81_16 (by decide +kernel) ?_; conv => whnf) | (refine RegX.rule (id := 17) hT rfl [] oVShI81_17 (by decide +kernel) ?_; conv => whnf) | (refine RegX.rule (id := 18) hT rfl [] oVShI81_18 (by decide +kernel) ?_; conv => whnf) | omega | (refine And.intro ?_ ?_; ((try dsimp only); first | omega | (refine szA rfl ?_; omega) | (refine szB rfl ?_; omega) | (unfold inI64; omega) | exact rfl | (simp only [lns] at *; omega) | decide | (unfold inI64; decide)); conv => whnf) | decide | assumption)
 refine .freeze _ 15 3 1 _ _ rfl (.freeze _ 21 139 2 _ _ rfl (.weak _ ?_))
 conv => whnf
 refine ⟨.tup [.d (ints [1125899906842624, 1125899906842624]), .d (steps [(-1, false), (-1, false)])], _, SV.le_tup ⟨SV.le_ro rfl ?_, SV.le_ro rfl ?_, trivial⟩, ⟨rfl, rfl⟩, ?_⟩
 · intro i hi
   have : i = 0 ∨ i = 1 := by simp at hi; omega
   rcases this with rfl | rfl <;> rfl
 · intro i hi
   have : i = 0 ∨ i = 1 := by simp at hi; omega
   rcases this with rfl | rfl <;> rfl
 · refine ⟨rr, rr, rr, rr, ?_⟩
   first | exact trivial | exact ⟨rr, trivial⟩
set_option maxHeartbeats 4000000 in
theorem s116t : FSpec Tryz.prog 64 [.ptr 1000000 0, .d (.int .i64 1), .d (.int .i64 0), .d (.int .i64 1), .d (.int .i64 1)] [(1000000, tpC), (1000001, froI [1, 0]), (1000002, froI [0, 1]), (1000003, .fro 4 1 (rowF arF ar0 [⟨0, 1, 4, 1⟩]))]
 (fun y r => y = .ptr 30 0 ∧ r = [(1000000, tpC), (1000001, froI [1, 0]), (1000002, froI [0, 1]), (1000003, .fro 4 1 (rowF arF ar0 [⟨0, 1, 4, 1⟩])), (30, .cells 106 [.buf 16, .buf 21, .d (seqD 4 arF ar0 [])]), (16, froI [0, 0]), (21, froI [0, 0])]) := by
 refine spec_of hT (C := []) Tryz.func64 rfl Tryz.call64 rfl rfl rfl ?_
 conv => whnf
 refine RegX.rule hT rfl [] oVShI64_1 (by decide +kernel) ?_
 conv => whnf
 repeat' (first | (refine CallX.of (s166 [1, 0] (by simp) (by simp)) [(7, 16)] rfl ⟨lr, trivial⟩ trivial rfl rfl ?_; rintro x rout ⟨rfl, rfl⟩; refine ⟨rfl, ?_⟩; conv => whnf) | (refine CallX.of (s166 [0, 1] (by simp) (by simp)) [(7, 21)] rfl ⟨lr, trivial⟩ trivial rfl rfl ?_; rintro x rout ⟨rfl, rfl⟩; refine ⟨rfl, ?_⟩; conv => whnf) | (refine CallX.pure (s168e _) ⟨lr, trivial⟩ rfl ?_; conv => whnf) | (refine br_intro ?_ ?_ <;> intro hb <;> (try simp only [brs] at hb) <;> conv => whnf) | (refine RegX.rule (id := 1) hT rfl [] oVShI64_1 (by decide +kernel) ?_; conv => whnf) | omega | (refine And.intro ?_ ?_; ((try dsimp only); first | omega | (refine szA rfl ?_; omega) | (refine szB rfl ?_; omega) | (unfold inI64; omega) | exact rfl | (simp only [lns] at *; omega) | decide | (unfold inI64; decide)); conv => whnf) | decide | assumption)
 refine .freeze _ 16 3 1 _ _ rfl (.freeze _ 21 3 1 _ _ rfl (.ret _ ?_))
 conv => whnf
 refine ⟨_, ⟨rfl, rfl⟩, rr, rr, rr, rr, rr, Res.le_fro rfl ?_, Res.le_fro rfl ?_, trivial⟩
 · intro i hi
   have : i = 0 ∨ i = 1 := by simp at hi; omega
   rcases this with rfl | rfl <;> rfl
 · intro i hi
   have : i = 0 ∨ i = 1 := by simp at hi; omega
   rcases this with rfl | rfl <;> rfl
def oVShJ60_1 : List (Nat × List Nat) := [(0, []), (1, []), (2, []), (3, []), (5, [0, 1, 2, 3]), (6, [0, 1, 2, 3]), (7, [0, 1, 2, 3]), (8, [0, 1, 2, 3]), (4, [5, 6, 7, 8]), (9, []), (10, []), (11, [])]
def oVShJ60_14 : List (Nat × List Nat) := [(0, []), (1, []), (2, []), (3, []), (4, [3]), (5, []), (6, []), (7, []), (8, []), (9, []), (10, []), (11, []), (12, []), (13, []), (14, [13]), (15, []), (16, []), (17, [13, 14, 15, 16]), (18, [13, 14, 15, 16, 17]), (19, [13, 14, 15, 16]), (20, [13, 14, 15, 16]), (21, []), (22, []), (23, [])]
def oVShJ60_21 : List (Nat × List Nat) := [(0, []), (1, []), (2, []), (3, []), (4, [0, 1, 2, 3]), (5, [0, 1, 2, 3, 4]), (6, [0, 1, 2, 3]), (7, [0, 1, 2, 3]), (8, [0, 1, 2, 3]), (9, []), (10, []), (11, [0, 1, 2, 3, 4, 5, 6, 7, 8, 9, 10]), (12, [])]
def oVShJ60_23 : List (Nat × List Nat) := [(0, []), (1, [0]), (2, [0]), (3, []), (4, [0, 1, 2, 3]), (5, [0, 1, 2, 3]), (6, [4, 5]), (7, [])]
def oVShJ60_31 : List (Nat × List Nat) := [(0, []), (1, []), (2, []), (3, []), (4, [0, 1, 2, 3]), (5, [0, 1, 2, 3, 4]), (6, [0, 1, 2, 3]), (7, [0, 1, 2, 3]), (8, [0, 1, 2, 3]), (9, []), (10, [])]
def oVShJ27_13 : List (Nat × List Nat) := [(0, []), (1, [0]), (2, [0]), (3, [0]), (4, [0]), (5, [0, 1, 2, 3, 4]), (6, [0, 1, 2, 3, 4]), (7, [0]), (8, [0]), (9, [0, 1, 2, 3, 4, 5, 6, 7, 8]), (10, [0, 1, 2, 3, 4, 5, 6, 7, 8]), (11, [0, 1, 2, 3, 4, 5, 6, 7, 8]), (12, [0, 1, 2, 3, 4, 5, 6, 7, 8]), (13, [0, 1, 2, 3, 4, 5, 6, 7, 8, 9, 10, 11, 12]), (14, [0, 1, 2, 3, 4, 5, 6, 7, 8, 9, 10, 11, 12]), (15, [0, 1, 2, 3, 4, 5, 6, 7, 8]), (16, [0, 1, 2, 3, 4, 5, 6, 7, 8]), (17, [0]), (18, [])]
def oVShJ27_19 : List (Nat × List Nat) := [(0, []), (1, [0]), (2, [0, 1]), (3, [0, 1]), (4, [0]), (5, [0]), (6, [0]), (7, [0, 1, 2, 3, 4, 5, 6]), (8, [0, 1, 2, 3, 4, 5, 6, 7]), (9, [0, 1, 2, 3, 4, 5, 6, 7]), (10, [0, 1, 2, 3, 4, 5, 6]), (11, [0, 1, 2, 3, 4, 5, 6]), (12, [0, 1, 2, 3, 4, 5, 6]), (13, [0, 1, 2, 3, 4, 5, 6, 7, 8, 9, 10, 11, 12]), (14, [0]), (15, [0]), (16, []), (17, [])]
set_option maxHeartbeats 8000000 in
theorem s115a : FSpec Tryz.prog 60 [.ptr 1000000 0] (tpB [1, 0] [0, 1] [⟨0, 1, 4, 0⟩]) (fun y r => y = .tup [.d (.int .i64 4), .d (.bool true)] ∧ r = tpB [1, 0] [0, 1] [⟨0, 1, 4, 1⟩]) := by
 refine spec_of hT (C := []) Tryz.func60 rfl Tryz.call60 rfl rfl rfl ?_
 conv => whnf
 refine RegX.rule hT rfl [] oVShJ60_1 (by decide +kernel) ?_
 conv => whnf
 repeat' (first | (refine CallX.of (s166 [1, 0] (by simp) (by simp)) [(7, 22)] rfl ⟨lr, trivial⟩ trivial rfl rfl ?_; rintro x rout ⟨rfl, rfl⟩; refine ⟨rfl, ?_⟩; conv => whnf) | (refine CallX.of (s166 [0, 1] (by simp) (by simp)) [(7, 27)] rfl ⟨lr, trivial⟩ trivial rfl rfl ?_; rintro x rout ⟨rfl, rfl⟩; refine ⟨rfl, ?_⟩; conv => whnf) | (refine CallX.of s167a [(1000000, 1000000), (1000001, 1000001), (1000002, 1000002), (1000003, 1000003), (1000004, 22)] rfl ⟨lr, lr, trivial⟩ ⟨(Res.le_buf rfl (fun i hi => by (have : i = 0 ∨ i = 1 := by simp at hi; omega); rcases this with (rfl | rfl) <;> rfl)), rr, rr, rr, (Res.le_buf rfl (fun i hi => by (have : i = 0 := by simp at hi; omega); subst this; rfl)), trivial⟩ rfl rfl ?_; rintro x rout ⟨rfl, rfl⟩; refine ⟨rfl, ?_⟩; conv => whnf) | (refine CallX.of s167b [(1000000, 1000000), (1000001, 1000001), (1000002, 1000002), (1000003, 1000003), (1000004, 22)] rfl ⟨lr, lr, trivial⟩ ⟨(Res.le_buf rfl (fun i hi => by (have : i = 0 ∨ i = 1 := by simp at hi; omega); rcases this with (rfl | rfl) <;> rfl)), rr, rr, rr, (Res.le_buf rfl (fun i hi => by (have : i = 0 := by simp at hi; omega); subst this; rfl)), trivial⟩ rfl rfl ?_; rintro x rout ⟨rfl, rfl⟩; refine ⟨rfl, ?_⟩; conv => whnf) | (refine LoopX.run hT (C := []) 6 rfl [0, 4, 5, 32, 33] [1000000, 1000001, 1000002, 1000003] (fun _ _ h => h) (fun _ h => h) ?_; conv => whnf) | (refine LoopX.run hT (C := []) 7 rfl [0, 4, 5, 7] [1000000, 1000001, 1000002, 1000003] (fun _ _ h => h) (fun _ h => h) ?_; conv => whnf) | (refine LoopX.run hT (C := []) 22 rfl [0, 4, 5, 7, 8, 9, 10, 11, 50, 51, 52] [1000000, 1000001, 1000002, 1000003] (fun _ _ h => h) (fun _ h => h) ?_; conv => whnf) | (refine LoopX.run hT (C := []) 40 rfl [0, 4, 5, 7, 8, 9, 10, 14, 15] [1000000, 1000001, 1000002, 1000003] (fun _ _ h => h) (fun _ h => h) ?_; conv => whnf) | (refine LoopX.run hT (C := []) 60 rfl [0, 4, 5, 7, 9, 14, 15] [1000000, 1000001, 1000002, 1000003] (fun _ _ h => h) (fun _ h => h) ?_; conv => whnf) | (refine br_intro ?_ ?_ <;> intro hb <;> (try simp only [brs] at hb) <;> conv => whnf) | (refine RegX.rule (id := 1) hT rfl [] oVShJ60_1 (by decide +kernel) ?_; conv => whnf) | (refine RegX.rule (id := 14) hT rfl [] oVShJ60_14 (by decide +kernel) ?_; conv => whnf) | (refine RegX.rule (id := 21) hT rfl [] oVShJ60_21 (by decide +kernel) ?_; conv => whnf) | (refine RegX.rule (id := 23) hT rfl [] oVShJ60_23 (by decide +kernel) ?_; conv => whnf) | (refine RegX.rule (id := 31) hT rfl [] oVShJ60_31 (by decide +kernel) ?_; conv => whnf) | omega | (refine And.intro ?_ ?_; ((try dsimp only); first | omega | (refine szA rfl ?_; omega) | (refine szB rfl ?_; omega) | (unfold inI64; omega) | exact rfl | (simp only [lns] at *; omega) | decide | (unfold inI64; decide)); conv => whnf) | decide | assumption)
 refine .weak _ ?_
 conv => whnf
 exact ⟨.tup [.d (.int .i64 4), .d (.bool true)], _, SV.le_tup ⟨SV.le_int rfl, SV.le_bool rfl, trivial⟩, ⟨rfl, rfl⟩, rr, rr, rr, (Res.le_buf rfl (fun i hi => by (have : i = 0 := by simp at hi; omega); subst this; rfl)), trivial⟩
set_option maxHeartbeats 8000000 in
theorem s115b : FSpec Tryz.prog 60 [.ptr 1000000 0] (tpD [0, 0] [0, 0]) (fun y r => y = .tup [.d (.int .i64 0), .d (.bool true)] ∧ r = tpD [0, 0] [0, 0]) := by
 refine spec_of hT (C := []) Tryz.func60 rfl Tryz.call60 rfl rfl rfl ?_
 conv => whnf
 refine RegX.rule hT rfl [] oVShJ60_1 (by decide +kernel) ?_
 conv => whnf
 repeat' (first | (refine CallX.of (s166 [0, 0] (by simp) (by simp)) [(7, 22)] rfl ⟨lr, trivial⟩ trivial rfl rfl ?_; rintro x rout ⟨rfl, rfl⟩; refine ⟨rfl, ?_⟩; conv => whnf) | (refine CallX.of (s166 [0, 0] (by simp) (by simp)) [(7, 27)] rfl ⟨lr, trivial⟩ trivial rfl rfl ?_; rintro x rout ⟨rfl, rfl⟩; refine ⟨rfl, ?_⟩; conv => whnf) | (refine CallX.of s167c [(1000000, 1000000), (1000001, 1000001), (1000002, 1000002), (1000004, 22)] rfl ⟨lr, lr, trivial⟩ ⟨rr, rr, rr, rr, trivial⟩ rfl rfl ?_; rintro x rout ⟨rfl, rfl⟩; refine ⟨rfl, ?_⟩; conv => whnf) | (refine LoopX.run hT (C := []) 6 rfl [0, 4, 5, 32, 33] [1000000, 1000001, 1000002] (fun _ _ h => h) (fun _ h => h) ?_; conv => whnf) | (refine LoopX.run hT (C := []) 7 rfl [0, 4, 5, 7] [1000000, 1000001, 1000002] (fun _ _ h => h) (fun _ h => h) ?_; conv => whnf) | (refine LoopX.run hT (C := []) 22 rfl [0, 4, 5, 7, 8, 9, 10, 11, 50, 51, 52] [1000000, 1000001, 1000002] (fun _ _ h => h) (fun _ h => h) ?_; conv => whnf) | (refine LoopX.run hT (C := []) 40 rfl [0, 4, 5, 7, 8, 9, 10, 14, 15] [1000000, 1000001, 1000002] (fun _ _ h => h) (fun _ h => h) ?_; conv => whnf) | (refine LoopX.run hT (C := []) 60 rfl [0, 4, 5, 7, 9, 14, 15] [1000000, 1000001, 1000002] (fun _ _ h => h) (fun _ h => h) ?_; conv => whnf) | (refine br_intro ?_ ?_ <;> intro hb <;> (try simp only [brs] at hb) <;> conv => whnf) | (refine RegX.rule (id := 1) hT rfl [] oVShJ60_1 (by decide +kernel) ?_; conv => whnf) | (refine RegX.rule (id := 14) hT rfl [] oVShJ60_14 (by decide +kernel) ?_; conv => whnf) | (refine RegX.rule (id := 21) hT rfl [] oVShJ60_21 (by decide +kernel) ?_; conv => whnf) | (refine RegX.rule (id := 23) hT rfl [] oVShJ60_23 (by decide +kernel) ?_; conv => whnf) | (refine RegX.rule (id := 31) hT rfl [] oVShJ60_31 (by decide +kernel) ?_; conv => whnf) | omega | (refine And.intro ?_ ?_; ((try dsimp only); first | omega | (refine szA rfl ?_; omega) | (refine szB rfl ?_; omega) | (unfold inI64; omega) | exact rfl | (simp only [lns] at *; omega) | decide | (unfold inI64; decide)); conv => whnf) | decide | assumption)
 refine .weak _ ?_
 conv => whnf
 exact ⟨.tup [.d (.int .i64 0), .d (.bool true)], _, SV.le_tup ⟨SV.le_int rfl, SV.le_bool rfl, trivial⟩, ⟨rfl, rfl⟩, rr, rr, rr, trivial⟩
set_option maxHeartbeats 8000000 in
theorem s27t : FSpec Tryz.prog 27 [.d (neds tN), .d (roas tR)] [] (fun y r => y = .tup [.d (movs [⟨[97], [98], 1⟩]), .d (.int .i64 0)] ∧ r = []) := by
 refine spec_of hT (C := []) Tryz.func27 rfl Tryz.call27 rfl rfl rfl ?_
 conv => whnf
 repeat' (first | (refine CallX.exact (s113t) rfl rfl ?_; rotate_right; conv => whnf) | (refine CallX.of s114t [(20, 24), (15, 1000), (18, 1001), (88, 1002)] rfl ⟨lr, lr, trivial⟩ trivial rfl rfl ?_; rintro x rout ⟨rfl, rfl⟩; refine ⟨rfl, ?_⟩; conv => whnf) | (refine CallX.of s115a [(1000000, 24), (1000001, 1000), (1000002, 1001), (1000003, 1002)] rfl ⟨lr, trivial⟩ ⟨rr, rr, rr, rr, trivial⟩ rfl rfl ?_; rintro x rout ⟨rfl, rfl⟩; refine ⟨rfl, ?_⟩; conv => whnf) | (refine br_intro ?_ ?_ <;> intro hb <;> (try simp only [brs] at hb) <;> conv => whnf) | (refine RegX.rule (id := 13) hT rfl [] oVShJ27_13 (by decide +kernel) ?_; conv => whnf) | (refine RegX.rule (id := 19) hT rfl [] oVShJ27_19 (by decide +kernel) ?_; conv => whnf) | omega | (refine And.intro ?_ ?_; ((try dsimp only); first | omega | (refine szA rfl ?_; omega) | (refine szB rfl ?_; omega) | (unfold inI64; omega) | exact rfl | (simp only [lns] at *; omega) | decide | (unfold inI64; decide)); conv => whnf) | decide | assumption)
 refine LoopX.freeze 1002 108 4 1 _ rfl ?_
 repeat' (first | (refine CallX.of s116t [(1000000, 24), (1000001, 1000), (1000002, 1001), (1000003, 1002), (30, 1100), (16, 1101), (21, 1102)] rfl ⟨lr, SV.le_int rfl, SV.le_int rfl, SV.le_int rfl, SV.le_int rfl, trivial⟩ ⟨rr, rr, rr, Res.le_fro rfl (fun i hi => by (have : i = 0 := by simp at hi; omega); subst this; rfl), trivial⟩ rfl rfl ?_; rintro x rout ⟨rfl, rfl⟩; refine ⟨rfl, ?_⟩; conv => whnf) | (refine CallX.of s116t [(1000000, 24), (1000001, 1000), (1000002, 1001), (1000003, 1002), (30, 1200), (16, 1201), (21, 1202)] rfl ⟨lr, SV.le_int rfl, SV.le_int rfl, SV.le_int rfl, SV.le_int rfl, trivial⟩ ⟨rr, rr, rr, Res.le_fro rfl (fun i hi => by (have : i = 0 := by simp at hi; omega); subst this; rfl), trivial⟩ rfl rfl ?_; rintro x rout ⟨rfl, rfl⟩; refine ⟨rfl, ?_⟩; conv => whnf) | (refine CallX.of s115b [(1000000, 1100), (1000001, 1101), (1000002, 1102)] rfl ⟨lr, trivial⟩ ⟨rr, rr, rr, trivial⟩ rfl rfl ?_; rintro x rout ⟨rfl, rfl⟩; refine ⟨rfl, ?_⟩; conv => whnf) | (refine LoopX.run hT (C := []) 18 rfl [0, 7, 8, 10] [] (fun _ _ h => h) (fun _ h => h) ?_; conv => whnf) | (refine LoopX.run hT (C := []) 26 rfl [0, 7, 8, 10, 11, 12, 13] [] (fun _ _ h => h) (fun _ h => h) ?_; conv => whnf) | (refine br_intro ?_ ?_ <;> intro hb <;> (try simp only [brs] at hb) <;> conv => whnf) | (refine RegX.rule (id := 13) hT rfl [] oVShJ27_13 (by decide +kernel) ?_; conv => whnf) | (refine RegX.rule (id := 19) hT rfl [] oVShJ27_19 (by decide +kernel) ?_; conv => whnf) | omega | (refine And.intro ?_ ?_; ((try dsimp only); first | omega | (refine szA rfl ?_; omega) | (refine szB rfl ?_; omega) | (unfold inI64; omega) | exact rfl | (simp only [lns] at *; omega) | decide | (unfold inI64; decide)); conv => whnf) | decide | assumption)
 refine .freeze _ 106 70 3 _ _ rfl (.weak _ ?_)
 conv => whnf
 exact ⟨.tup [.d (movs [⟨[97], [98], 1⟩]), .d (.int .i64 0)], _, SV.le_tup ⟨SV.le_ro rfl (fun i hi => by (have : i = 0 := by simp at hi; omega); subst this; rfl), SV.le_int rfl, trivial⟩, ⟨rfl, rfl⟩, trivial⟩
theorem mov_eq {a b : Mov} : a = b ↔ a.a = b.a ∧ a.b = b.b ∧ a.many = b.many := by cases a; cases b; simp
instance : DecidableEq Mov := fun _ _ => decidable_of_iff _ mov_eq.symm
structure Pnl where
 key : List UInt8
 w : Int
 h : Int
 pr : Int
structure Mrk where
 pan : List UInt8
 kind : Int
 x : Int
 y : Int
 size : Int
structure Rul where
 near : Int
 slack : Int
 join : Int
 part : Int
theorem less_trans : ∀ {a b c : List UInt8}, Op.bytesLess a b = true → Op.bytesLess b c = true → Op.bytesLess a c = true := by
 intro a
 induction a with
 | nil => intro b c h1 h2; cases b <;> cases c <;> simp_all [Op.bytesLess]
 | cons x a ih =>
   intro b c h1 h2
   cases b with
   | nil => simp [Op.bytesLess] at h1
   | cons y b =>
     cases c with
     | nil => simp [Op.bytesLess] at h2
     | cons z c =>
       simp only [Op.bytesLess] at h1 h2 ⊢
       grind [UInt8.lt_trans]
theorem less_irr : ∀ (a : List UInt8), Op.bytesLess a a = false := by
 intro a
 induction a with
 | nil => rfl
 | cons x a ih => simp [Op.bytesLess, ih]
theorem SV.le_agg {l m : List SV} (h : argsLe0 l m) : SV.le (.agg l) (.agg m) := by
 obtain ⟨h1, h2⟩ := argsLe0_get h
 intro G β v hv
 cases hv with | agg _ vs hl hd =>
 refine .agg _ _ (hl.trans h1) (fun i y v hy hv => ?_)
 have hi : i < l.length := by rw [h1]; exact (List.getElem?_eq_some_iff.1 hy).1
 exact h2 i _ y (List.getElem?_eq_getElem hi) hy G β v (hd i _ v (List.getElem?_eq_getElem hi) hv)
def onRd (l : List Roa) (a b : List UInt8) (i : Nat) : Bool := (l.getD i rd0).a == a && (l.getD i rd0).b == b
def roadX (l : List Roa) (a b : List UInt8) : Int := ixF (onRd l a b) l.length
theorem endsC_self (a b : List UInt8) : endsC a b a b = 0 := by
 unfold endsC
 simp [firstE, cmpS, less_irr]
theorem rds_all {l : List Roa} (h : rdsE l = 0) : l.length ≤ 2500 ∧ ∀ i, i < l.length → rdE l i = 0 := by
 unfold rdsE at h
 split at h
 · cases h
 · exact ⟨by omega, firstAt_all h⟩
def endLt (a b c d : List UInt8) : Prop := Op.bytesLess a c = true ∨ (a = c ∧ Op.bytesLess b d = true)
theorem endLt_of {a b c d : List UInt8} (h : endsC a b c d < 0) : endLt a b c d := by
 unfold endsC at h
 simp only [firstE, cmpS] at h
 unfold endLt
 by_cases q : Op.bytesLess a c = true
 · exact .inl q
 · have q' : Op.bytesLess a c = false := by simpa using q
   by_cases e : a = c
   · subst e
     refine .inr ⟨rfl, ?_⟩
     simp only [less_irr] at h
     grind
   · have := less_tri _ _ q' e
     simp [q', this] at h
theorem endLt_trans {a b c d e f : List UInt8} (h : endLt a b c d) (k : endLt c d e f) : endLt a b e f := by
 unfold endLt at *
 rcases h with h | ⟨rfl, h⟩ <;> rcases k with k | ⟨rfl, k⟩
 · exact .inl (less_trans h k)
 · exact .inl h
 · exact .inl k
 · exact .inr ⟨rfl, less_trans h k⟩
theorem endLt_irr {a b : List UInt8} : ¬ endLt a b a b := by
 unfold endLt; simp [less_irr]
theorem rds_inc {l : List Roa} (h : rdsE l = 0) : ∀ {j i : Nat}, i < j → j < l.length → endLt (l.getD i rd0).a (l.getD i rd0).b (l.getD j rd0).a (l.getD j rd0).b := by
 obtain ⟨_, h2⟩ := rds_all h
 have step : ∀ j, j + 1 < l.length → endLt (l.getD j rd0).a (l.getD j rd0).b (l.getD (j + 1) rd0).a (l.getD (j + 1) rd0).b := fun j hj => by
  have := h2 (j + 1) hj
  unfold rdE at this
  simp only [Nat.add_sub_cancel] at this
  refine endLt_of ?_
  grind
 intro j
 induction j with
 | zero => intro i h; omega
 | succ j ih =>
   intro i hi hj
   by_cases q : i = j
   · subst q; exact step i hj
   · exact endLt_trans (ih (by omega) (by omega)) (step j hj)
theorem rd_inj {l : List Roa} (h : rdsE l = 0) {i j : Nat} {a b : List UInt8} (hi : i < l.length) (hj : j < l.length) (h1 : onRd l a b i = true) (h2 : onRd l a b j = true) : i = j := by
 simp [onRd] at h1 h2
 rcases Nat.lt_trichotomy i j with q | q | q
 · have := rds_inc h q hj
   simp only [List.getD_eq_getElem?_getD] at this
   rw [h1.1, h1.2, h2.1, h2.2] at this
   exact absurd this endLt_irr
 · exact q
 · have := rds_inc h q hi
   simp only [List.getD_eq_getElem?_getD] at this
   rw [h1.1, h1.2, h2.1, h2.2] at this
   exact absurd this endLt_irr
theorem rd_bd {l : List Roa} (h : rdsE l = 0) {i : Nat} (hi : i < l.length) : (0 ≤ (l.getD i rd0).car ∧ (l.getD i rd0).car ≤ 1000000) ∧ 0 ≤ (l.getD i rd0).ride ∧ (l.getD i rd0).ride ≤ 1000000 := by
 have := (rds_all h).2 i hi
 unfold rdE at this
 simp only at this
 grind
theorem ixF_pos {p : Nat → Bool} {n k : Nat} (hk : k < n) (h : p k = true) : 0 ≤ ixF p n := by
 have hb := ixF_bd (p := p) (n := n)
 rcases Int.lt_or_le (ixF p n) 0 with q | q
 · exfalso
   have hn : ∀ m, ixF p m < 0 → ∀ j, j < m → p j = false := by
    intro m
    induction m with
    | zero => intro _ j hj; omega
    | succ m ih =>
      intro hm j hj
      rw [ixF] at hm
      split at hm
      · rename_i hz
        by_cases hjm : j = m
        · subst hjm
          split at hm
          · omega
          · rename_i hf; simpa using hf
        · exact ih (by omega) j (by omega)
      · rename_i hz; have := (ixF_bd (p := p) (n := m)).1; omega
   rw [hn n q k hk] at h
   cases h
 · exact q
theorem roadX_bd (l : List Roa) (a b : List UInt8) : -1 ≤ roadX l a b ∧ roadX l a b < l.length ∧ (0 ≤ roadX l a b → onRd l a b (roadX l a b).toNat = true) := ixF_bd
def roadO (l : List Roa) (a b : List UInt8) : Option Roa := if 0 ≤ roadX l a b then some (l.getD (roadX l a b).toNat rd0) else none
theorem roadO_bd {l : List Roa} (h : rdsE l = 0) {a b : List UInt8} {x : Roa} (hx : roadO l a b = some x) : (0 ≤ x.car ∧ x.car ≤ 1000000) ∧ 0 ≤ x.ride ∧ x.ride ≤ 1000000 := by
 unfold roadO at hx
 have := roadX_bd l a b
 split at hx
 · cases hx
   exact rd_bd h (by omega)
 · cases hx
theorem keyRd (l : List Roa) (a b : List UInt8) (n : Nat) : keyEq [.str a, .str b] [.str (l.getD n rd0).a, .str (l.getD n rd0).b] = onRd l a b n := by
 simp only [keyEq, keyEq1, onRd, Bool.and_true]
 generalize l.getD n rd0 = x
 rw [Bool.beq_comm (a := a), Bool.beq_comm (a := b)]
theorem nHas_eq (l : List Roa) (a b : List UInt8) : ∀ n, nHas l n [.str a, .str b] = true ↔ ∃ i, i < n ∧ onRd l a b i = true := by
 intro n
 induction n with
 | zero => simp [nHas]
 | succ n ih =>
   rw [nHas, Bool.or_eq_true, ih]
   have e : keyEq [.str a, .str b] [.str (l.getD n rd0).a, .str (l.getD n rd0).b] = onRd l a b n := by
    exact keyRd l a b n
   rw [e]
   constructor
   · rintro (q | ⟨i, q1, q2⟩)
     · exact ⟨n, by omega, q⟩
     · exact ⟨i, by omega, q2⟩
   · rintro ⟨i, q1, q2⟩
     by_cases q : i = n
     · subst q; exact .inl q2
     · exact .inr ⟨i, by omega, q2⟩
theorem net_has {l : List Roa} (a b : List UInt8) : nHas l l.length [.str a, .str b] = (roadO l a b).isSome := by
 have hb := roadX_bd l a b
 rw [Bool.eq_iff_iff, nHas_eq]
 unfold roadO
 constructor
 · rintro ⟨i, h1, h2⟩
   have : 0 ≤ roadX l a b := ixF_pos h1 h2
   rw [if_pos this]; rfl
 · intro q
   split at q
   · rename_i h0; exact ⟨(roadX l a b).toNat, by omega, hb.2.2 h0⟩
   · cases q
theorem nVal_eq {l : List Roa} (h : rdsE l = 0) (a b : List UInt8) : ∀ n, n ≤ l.length → (∀ i, i < n → onRd l a b i = true → nVal l n [.str a, .str b] = rdF (l.getD i rd0)) ∧ ((∀ i, i < n → onRd l a b i = false) → nVal l n [.str a, .str b] = rdF rd0) := by
 intro n
 induction n with
 | zero => intro _; exact ⟨fun i hi => by omega, fun _ => rfl⟩
 | succ n ih =>
   intro hn
   have e : keyEq [.str a, .str b] [.str (l.getD n rd0).a, .str (l.getD n rd0).b] = onRd l a b n := by
    exact keyRd l a b n
   obtain ⟨i1, i2⟩ := ih (by omega)
   refine ⟨fun i hi h1 => ?_, fun hn => ?_⟩
   · show (bif keyEq [.str a, .str b] [.str (l.getD n rd0).a, .str (l.getD n rd0).b] then rdF (l.getD n rd0) else nVal l n [.str a, .str b]) = _
     rw [e]
     cases q : onRd l a b n
     · have : i ≠ n := fun q2 => by subst q2; rw [q] at h1; cases h1
       exact i1 i (by omega) h1
     · have := rd_inj h (by omega) (by omega) h1 q
       subst this; rfl
   · show (bif keyEq [.str a, .str b] [.str (l.getD n rd0).a, .str (l.getD n rd0).b] then rdF (l.getD n rd0) else nVal l n [.str a, .str b]) = _
     rw [e, hn n (by omega)]
     exact i2 (fun i hi => hn i (by omega))
theorem net_val {l : List Roa} (h : rdsE l = 0) (a b : List UInt8) : nVal l l.length [.str a, .str b] = rdF ((roadO l a b).getD rd0) := by
 have hb := roadX_bd l a b
 obtain ⟨h1, h2⟩ := nVal_eq h a b l.length (Nat.le_refl _)
 unfold roadO
 split
 · rename_i h0; exact h1 _ (by omega) (hb.2.2 h0)
 · rename_i h0
   refine h2 (fun i hi => ?_)
   rw [← Bool.not_eq_true]
   intro q
   exact h0 (ixF_pos hi q)
def rideO (l : List Roa) (a b : List UInt8) : Option Int := if a = b then some 0 else (roadO l a b).map (·.ride)
def makeO (l : List Roa) (a : List UInt8) (m : Mov) : Option Int := (rideO l a m.a).bind fun n => (roadO l m.a m.b).map fun r => n + r.car
abbrev RPt := Option (List UInt8 × Int)
def stepR (l : List Roa) (m : List Mov) (st : RPt) (k : Int) : RPt := st.bind fun p => (makeO l p.1 (m.getD k.toNat mv0)).map fun n => ((m.getD k.toNat mv0).b, p.2 + n)
def partR (l : List Roa) (start : List UInt8) (m : List Mov) (o : List Int) : RPt := o.foldl (stepR l m) (some (start, 0))
def roundO (l : List Roa) (start : List UInt8) (m : List Mov) (o : List Int) : Option Int := (partR l start m o).bind fun p => (rideO l p.1 start).map fun n => p.2 + n
abbrev RSt := List Int × Int
def rs (l : List Roa) (start : List UInt8) (m : List Mov) : Nat → List Int → RSt → RSt
 | 0, o, st => match roundO l start m o with
   | some n => if 0 ≤ st.2 ∧ st.2 ≤ n then st else (o, n)
   | none => st
 | d + 1, o, st => (List.range m.length).foldl (fun (st : RSt) (k : Nat) => if o.contains (k : Int) then st else rs l start m d (o ++ [(k : Int)]) st) st
theorem endsC_lt {a b c d : List UInt8} : endsC a b c d < 0 ↔ endLt a b c d := by
 refine ⟨endLt_of, fun h => ?_⟩
 unfold endsC
 simp only [firstE, cmpS]
 rcases h with h | ⟨rfl, h⟩
 · simp [h]
 · simp [h, less_irr]
theorem cmpS_sw (a b : List UInt8) : cmpS a b = - cmpS b a := by
 unfold cmpS
 by_cases e : a = b
 · subst e; simp [less_irr]
 · cases q : Op.bytesLess a b
   · have := less_tri _ _ q e
     simp [this]
   · have : Op.bytesLess b a = false := by
      cases w : Op.bytesLess b a
      · rfl
      · have := less_trans q w
        rw [less_irr] at this; cases this
     simp [this]
theorem endsC_sw (a b c d : List UInt8) : endsC a b c d = - endsC c d a b := by
 unfold endsC
 rw [cmpS_sw a c, cmpS_sw b d]
 simp only [firstE]
 grind
theorem endsC_zero {a b c d : List UInt8} : endsC a b c d = 0 ↔ a = c ∧ b = d := by
 constructor
 · intro h
   have h1 : ¬ endsC a b c d < 0 := by omega
   have h2 : ¬ endsC c d a b < 0 := by have := endsC_sw a b c d; omega
   rw [endsC_lt] at h1 h2
   unfold endLt at h1 h2
   have ha : a = c := Classical.byContradiction fun q => by
    cases w : Op.bytesLess a c
    · exact h2 (.inl (less_tri _ _ w q))
    · exact h1 (.inl w)
   subst ha
   refine ⟨rfl, Classical.byContradiction fun q => ?_⟩
   cases w : Op.bytesLess b d
   · exact h2 (.inr ⟨rfl, less_tri _ _ w q⟩)
   · exact h1 (.inr ⟨rfl, w⟩)
 · rintro ⟨rfl, rfl⟩; exact endsC_self a b
def sgnI (n : Int) : Int := if n < 0 then -1 else if 0 < n then 1 else 0
def mvC (p q : Mov) : Int := if endsC p.a p.b q.a q.b = 0 then sgnI (p.many - q.many) else endsC p.a p.b q.a q.b
theorem sgnI_lt {n : Int} : sgnI n < 0 ↔ n < 0 := by unfold sgnI; split <;> (try split) <;> omega
theorem sgnI_gt {n : Int} : 0 < sgnI n ↔ 0 < n := by unfold sgnI; split <;> (try split) <;> omega
theorem sgnI_eq {n : Int} : sgnI n = 0 ↔ n = 0 := by unfold sgnI; split <;> (try split) <;> omega
theorem mvC_ord : COrd mvC := by
 refine ⟨fun p q => ?_, fun p q => ?_, fun p q r => ?_⟩
 · unfold mvC
   by_cases h : endsC p.a p.b q.a q.b = 0
   · rw [if_pos h, sgnI_eq]
     obtain ⟨h1, h2⟩ := endsC_zero.1 h
     cases p; cases q
     simp only at h1 h2
     subst h1; subst h2
     simp only [Mov.mk.injEq, true_and]
     omega
   · rw [if_neg h]
     constructor
     · exact fun z => absurd z h
     · rintro rfl; exact absurd (endsC_self _ _) h
 · unfold mvC
   have e := endsC_sw p.a p.b q.a q.b
   by_cases h : endsC p.a p.b q.a q.b = 0
   · have h2 : endsC q.a q.b p.a p.b = 0 := by omega
     rw [if_pos h, if_pos h2, sgnI_lt, sgnI_gt]; omega
   · have h2 : ¬ endsC q.a q.b p.a p.b = 0 := by omega
     rw [if_neg h, if_neg h2]; omega
 · unfold mvC
   intro h1 h2
   by_cases a : endsC p.a p.b q.a q.b = 0
   · rw [if_pos a, sgnI_lt] at h1
     obtain ⟨e1, e2⟩ := endsC_zero.1 a
     rw [e1, e2]
     by_cases b : endsC q.a q.b r.a r.b = 0
     · rw [if_pos b, sgnI_lt] at h2
       rw [if_pos b, sgnI_lt]; omega
     · rw [if_neg b] at h2 ⊢; exact h2
   · rw [if_neg a] at h1
     by_cases b : endsC q.a q.b r.a r.b = 0
     · obtain ⟨e1, e2⟩ := endsC_zero.1 b
       rw [← e1, ← e2, if_neg a]; exact h1
     · rw [if_neg b] at h2
       have h3 := endsC_lt.2 (endLt_trans (endsC_lt.1 h1) (endsC_lt.1 h2))
       rw [if_neg (by omega)]; exact h3
theorem mvC_many {a b : List UInt8} {u v : Int} (h : u < v) : mvC ⟨a, b, u⟩ ⟨a, b, v⟩ < 0 := by
 unfold mvC; rw [if_pos (endsC_self a b), sgnI_lt]; show u - v < 0; omega
theorem mvC_ends {a b c d : List UInt8} {u v : Int} (h : endLt a b c d) : mvC ⟨a, b, u⟩ ⟨c, d, v⟩ < 0 := by
 have := endsC_lt.2 h
 unfold mvC
 rw [if_neg (by show ¬ endsC a b c d = 0; omega)]; exact this
structure Ar3 where
 fr : Nat
 to : Nat
 car : Int
def a30 : Ar3 := ⟨0, 0, 0⟩
def manyP (n : List Ned) (i : Nat) : Int := (n.getD i nd0).many
def wayO (n : List Ned) (r : List Roa) (i k : Nat) : Option Int := (roadO r (n.getD i nd0).st (n.getD k nd0).st).map (·.car)
def arRow (n : List Ned) (r : List Roa) (i : Nat) : List Ar3 := (List.range n.length).filterMap fun k => if 0 < manyP n i ∧ manyP n k < 0 then (wayO n r i k).map fun c => ⟨i, k, c⟩ else none
def arL (n : List Ned) (r : List Roa) : List Ar3 := (List.range n.length).flatMap (arRow n r)
def srcL (n : List Ned) : List Nat := (List.range n.length).filter fun i => decide (0 < manyP n i)
def dstL (n : List Ned) : List Nat := (List.range n.length).filter fun i => decide (manyP n i < 0)
def arRow2 (n : List Ned) (r : List Roa) (i : Nat) : List Ar3 := (dstL n).filterMap fun k => (wayO n r i k).map fun c => ⟨i, k, c⟩
theorem fm_filter {α β : Type} (p : α → Bool) (f : α → Option β) : ∀ l : List α, l.filterMap (fun x => if p x = true then f x else none) = (l.filter p).filterMap f
 | [] => rfl
 | x :: l => by
   rw [List.filterMap_cons, List.filter_cons]
   by_cases h : p x = true
   · rw [if_pos h, if_pos h, List.filterMap_cons, fm_filter p f l]
   · rw [if_neg h, if_neg h, fm_filter p f l]
theorem flatMap_filter {α β : Type} (p : α → Bool) (f g : α → List β) (h1 : ∀ x, p x = true → f x = g x) (h2 : ∀ x, p x = false → f x = []) : ∀ l : List α, l.flatMap f = (l.filter p).flatMap g
 | [] => rfl
 | x :: l => by
   rw [List.flatMap_cons, List.filter_cons, flatMap_filter p f g h1 h2 l]
   cases h : p x
   · rw [if_neg (by simp), h2 x h]; rfl
   · rw [if_pos rfl, h1 x h, List.flatMap_cons]
theorem arL_eq (n : List Ned) (r : List Roa) : arL n r = (srcL n).flatMap (arRow2 n r) := by
 unfold arL srcL
 refine flatMap_filter _ _ _ (fun i h => ?_) (fun i h => ?_) _
 · unfold arRow arRow2 dstL
   rw [decide_eq_true_eq] at h
   rw [← fm_filter]
   congr 1
   funext k
   by_cases q : manyP n k < 0
   · rw [if_pos ⟨h, q⟩, if_pos (by simpa using q)]
   · rw [if_neg (fun z => q z.2), if_neg (by simpa using q)]
 · unfold arRow
   rw [decide_eq_false_iff_not] at h
   rw [List.filterMap_eq_nil_iff]
   intro k _
   rw [if_neg (fun z => h z.1)]
def nwG (n : List Ned) (r : List Roa) : Nw := ⟨(arL n r).length, n.length, fun k => ((arL n r).getD k a30).fr, fun k => ((arL n r).getD k a30).to, fun k => ((arL n r).getD k a30).car⟩
def kindB (n : List Ned) (v : Nat) : Bool := !decide (manyP n v < 0)
theorem arL_mem {n : List Ned} {r : List Roa} {x : Ar3} (h : x ∈ arL n r) : (x.fr < n.length ∧ 0 < manyP n x.fr) ∧ (x.to < n.length ∧ manyP n x.to < 0) ∧ wayO n r x.fr x.to = some x.car := by
 unfold arL at h
 rw [List.mem_flatMap] at h
 obtain ⟨i, hi, h⟩ := h
 unfold arRow at h
 rw [List.mem_filterMap] at h
 obtain ⟨k, hk, h⟩ := h
 rw [List.mem_range] at hi hk
 split at h
 · rename_i q
   rw [Option.map_eq_some_iff] at h
   obtain ⟨c, hc, rfl⟩ := h
   exact ⟨⟨hi, q.1⟩, ⟨hk, q.2⟩, hc⟩
 · cases h
theorem nwG_at {n : List Ned} {r : List Roa} {k : Nat} (hk : k < (nwG n r).K) : (arL n r).getD k a30 ∈ arL n r := getD_mem hk
theorem nwG_ok {n : List Ned} {r : List Roa} (hr : rdsE r = 0) : (nwG n r).Ok ∧ ∀ k, k < (nwG n r).K → (nwG n r).c k ≤ 1000000 := by
 have hc : ∀ k, k < (nwG n r).K → 0 ≤ (nwG n r).c k ∧ (nwG n r).c k ≤ 1000000 := fun k hk => by
  have h := (arL_mem (nwG_at hk)).2.2
  unfold wayO at h
  rw [Option.map_eq_some_iff] at h
  obtain ⟨x, hx, e⟩ := h
  have := (roadO_bd hr hx).1
  show 0 ≤ ((arL n r).getD k a30).car ∧ ((arL n r).getD k a30).car ≤ 1000000
  omega
 exact ⟨⟨fun k hk => (arL_mem (nwG_at hk)).1.1, fun k hk => (arL_mem (nwG_at hk)).2.1.1, fun k hk => (hc k hk).1⟩, fun k hk => (hc k hk).2⟩
theorem nwG_bip (n : List Ned) (r : List Roa) : (nwG n r).Bip (kindB n) := by
 refine ⟨fun k hk => ⟨(arL_mem (nwG_at hk)).1.1, ?_⟩, fun k hk => ⟨(arL_mem (nwG_at hk)).2.1.1, ?_⟩⟩
 · have := (arL_mem (nwG_at hk)).1.2
   unfold kindB
   show (!decide (manyP n ((arL n r).getD k a30).fr < 0)) = true
   rw [decide_eq_false (by omega)]; rfl
 · have := (arL_mem (nwG_at hk)).2.1.2
   unfold kindB
   show (!decide (manyP n ((arL n r).getD k a30).to < 0)) = false
   rw [decide_eq_true this]; rfl
def nsN (n : List Ned) (i : Nat) : Nat := (srcL n).getD i 0
def nwN (n : List Ned) (k : Nat) : Nat := (dstL n).getD k 0
def stnN (n : List Ned) (r : List Roa) (i : Nat) : Stn Mov := ⟨fun k => wayO n r (nsN n i) (nwN n k), fun k v => ⟨(n.getD (nsN n i) nd0).st, (n.getD (nwN n k) nd0).st, v⟩, manyP n (nsN n i)⟩
def mvN (n : List Ned) (r : List Roa) (a : Nat) (v : Int) : Mov := ⟨(n.getD ((arL n r).getD a a30).fr nd0).st, (n.getD ((arL n r).getD a a30).to nd0).st, v⟩
def rowK (n : List Ned) (r : List Roa) (i k : Nat) : List Ar3 := ((dstL n).take k).filterMap fun k => (wayO n r i k).map fun c => ⟨i, k, c⟩
def posN (n : List Ned) (r : List Roa) (i k : Nat) : Nat := (((srcL n).take i).flatMap (arRow2 n r)).length + (rowK n r (nsN n i) k).length
theorem srcL_at {n : List Ned} {i : Nat} (h : i < (srcL n).length) : nsN n i < n.length ∧ 0 < manyP n (nsN n i) := by
 have : nsN n i ∈ srcL n := getD_mem h
 unfold srcL at this
 rw [List.mem_filter, List.mem_range, decide_eq_true_eq] at this
 exact this
theorem dstL_at {n : List Ned} {i : Nat} (h : i < (dstL n).length) : nwN n i < n.length ∧ manyP n (nwN n i) < 0 := by
 have : nwN n i ∈ dstL n := getD_mem h
 unfold dstL at this
 rw [List.mem_filter, List.mem_range, decide_eq_true_eq] at this
 exact this
theorem nodup_getD {l : List Nat} (h : l.Nodup) {i j : Nat} (hi : i < l.length) (hj : j < l.length) (e : l.getD i 0 = l.getD j 0) : i = j := by
 rw [List.getD_eq_getElem?_getD, List.getD_eq_getElem?_getD, List.getElem?_eq_getElem hi, List.getElem?_eq_getElem hj] at e
 simp only [Option.getD_some] at e
 have hp := List.pairwise_iff_getElem.1 h
 rcases Nat.lt_trichotomy i j with q | q | q
 · exact absurd e (hp i j hi hj q)
 · exact q
 · exact absurd e.symm (hp j i hj hi q)
theorem srcL_nodup (n : List Ned) : (srcL n).Nodup := List.Pairwise.filter _ List.nodup_range
theorem dstL_nodup (n : List Ned) : (dstL n).Nodup := List.Pairwise.filter _ List.nodup_range
theorem take_getD {α : Type} {l : List α} {i : Nat} {d : α} (h : i < l.length) : l.take (i + 1) = l.take i ++ [l.getD i d] := by
 rw [List.take_add_one, List.getD_eq_getElem?_getD, List.getElem?_eq_getElem h]; rfl
theorem split_getD {α : Type} {l : List α} {i : Nat} {d : α} (h : i < l.length) : l = l.take i ++ l.getD i d :: l.drop (i + 1) := by
 have e : l.drop i = l.getD i d :: l.drop (i + 1) := by
  rw [List.drop_eq_getElem_cons h, List.getD_eq_getElem?_getD, List.getElem?_eq_getElem h]; rfl
 rw [← e, List.take_append_drop]
theorem rowK_all (n : List Ned) (r : List Roa) (i : Nat) : rowK n r i (dstL n).length = arRow2 n r i := by
 unfold rowK arRow2; rw [List.take_length]
theorem rowK_succ {n : List Ned} {r : List Roa} {i k : Nat} (hk : k < (dstL n).length) : rowK n r i (k + 1) = rowK n r i k ++ (match wayO n r i (nwN n k) with
 | none => []
 | some c => [⟨i, nwN n k, c⟩]) := by
 unfold rowK
 rw [take_getD (d := 0) hk, List.filterMap_append]
 congr 1
 show List.filterMap _ [nwN n k] = _
 rw [List.filterMap_cons]
 cases wayO n r i (nwN n k) <;> rfl
theorem posN_at {n : List Ned} {r : List Roa} {i k : Nat} {c : Int} (hi : i < (srcL n).length) (hk : k < (dstL n).length) (hw : wayO n r (nsN n i) (nwN n k) = some c) : (arL n r)[posN n r i k]? = some ⟨nsN n i, nwN n k, c⟩ := by
 have e1 : arL n r = ((srcL n).take i).flatMap (arRow2 n r) ++ (arRow2 n r (nsN n i) ++ ((srcL n).drop (i + 1)).flatMap (arRow2 n r)) := by
  rw [arL_eq]
  conv => lhs; rw [split_getD (d := 0) hi]
  rw [List.flatMap_append, List.flatMap_cons]; rfl
 have e2 : arRow2 n r (nsN n i) = rowK n r (nsN n i) k ++ (⟨nsN n i, nwN n k, c⟩ :: ((dstL n).drop (k + 1)).filterMap fun k => (wayO n r (nsN n i) k).map fun c => ⟨nsN n i, k, c⟩) := by
  unfold arRow2 rowK
  conv => lhs; rw [split_getD (d := 0) hk]
  rw [List.filterMap_append, List.filterMap_cons]
  have hw : wayO n r (nsN n i) ((dstL n).getD k 0) = some c := hw
  rw [hw]; rfl
 rw [e1, e2]
 unfold posN
 rw [List.getElem?_append_right (by omega), Nat.add_sub_cancel_left, List.append_assoc, List.getElem?_append_right (by omega), Nat.sub_self]; rfl
theorem layN (n : List Ned) (r : List Roa) : Lay (nwG n r) (kindB n) (srcL n).length (dstL n).length (nsN n) (nwN n) (stnN n r) (mvN n r) (posN n r) := by
 refine ⟨?_, fun i hi => ?_, fun i k hi hk hw => ?_, fun i k car hi hk hw => ?_, fun i hi => ?_, fun i j hi hj e => nodup_getD (srcL_nodup n) hi hj e, fun k hk => ?_, fun k j hk hj e => nodup_getD (dstL_nodup n) hk hj e, fun v hv hb => ?_⟩
 · show posN n r (srcL n).length 0 = (arL n r).length
   unfold posN
   rw [List.take_length, ← arL_eq]; rfl
 · unfold posN
   rw [take_getD (d := 0) hi, List.flatMap_append, rowK_all]
   show (_ ++ List.flatMap (arRow2 n r) [nsN n i]).length + 0 = _
   rw [List.length_append, List.flatMap_cons, List.flatMap_nil, List.append_nil]; rfl
 · have hw : wayO n r (nsN n i) (nwN n k) = none := hw
   unfold posN
   rw [rowK_succ hk, hw, List.append_nil]
 · have hw : wayO n r (nsN n i) (nwN n k) = some car := hw
   have h := posN_at hi hk hw
   have hl : posN n r i k < (arL n r).length := (List.getElem?_eq_some_iff.1 h).1
   have hg : (arL n r).getD (posN n r i k) a30 = ⟨nsN n i, nwN n k, car⟩ := by rw [List.getD_eq_getElem?_getD, h]; rfl
   refine ⟨?_, hl, ?_, ?_, ?_, fun v => ?_⟩
   · unfold posN
     rw [rowK_succ hk, hw, List.length_append]; rfl
   · show ((arL n r).getD (posN n r i k) a30).fr = _; rw [hg]
   · show ((arL n r).getD (posN n r i k) a30).to = _; rw [hg]
   · show ((arL n r).getD (posN n r i k) a30).car = _; rw [hg]
   · unfold mvN stnN; rw [hg]
 · have := srcL_at hi
   refine ⟨this.1, ?_⟩
   unfold kindB
   rw [decide_eq_false (by omega)]; rfl
 · have := dstL_at hk
   refine ⟨this.1, ?_⟩
   unfold kindB
   rw [decide_eq_true this.2]; rfl
 · unfold kindB at hb
   have hb : manyP n v < 0 := by simpa using hb
   have : v ∈ dstL n := by
    unfold dstL
    rw [List.mem_filter, List.mem_range, decide_eq_true_eq]
    exact ⟨hv, hb⟩
   obtain ⟨k, hk, e⟩ := mem_getD (d := 0) this
   exact ⟨k, hk, e.symm⟩
theorem posN_zero (n : List Ned) (r : List Roa) : posN n r 0 0 = 0 := rfl
theorem nwG_inc {n : List Ned} {r : List Roa} {a b : Nat} (hab : a < b) (hb : b < (nwG n r).K) : ((arL n r).getD a a30).fr < ((arL n r).getD b a30).fr ∨ ((arL n r).getD a a30).fr = ((arL n r).getD b a30).fr ∧ ((arL n r).getD a a30).to < ((arL n r).getD b a30).to := by
 have hp : (arL n r).Pairwise fun x y => x.fr < y.fr ∨ x.fr = y.fr ∧ x.to < y.to := by
  unfold arL
  rw [List.pairwise_flatMap]
  refine ⟨fun i _ => ?_, ?_⟩
  · unfold arRow
    rw [List.pairwise_filterMap]
    refine List.Pairwise.imp ?_ List.pairwise_lt_range
    intro k j hkj x hx y hy
    split at hx
    · split at hy
      · rw [Option.map_eq_some_iff] at hx hy
        obtain ⟨_, _, rfl⟩ := hx
        obtain ⟨_, _, rfl⟩ := hy
        exact .inr ⟨rfl, hkj⟩
      · cases hy
    · cases hx
  · refine List.Pairwise.imp ?_ List.pairwise_lt_range
    intro i j hij x hx y hy
    have e : ∀ {i : Nat} {x : Ar3}, x ∈ arRow n r i → x.fr = i := fun {i x} h => by
     unfold arRow at h
     rw [List.mem_filterMap] at h
     obtain ⟨k, _, h⟩ := h
     split at h
     · rw [Option.map_eq_some_iff] at h
       obtain ⟨_, _, rfl⟩ := h
       rfl
     · cases h
    rw [e hx, e hy]; exact .inl hij
 have hb : b < (arL n r).length := hb
 have := List.pairwise_iff_getElem.1 hp a b (by omega) hb hab
 rw [List.getD_eq_getElem?_getD, List.getD_eq_getElem?_getD, List.getElem?_eq_getElem (by omega), List.getElem?_eq_getElem hb]
 exact this
def oVPfM81_1 : List (Nat × List Nat) := [(0, []), (1, []), (2, []), (3, []), (4, []), (5, []), (6, [0, 1, 2, 3, 4, 5]), (7, [0, 1, 2, 3, 4, 5]), (8, [0, 1, 2, 3, 4, 5]), (9, [0, 1, 2, 3, 4, 5]), (10, [0, 1, 2, 3, 4, 5]), (11, [0, 1, 2, 3, 4, 5]), (12, [6, 7, 8, 9, 10, 11]), (13, [])]
def oVPfM81_15 : List (Nat × List Nat) := [(0, []), (1, [0]), (2, [0]), (3, []), (4, []), (5, []), (6, []), (7, []), (8, [7]), (9, [7]), (10, []), (11, []), (12, [7, 8, 9, 10, 11]), (13, [7, 8, 9, 10, 11]), (14, []), (15, [7, 8, 9, 10, 11, 12, 13, 14]), (16, [7, 8, 9, 10, 11, 12, 13, 14, 15]), (17, [7, 8, 9, 10, 11, 12, 13, 14, 15]), (18, [7, 8, 9, 10, 11, 12, 13, 14]), (19, [7, 8, 9, 10, 11, 12, 13, 14]), (20, []), (21, [])]
def oVPfM81_16 : List (Nat × List Nat) := [(0, []), (1, [0]), (2, [0]), (3, [0, 1, 2]), (4, [0, 1, 2, 3]), (5, [0, 1, 2, 3]), (6, [0, 1, 2, 3, 4, 5]), (7, [0, 1, 2, 3, 4, 5, 6]), (8, [0, 1, 2, 3, 4, 5, 6]), (9, [0, 1, 2, 3, 4, 5]), (10, [0, 1, 2, 3, 4, 5]), (11, [0, 1, 2, 3, 4, 5, 6, 7, 8, 9, 10]), (12, [0, 1, 2, 3, 4, 5, 6, 7, 8, 9, 10]), (13, [0, 1, 2, 3, 4, 5]), (14, [0, 1, 2, 3, 4, 5, 6, 7, 8, 9, 10, 11, 12, 13]), (15, [0, 1, 2, 3, 4, 5, 6, 7, 8, 9, 10, 11, 12, 13]), (16, [3, 4, 5, 14, 15]), (17, [3, 4, 5, 14, 15]), (18, []), (19, []), (20, [])]
def oVPfM81_17 : List (Nat × List Nat) := [(0, []), (1, []), (2, []), (3, []), (4, []), (5, [4]), (6, [4]), (7, []), (8, []), (9, []), (10, []), (11, []), (12, []), (13, [12]), (14, [12]), (15, []), (16, []), (17, [12, 13, 14, 15, 16]), (18, [12, 13, 14, 15, 16]), (19, []), (20, [12, 13, 14, 15, 16, 17, 18, 19]), (21, [12, 13, 14, 15, 16, 17, 18, 19, 20]), (22, [12, 13, 14, 15, 16, 17, 18, 19, 20]), (23, [12, 13, 14, 15, 16, 17, 18, 19]), (24, [12, 13, 14, 15, 16, 17, 18, 19]), (25, []), (26, [])]
def oVPfM81_18 : List (Nat × List Nat) := [(0, []), (1, [0]), (2, [0]), (3, [0, 1, 2]), (4, [0, 1, 2, 3]), (5, [0, 1, 2, 3]), (6, [0, 1, 2, 3, 4, 5]), (7, [0, 1, 2, 3, 4, 5, 6]), (8, [0, 1, 2, 3, 4, 5, 6]), (9, [0, 1, 2, 3, 4, 5]), (10, [0, 1, 2, 3, 4, 5]), (11, [0, 1, 2, 3, 4, 5, 6, 7, 8, 9, 10]), (12, [0, 1, 2, 3, 4, 5, 6, 7, 8, 9, 10]), (13, [0, 1, 2, 3, 4, 5]), (14, [0, 1, 2, 3, 4, 5, 6, 7, 8, 9, 10, 11, 12, 13]), (15, [0, 1, 2, 3, 4, 5, 6, 7, 8, 9, 10, 11, 12, 13]), (16, [3, 4, 5, 14, 15]), (17, [3, 4, 5, 14, 15]), (18, []), (19, []), (20, [])]
def nwA (N : Nat) (A : List Arc) : Nw := ⟨A.length, N, fun k => (A.getD k ar0).fr.toNat, fun k => (A.getD k ar0).to.toNat, fun k => (A.getD k ar0).car⟩
def floA (A : List Arc) (k : Nat) : Int := (A.getD k ar0).flow
def stpD (s : Int × Bool) : Option (Nat × Bool) := if s.1 < 0 then none else some (s.1.toNat, s.2)
structure ArOk (N : Nat) (A : List Arc) : Prop where
 len : A.length ≤ 1000
 fr : ∀ k, k < A.length → 0 ≤ (A.getD k ar0).fr ∧ (A.getD k ar0).fr < N
 to : ∀ k, k < A.length → 0 ≤ (A.getD k ar0).to ∧ (A.getD k ar0).to < N
 car : ∀ k, k < A.length → 0 ≤ (A.getD k ar0).car ∧ (A.getD k ar0).car ≤ 1000000
def getI (D : List Int) (v : Nat) : Int := D.getD v 0
def getB (E : List (Int × Bool)) (v : Nat) : Option (Nat × Bool) := stpD (E.getD v (0, false))
theorem Res.le_zrow {α : Type} {e : TypeId} {k n : Nat} {f : α → List DV} {d : α} {F : Nat → α} {g : Nat → List DV} (hg : ∀ i, g i = f d) : Res.le (.buf e k ((n : Nat) : Int).toNat g) (seqB e k f d (fillA d F n 0)) := by
 refine Res.le_buf (by rw [fillA_length]; exact Int.toNat_natCast n) (fun i hi => ?_)
 rw [hg]
 have hi : i < n := by simpa using hi
 unfold rowF fillA
 simp [List.getElem?_map, hi]
theorem row_fill {α : Type} {f : α → List DV} {d : α} {F : Nat → α} {n m j : Nat} (hj : j < n) : rowF f d (fillA d F n m) j = f (if j < m then F j else d) := by
 unfold rowF fillA
 simp [List.getElem?_map, hj]
theorem beq_ne {j i : Nat} (q : j ≠ i) : Nat.beq j i = false := by
 cases h : Nat.beq j i with
 | false => rfl
 | true => exact absurd (Nat.eq_of_beq_eq_true h) q
theorem getI_set {D : List Int} {a : Nat} {x : Int} (h : a < D.length) : getI (D.set a x) = upd (getI D) a x := by
 funext v
 unfold getI upd
 rw [List.getD_eq_getElem?_getD, List.getElem?_set]
 by_cases q : v = a
 · subst q; simp [h]
 · rw [if_neg (fun z => q z.symm), if_neg q, ← List.getD_eq_getElem?_getD]
theorem getB_set {E : List (Int × Bool)} {a : Nat} {x : Int × Bool} (h : a < E.length) : getB (E.set a x) = upd (getB E) a (stpD x) := by
 funext v
 unfold getB upd
 rw [List.getD_eq_getElem?_getD, List.getElem?_set]
 by_cases q : v = a
 · subst q; simp [h]
 · rw [if_neg (fun z => q z.symm), if_neg q, ← List.getD_eq_getElem?_getD]
theorem nwA_ok {N : Nat} {A : List Arc} (h : ArOk N A) : (nwA N A).Ok :=
 ⟨fun k hk => by have := h.fr k hk; show ((A.getD k ar0).fr).toNat < N; omega, fun k hk => by have := h.to k hk; show ((A.getD k ar0).to).toNat < N; omega, fun k hk => (h.car k hk).1⟩
theorem RegX.ent {P : Program} {id : Nat} {ops : Array Oper} {k : St → Prop} {s s' : St} (he : Entails s s') (h : RegX P id ops k s') : RegX P id ops k s := ⟨fun A a w hN hm => h.wp A a w hN (he.imp A a w hm)⟩
structure HoldR (p : Prop) : Prop where
 h : p
theorem HoldR.mk' {P : Program} {id : Nat} {ops : Array Oper} {k : St → Prop} {s : St} (h : HoldR (RegX P id ops k s)) : RegX P id ops k s := h.h
abbrev st263 (h w : List Int) (A : List Arc) (Lf : List Int) (k : Nat) (a : List Int × List (Int × Bool) × Bool) : St := mkSt [(0, .ptr 1000000 0), (4, .buf 15), (5, .buf 21), (7, .d (.bool a.2.2)), (8, .d (.int .i64 k)), (9, .ptr 9 0), (47, .buf 1000003), (48, .d (.int .i64 A.length)), (49, .d (.int .i64 k))] ([(1000004, seqB 3 1 iF 0 Lf)] ++ tpB h w A ++ [(15, seqB 3 1 iF 0 a.1), (21, seqB 139 2 stF (0, false) a.2.1), (9, .cells 108 ((arF (A.getD (k : Int).toNat ar0)).map .d))])
abbrev pr263 (h : List Int) (A : List Arc) (Lf : List Int) (p : Nat → Int) (D0 : List Int) (k : Nat) (a : List Int × List (Int × Bool) × Bool) : Prop := (a.1.length = h.length ∧ a.2.1.length = h.length) ∧ (nwA h.length A).Wy (floA A) (getI Lf) p (getI a.1) (getB a.2.1) ∧ (nwA h.length A).Bd 1000000 (getI a.1) ∧ (a.2.2 = false → a.1 = D0 ∧ (∀ e, (nwA h.length A).Re (floA A) e → e.1 < k ∨ e = (k, false) → getI a.1 ((nwA h.length A).tl e) < farD → getI a.1 ((nwA h.length A).hd e) ≤ getI a.1 ((nwA h.length A).tl e) + (nwA h.length A).cc e)) ∧ (a.2.2 = true → su (getI a.1) h.length < su (getI D0) h.length)
set_option maxHeartbeats 8000000 in
theorem p263 (h w : List Int) (A : List Arc) (Lf : List Int) (hA : ArOk h.length A) (hn : h.length ≤ 1000) (hlf : Lf.length = h.length) (p : Nat → Int) (hp : (nwA h.length A).Pot (getI h) (floA A) (getI Lf) p) :
 FSpec Tryz.prog 81 [.ptr 1000000 0, .buf 1000004] ([(1000004, seqB 3 1 iF 0 Lf)] ++ tpB h w A)
 (fun y r => (∃ D E, (D.length = h.length ∧ E.length = h.length) ∧ (nwA h.length A).Wy (floA A) (getI Lf) p (getI D) (getB E) ∧ (nwA h.length A).Bd 1000000 (getI D) ∧ (nwA h.length A).Fin (floA A) (getI D) ∧ y = .tup [.d (ints D), .d (steps E)]) ∧ r = [(1000004, seqB 3 1 iF 0 Lf)] ++ tpB h w A) := by
 refine spec_of hT (C := []) Tryz.func81 rfl Tryz.call81 rfl rfl rfl ?_
 conv => whnf
 repeat' (first | (refine br_intro ?_ ?_ <;> intro hb <;> (try simp only [brs] at hb) <;> conv => whnf) | (refine RegX.rule (id := 1) hT rfl [] oVPfM81_1 (by decide +kernel) ?_; conv => whnf) | (refine RegX.rule (id := 15) hT rfl [] oVPfM81_15 (by decide +kernel) ?_; conv => whnf) | (refine RegX.rule (id := 16) hT rfl [] oVPfM81_16 (by decide +kernel) ?_; conv => whnf) | (refine RegX.rule (id := 17) hT rfl [] oVPfM81_17 (by decide +kernel) ?_; conv => whnf) | (refine RegX.rule (id := 18) hT rfl [] oVPfM81_18 (by decide +kernel) ?_; conv => whnf) | omega | (refine And.intro ?_ ?_; ((try dsimp only); first | omega | (refine szA rfl ?_; omega) | (refine szB rfl ?_; omega) | (unfold inI64; omega) | exact rfl | (simp only [lns] at *; omega) | decide | (unfold inI64; decide)); conv => whnf) | decide | assumption)
 obtain ⟨F0, hF0⟩ : ∃ F0 : Nat → Int, F0 = fun v => if 0 < getI Lf v then 0 else farD := ⟨_, rfl⟩
 refine LoopX.rule hT (C := []) (ι := Nat) (fun i => i ≤ h.length) (fun i => mkSt [(0, .ptr 1000000 0), (1, .buf 1000004), (4, .buf 15), (5, .buf 21), (23, .d (.int .i64 h.length)), (24, .d (.int .i64 i))] ([(1000004, seqB 3 1 iF 0 Lf)] ++ tpB h w A ++ [(15, seqB 3 1 iF 0 (fillA 0 F0 h.length i)), (21, seqB 139 2 stF (0, false) (fillA (0, false) (fun _ => (-1, false)) h.length i))])) (fun i => h.length - i) 0 (by omega) ?_ ?_
 · exact Entails.mk' [(1000004, 1000004), (1000000, 1000000), (1000001, 1000001), (1000002, 1000002), (1000003, 1000003), (15, 15), (21, 21)] rfl rfl ⟨lr, lr, lr, lr, SV.le_int (by omega), lr, trivial⟩ ⟨rr, rr, rr, rr, rr, Res.le_zrow (fun _ => rfl), Res.le_zrow (fun _ => rfl), trivial⟩
 intro i p1
 have e1 : (i : Int).toNat = i := Int.toNat_natCast i
 have hD0 : (fillA 0 F0 h.length i).length = h.length := fillA_length
 have hE0 : (fillA (0, false) (fun _ => ((-1 : Int), false)) h.length i).length = h.length := fillA_length
 rcases Nat.lt_or_ge i h.length with hi | hi
 · conv => whnf
   repeat' (first | (refine br_intro ?_ ?_ <;> intro hb <;> (try simp only [brs] at hb) <;> conv => whnf) | (refine RegX.rule (id := 1) hT rfl [] oVPfM81_1 (by decide +kernel) ?_; conv => whnf) | (refine RegX.rule (id := 15) hT rfl [] oVPfM81_15 (by decide +kernel) ?_; conv => whnf) | (refine RegX.rule (id := 16) hT rfl [] oVPfM81_16 (by decide +kernel) ?_; conv => whnf) | (refine RegX.rule (id := 17) hT rfl [] oVPfM81_17 (by decide +kernel) ?_; conv => whnf) | (refine RegX.rule (id := 18) hT rfl [] oVPfM81_18 (by decide +kernel) ?_; conv => whnf) | omega | (refine And.intro ?_ ?_; ((try dsimp only); first | omega | (refine szA rfl ?_; omega) | (refine szB rfl ?_; omega) | (unfold inI64; omega) | exact rfl | (simp only [lns] at *; omega) | decide | (unfold inI64; decide)); conv => whnf) | decide | assumption)
   all_goals try (exfalso; omega)
   all_goals
    have hF : F0 i = if 0 < Lf.getD i 0 then 0 else farD := by rw [hF0]; rfl
    refine ⟨i + 1, by omega, by omega, Entails.mk' [(1000004, 1000004), (1000000, 1000000), (1000001, 1000001), (1000002, 1000002), (1000003, 1000003), (15, 15), (21, 21)] rfl rfl ⟨lr, lr, lr, lr, lr, lr, trivial⟩ ⟨rr, rr, rr, rr, rr, ?_, ?_, trivial⟩⟩
   all_goals
    refine Res.le_buf (by rw [fillA_length, fillA_length]) (fun j hj => ?_)
    have hj : j < h.length := by rw [fillA_length] at hj; exact hj
    conv => rhs; rw [row_fill hj]
    by_cases q : j = i
    · subst q
      rw [e1, if_pos (Nat.lt_succ_self _)]
      simp only [Nat.beq_refl, cond_true]
      first
       | rfl
       | (rw [hF, if_pos hb]; rfl)
       | (rw [hF, if_neg (by omega)]; rfl)
    · have q1 : Nat.beq j i = false := beq_ne q
      rw [e1]
      have q2 : (j < i + 1) = (j < i) := by rw [eq_iff_iff]; omega
      simp only [q1, cond_false, row_fill hj, q2]
 · have hih : i = h.length := by omega
   rw [hih]
   conv => whnf
   repeat' (first | (refine br_intro ?_ ?_ <;> intro hb <;> (try simp only [brs] at hb) <;> conv => whnf) | (refine RegX.rule (id := 1) hT rfl [] oVPfM81_1 (by decide +kernel) ?_; conv => whnf) | (refine RegX.rule (id := 15) hT rfl [] oVPfM81_15 (by decide +kernel) ?_; conv => whnf) | (refine RegX.rule (id := 16) hT rfl [] oVPfM81_16 (by decide +kernel) ?_; conv => whnf) | (refine RegX.rule (id := 17) hT rfl [] oVPfM81_17 (by decide +kernel) ?_; conv => whnf) | (refine RegX.rule (id := 18) hT rfl [] oVPfM81_18 (by decide +kernel) ?_; conv => whnf) | omega | (refine And.intro ?_ ?_; ((try dsimp only); first | omega | (refine szA rfl ?_; omega) | (refine szB rfl ?_; omega) | (unfold inI64; omega) | exact rfl | (simp only [lns] at *; omega) | decide | (unfold inI64; decide)); conv => whnf) | decide | assumption)
   all_goals try (exfalso; omega)
   have hG := nwA_ok hA
   have hi0 : ∀ v, v < (nwA h.length A).N → getI (fillA 0 F0 h.length h.length) v = if 0 < getI Lf v then 0 else farD := fun v hv => by
    show (fillA 0 F0 h.length h.length).getD v 0 = _
    have hv : v < h.length := hv
    rw [fillA_get hv, hF0]
   have hw0 : (nwA h.length A).Wy (floA A) (getI Lf) p (getI (fillA 0 F0 h.length h.length)) (getB (fillA (0, false) (fun _ => ((-1 : Int), false)) h.length h.length)) := Nw.wy_init hp hi0 (fun v hv => by
    have hv : v < h.length := hv
    unfold getB
    rw [fillA_get hv]; rfl)
   have hb0 : (nwA h.length A).Bd 1000000 (getI (fillA 0 F0 h.length h.length)) := Nw.bd_init (by omega) hi0
   refine LoopX.rule hT (C := []) (ι := List Int × List (Int × Bool) × Bool) (fun (D, E, ch) => (D.length = h.length ∧ E.length = h.length) ∧ (nwA h.length A).Wy (floA A) (getI Lf) p (getI D) (getB E) ∧ (nwA h.length A).Bd 1000000 (getI D) ∧ (ch = false → (nwA h.length A).Fin (floA A) (getI D)))
    (fun (D, E, ch) => mkSt [(0, .ptr 1000000 0), (4, .buf 15), (5, .buf 21), (7, .d (.bool ch))] ([(1000004, seqB 3 1 iF 0 Lf)] ++ tpB h w A ++ [(15, seqB 3 1 iF 0 D), (21, seqB 139 2 stF (0, false) E)]))
    (fun (D, _, ch) => 2 * (su (getI D) h.length).toNat + (if ch = true then 1 else 0)) (fillA 0 F0 h.length h.length, fillA (0, false) (fun _ => (-1, false)) h.length h.length, true) ⟨⟨fillA_length, fillA_length⟩, hw0, hb0, fun z => by cases z⟩ ?_ ?_
   · exact Entails.mk' [(1000004, 1000004), (1000000, 1000000), (1000001, 1000001), (1000002, 1000002), (1000003, 1000003), (15, 15), (21, 21)] rfl rfl ⟨lr, lr, lr, lr, trivial⟩ ⟨rr, rr, rr, rr, rr, rr, rr, trivial⟩
   rintro ⟨D0, E0, ch⟩ ⟨⟨hDl, hEl⟩, hW, hB, hFin⟩
   have hDl : D0.length = h.length := hDl
   have hEl : E0.length = h.length := hEl
   cases ch with
   | false =>
     conv => whnf
     repeat' (first | (refine br_intro ?_ ?_ <;> intro hb <;> (try simp only [brs] at hb) <;> conv => whnf) | (refine RegX.rule (id := 1) hT rfl [] oVPfM81_1 (by decide +kernel) ?_; conv => whnf) | (refine RegX.rule (id := 15) hT rfl [] oVPfM81_15 (by decide +kernel) ?_; conv => whnf) | (refine RegX.rule (id := 16) hT rfl [] oVPfM81_16 (by decide +kernel) ?_; conv => whnf) | (refine RegX.rule (id := 17) hT rfl [] oVPfM81_17 (by decide +kernel) ?_; conv => whnf) | (refine RegX.rule (id := 18) hT rfl [] oVPfM81_18 (by decide +kernel) ?_; conv => whnf) | omega | (refine And.intro ?_ ?_; ((try dsimp only); first | omega | (refine szA rfl ?_; omega) | (refine szB rfl ?_; omega) | (unfold inI64; omega) | exact rfl | (simp only [lns] at *; omega) | decide | (unfold inI64; decide)); conv => whnf) | decide | assumption)
     all_goals try (exfalso; omega)
     refine .freeze _ 15 3 1 _ _ rfl (.freeze _ 21 139 2 _ _ rfl (.weak _ ?_))
     conv => whnf
     exact ⟨.tup [.d (ints D0), .d (steps E0)], _, SV.le_tup ⟨lr, lr, trivial⟩, ⟨⟨D0, E0, ⟨hDl, hEl⟩, hW, hB, hFin rfl, rfl⟩, rfl⟩, rr, rr, rr, rr, rr, trivial⟩
   | true =>
     conv => whnf
     repeat' (first | (refine br_intro ?_ ?_ <;> intro hb <;> (try simp only [brs] at hb) <;> conv => whnf) | (refine RegX.rule (id := 1) hT rfl [] oVPfM81_1 (by decide +kernel) ?_; conv => whnf) | (refine RegX.rule (id := 15) hT rfl [] oVPfM81_15 (by decide +kernel) ?_; conv => whnf) | (refine RegX.rule (id := 16) hT rfl [] oVPfM81_16 (by decide +kernel) ?_; conv => whnf) | (refine RegX.rule (id := 17) hT rfl [] oVPfM81_17 (by decide +kernel) ?_; conv => whnf) | (refine RegX.rule (id := 18) hT rfl [] oVPfM81_18 (by decide +kernel) ?_; conv => whnf) | omega | (refine And.intro ?_ ?_; ((try dsimp only); first | omega | (refine szA rfl ?_; omega) | (refine szB rfl ?_; omega) | (unfold inI64; omega) | exact rfl | (simp only [lns] at *; omega) | decide | (unfold inI64; decide)); conv => whnf) | decide | assumption)
     all_goals try (exfalso; omega)
     refine LoopX.rule hT (C := []) (ι := List Int × List (Int × Bool) × Bool × Nat) (fun (D, E, ch, k) => k ≤ A.length ∧ (D.length = h.length ∧ E.length = h.length) ∧ (nwA h.length A).Wy (floA A) (getI Lf) p (getI D) (getB E) ∧ (nwA h.length A).Bd 1000000 (getI D) ∧ (ch = false → D = D0 ∧ ∀ e, (nwA h.length A).Re (floA A) e → e.1 < k → getI D ((nwA h.length A).tl e) < farD → getI D ((nwA h.length A).hd e) ≤ getI D ((nwA h.length A).tl e) + (nwA h.length A).cc e) ∧ (ch = true → su (getI D) h.length < su (getI D0) h.length))
      (fun (D, E, ch, k) => mkSt [(0, .ptr 1000000 0), (4, .buf 15), (5, .buf 21), (7, .d (.bool ch)), (47, .buf 1000003), (48, .d (.int .i64 A.length)), (49, .d (.int .i64 k))] ([(1000004, seqB 3 1 iF 0 Lf)] ++ tpB h w A ++ [(15, seqB 3 1 iF 0 D), (21, seqB 139 2 stF (0, false) E)]))
      (fun (_, _, _, k) => A.length - k) (D0, E0, false, 0) ⟨Nat.zero_le _, ⟨hDl, hEl⟩, hW, hB, fun _ => ⟨rfl, fun e _ q => absurd q (Nat.not_lt_zero _)⟩, fun z => by cases z⟩ ?_ ?_
     · exact Entails.mk' [(1000004, 1000004), (1000000, 1000000), (1000001, 1000001), (1000002, 1000002), (1000003, 1000003), (15, 15), (21, 21)] rfl rfl ⟨lr, lr, lr, lr, lr, lr, lr, trivial⟩ ⟨rr, rr, rr, rr, rr, rr, rr, trivial⟩
     rintro ⟨D, E, ch, k⟩ ⟨hk, ⟨hd1, he1⟩, hW1, hB1, hno, hyes⟩
     have hk : k ≤ A.length := hk
     have hd1 : D.length = h.length := hd1
     have he1 : E.length = h.length := he1
     have ek : (k : Int).toNat = k := Int.toNat_natCast k
     rcases Nat.lt_or_ge k A.length with hkA | hkA
     · have hfr := hA.fr k hkA
       have hto := hA.to k hkA
       have hcar := hA.car k hkA
       rw [← ek] at hfr hto hcar
       have hAl := hA.len
       have hDf : 0 ≤ D.getD (A.getD (k : Int).toNat ar0).fr.toNat 0 ∧ D.getD (A.getD (k : Int).toNat ar0).fr.toNat 0 ≤ 1125899906842624 := hW1.nn hp (by show _ < h.length; omega)
       have hDt : 0 ≤ D.getD (A.getD (k : Int).toNat ar0).to.toNat 0 ∧ D.getD (A.getD (k : Int).toNat ar0).to.toNat 0 ≤ 1125899906842624 := hW1.nn hp (by show _ < h.length; omega)
       conv => whnf
       repeat' (first | (refine HoldR.mk' (id := 17) ?_; conv => whnf) | (refine br_intro ?_ ?_ <;> intro hb <;> (try simp only [brs] at hb) <;> conv => whnf) | (refine RegX.rule (id := 1) hT rfl [] oVPfM81_1 (by decide +kernel) ?_; conv => whnf) | (refine RegX.rule (id := 15) hT rfl [] oVPfM81_15 (by decide +kernel) ?_; conv => whnf) | (refine RegX.rule (id := 16) hT rfl [] oVPfM81_16 (by decide +kernel) ?_; conv => whnf) | (refine RegX.rule (id := 17) hT rfl [] oVPfM81_17 (by decide +kernel) ?_; conv => whnf) | (refine RegX.rule (id := 18) hT rfl [] oVPfM81_18 (by decide +kernel) ?_; conv => whnf) | omega | (refine And.intro ?_ ?_; ((try dsimp only); first | omega | (refine szA rfl ?_; omega) | (refine szB rfl ?_; omega) | (unfold inI64; omega) | exact rfl | (simp only [lns] at *; omega) | decide | (unfold inI64; decide)); conv => whnf) | decide | assumption)
       all_goals try (exfalso; omega)
       · have h1 : getI D ((nwA h.length A).tl (k, false)) < farD := by rename_i z; exact z
         have h2 : getI D ((nwA h.length A).tl (k, false)) + (nwA h.length A).cc (k, false) < getI D ((nwA h.length A).hd (k, false)) := hb
         have hre : (nwA h.length A).Re (floA A) (k, false) := ⟨hkA, fun z => by simp at z⟩
         have hW2 := hW1.relax hG hp hre h1 h2
         have hB2 := hB1.relax (by omega) (Nw.hd_lt hG (e := (k, false)) hkA).1 (Nw.hd_lt hG (e := (k, false)) hkA).2 (by rw [ek] at hcar; exact hcar.2) h1 h2 (hW1.d1 _ (Nw.hd_lt hG (e := (k, false)) hkA).1).1
         have hlt : su (upd (getI D) ((nwA h.length A).hd (k, false)) (getI D ((nwA h.length A).tl (k, false)) + (nwA h.length A).cc (k, false))) h.length < su (getI D) h.length := by
          have hsu := su_upd (F := getI D) (n := h.length) (a := (nwA h.length A).hd (k, false)) (x := getI D ((nwA h.length A).tl (k, false)) + (nwA h.length A).cc (k, false)) (Nw.hd_lt hG (e := (k, false)) hkA).1
          rw [hsu]; omega
         have hle : su (getI D) h.length ≤ su (getI D0) h.length := by
          cases hc : ch with
          | false => rw [(hno hc).1]; exact Int.le_refl _
          | true => have := hyes hc; omega
         have eD : getI (D.set (A.getD (k : Int).toNat ar0).to.toNat (D.getD (A.getD (k : Int).toNat ar0).fr.toNat 0 + (A.getD (k : Int).toNat ar0).car)) = upd (getI D) ((nwA h.length A).hd (k, false)) (getI D ((nwA h.length A).tl (k, false)) + (nwA h.length A).cc (k, false)) := by
          rw [getI_set (by omega), ek]; rfl
         have eE : getB (E.set (A.getD (k : Int).toNat ar0).to.toNat ((k : Int), false)) = upd (getB E) ((nwA h.length A).hd (k, false)) (some (k, false)) := by
          rw [getB_set (by omega), ek]
          have : stpD ((k : Int), false) = some (k, false) := by unfold stpD; rw [if_neg (by show ¬ (k : Int) < 0; omega)]; rfl
          rw [this]; rfl
         refine ⟨RegX.ent ?_ ((?_ : ∀ a : List Int × List (Int × Bool) × Bool, pr263 h A Lf p D0 k a → RegX Tryz.prog 17 _ _ (st263 h w A Lf k a)) (D.set (A.getD (k : Int).toNat ar0).to.toNat (D.getD (A.getD (k : Int).toNat ar0).fr.toNat 0 + (A.getD (k : Int).toNat ar0).car), E.set (A.getD (k : Int).toNat ar0).to.toNat ((k : Int), false), true) ⟨⟨by rw [List.length_set]; exact hd1, by rw [List.length_set]; exact he1⟩, by rw [eD, eE]; exact hW2, by rw [eD]; exact hB2, fun z => (by cases z), fun _ => by rw [eD]; omega⟩)⟩
         · exact Entails.mk' [(1000004, 1000004), (1000000, 1000000), (1000001, 1000001), (1000002, 1000002), (1000003, 1000003), (15, 15), (21, 21), (9, 9)] rfl rfl ⟨lr, lr, lr, lr, lr, lr, lr, lr, lr, trivial⟩ ⟨rr, rr, rr, rr, rr, Res.le_upd (fun _ => (D.getD (A.getD (k : Int).toNat ar0).fr.toNat 0 + (A.getD (k : Int).toNat ar0).car)) (fun y => rfl), Res.le_upd (fun _ => ((k : Int), false)) (fun y => rfl), rr, trivial⟩
         · clear hno hyes hW1 hB1 hd1 he1 hDf hDt hW2 hB2 hlt hle eD eE
           rintro ⟨D, E, ch⟩ ⟨⟨hd1, he1⟩, hW1, hB1, hno, hyes⟩
           have hd1 : D.length = h.length := hd1
           have he1 : E.length = h.length := he1
           have hno : ch = false → D = D0 ∧ _ := hno
           have hyes : ch = true → su (getI D) h.length < su (getI D0) h.length := hyes
           have hDf : 0 ≤ D.getD (A.getD (k : Int).toNat ar0).fr.toNat 0 ∧ D.getD (A.getD (k : Int).toNat ar0).fr.toNat 0 ≤ 1125899906842624 := hW1.nn hp (by show _ < h.length; omega)
           have hDt : 0 ≤ D.getD (A.getD (k : Int).toNat ar0).to.toNat 0 ∧ D.getD (A.getD (k : Int).toNat ar0).to.toNat 0 ≤ 1125899906842624 := hW1.nn hp (by show _ < h.length; omega)
           refine RegX.rule (id := 17) hT rfl [] oVPfM81_17 (by decide +kernel) ?_
           conv => whnf
           repeat' (first | (refine br_intro ?_ ?_ <;> intro hb <;> (try simp only [brs] at hb) <;> conv => whnf) | (refine RegX.rule (id := 1) hT rfl [] oVPfM81_1 (by decide +kernel) ?_; conv => whnf) | (refine RegX.rule (id := 15) hT rfl [] oVPfM81_15 (by decide +kernel) ?_; conv => whnf) | (refine RegX.rule (id := 16) hT rfl [] oVPfM81_16 (by decide +kernel) ?_; conv => whnf) | (refine RegX.rule (id := 17) hT rfl [] oVPfM81_17 (by decide +kernel) ?_; conv => whnf) | (refine RegX.rule (id := 18) hT rfl [] oVPfM81_18 (by decide +kernel) ?_; conv => whnf) | omega | (refine And.intro ?_ ?_; ((try dsimp only); first | omega | (refine szA rfl ?_; omega) | (refine szB rfl ?_; omega) | (unfold inI64; omega) | exact rfl | (simp only [lns] at *; omega) | decide | (unfold inI64; decide)); conv => whnf) | decide | assumption)
           all_goals try (exfalso; omega)
           · rename_i hf ht
             have hre : (nwA h.length A).Re (floA A) (k, true) := ⟨hkA, fun _ => hf⟩
             have h1 : getI D ((nwA h.length A).tl (k, true)) < farD := ht
             have h2 : getI D ((nwA h.length A).tl (k, true)) + (nwA h.length A).cc (k, true) < getI D ((nwA h.length A).hd (k, true)) := hb
             have hW2 := hW1.relax hG hp hre h1 h2
             have hB2 := hB1.relax (by omega) (Nw.hd_lt hG (e := (k, true)) hkA).1 (Nw.hd_lt hG (e := (k, true)) hkA).2 (by rw [ek] at hcar; show - (A.getD k ar0).car ≤ 1000000; omega) h1 h2 (hW1.d1 _ (Nw.hd_lt hG (e := (k, true)) hkA).1).1
             have hlt : su (upd (getI D) ((nwA h.length A).hd (k, true)) (getI D ((nwA h.length A).tl (k, true)) + (nwA h.length A).cc (k, true))) h.length < su (getI D) h.length := by
              have hsu := su_upd (F := getI D) (n := h.length) (a := (nwA h.length A).hd (k, true)) (x := getI D ((nwA h.length A).tl (k, true)) + (nwA h.length A).cc (k, true)) (Nw.hd_lt hG (e := (k, true)) hkA).1
              rw [hsu]; omega
             have hle : su (getI D) h.length ≤ su (getI D0) h.length := by
              cases hc : ch with
              | false => rw [(hno hc).1]; exact Int.le_refl _
              | true => have := hyes hc; omega
             have eD : getI (D.set (A.getD (k : Int).toNat ar0).fr.toNat (D.getD (A.getD (k : Int).toNat ar0).to.toNat 0 - (A.getD (k : Int).toNat ar0).car)) = upd (getI D) ((nwA h.length A).hd (k, true)) (getI D ((nwA h.length A).tl (k, true)) + (nwA h.length A).cc (k, true)) := by
              rw [getI_set (by omega), ek]; rfl
             have eE : getB (E.set (A.getD (k : Int).toNat ar0).fr.toNat ((k : Int), true)) = upd (getB E) ((nwA h.length A).hd (k, true)) (some (k, true)) := by
              rw [getB_set (by omega), ek]
              have : stpD ((k : Int), true) = some (k, true) := by unfold stpD; rw [if_neg (by show ¬ (k : Int) < 0; omega)]; rfl
              rw [this]; rfl
             refine ⟨(D.set (A.getD (k : Int).toNat ar0).fr.toNat (D.getD (A.getD (k : Int).toNat ar0).to.toNat 0 - (A.getD (k : Int).toNat ar0).car), E.set (A.getD (k : Int).toNat ar0).fr.toNat ((k : Int), true), true, k + 1), ⟨by omega, ⟨by rw [List.length_set]; exact hd1, by rw [List.length_set]; exact he1⟩, by rw [eD, eE]; exact hW2, by rw [eD]; exact hB2, fun z => (by cases z), fun _ => by rw [eD]; omega⟩, by show A.length - (k + 1) < A.length - k; omega, ?_⟩
             exact Entails.mk' [(1000004, 1000004), (1000000, 1000000), (1000001, 1000001), (1000002, 1000002), (1000003, 1000003), (15, 15), (21, 21)] rfl rfl ⟨lr, lr, lr, lr, lr, lr, lr, trivial⟩ ⟨rr, rr, rr, rr, rr, Res.le_upd (fun _ => (D.getD (A.getD (k : Int).toNat ar0).to.toNat 0 - (A.getD (k : Int).toNat ar0).car)) (fun y => rfl), Res.le_upd (fun _ => ((k : Int), true)) (fun y => rfl), trivial⟩
           all_goals
            refine ⟨(D, E, ch, k + 1), ⟨by omega, ⟨hd1, he1⟩, hW1, hB1, fun z => ⟨(hno z).1, fun e he q hl => ?_⟩, hyes⟩, by show A.length - (k + 1) < A.length - k; omega, ?_⟩
           all_goals first
            | exact Entails.mk' [(1000004, 1000004), (1000000, 1000000), (1000001, 1000001), (1000002, 1000002), (1000003, 1000003), (15, 15), (21, 21)] rfl rfl ⟨lr, lr, lr, lr, lr, lr, lr, trivial⟩ ⟨rr, rr, rr, rr, rr, rr, rr, trivial⟩
            | (by_cases w : e.1 < k ∨ e = (k, false)
               · exact (hno z).2 e he w hl
               · have w1 : e.1 = k := by omega
                 have w2 : e.2 = true := by
                  cases w3 : e.2
                  · exfalso; apply w; right; rw [← w1, ← w3]
                  · rfl
                 have w4 : e = (k, true) := by rw [← w1, ← w2]
                 subst w4
                 first
                  | exact hb
                  | (exfalso; exact absurd hl (Int.not_lt.2 hb))
                  | (exfalso; exact absurd (he.2 rfl) (Int.not_lt.2 hb)))
       all_goals
        refine ⟨RegX.ent ?_ ((?_ : ∀ a : List Int × List (Int × Bool) × Bool, pr263 h A Lf p D0 k a → RegX Tryz.prog 17 _ _ (st263 h w A Lf k a)) (D, E, ch) ⟨⟨hd1, he1⟩, hW1, hB1, fun z => ⟨(hno z).1, fun e he q hl => ?_⟩, hyes⟩)⟩
       all_goals first
        | exact Entails.mk' [(1000004, 1000004), (1000000, 1000000), (1000001, 1000001), (1000002, 1000002), (1000003, 1000003), (15, 15), (21, 21), (9, 9)] rfl rfl ⟨lr, lr, lr, lr, lr, lr, lr, lr, lr, trivial⟩ ⟨rr, rr, rr, rr, rr, rr, rr, rr, trivial⟩
        | (rcases q with q | q
           · exact (hno z).2 e he q hl
           · subst q
             first
              | exact hb
              | (exfalso; exact absurd hl (Int.not_lt.2 hb)))
        | skip
       all_goals
        clear hno hyes hW1 hB1 hd1 he1 hDf hDt
        rintro ⟨D, E, ch⟩ ⟨⟨hd1, he1⟩, hW1, hB1, hno, hyes⟩
        have hd1 : D.length = h.length := hd1
        have he1 : E.length = h.length := he1
        have hno : ch = false → D = D0 ∧ _ := hno
        have hyes : ch = true → su (getI D) h.length < su (getI D0) h.length := hyes
        have hDf : 0 ≤ D.getD (A.getD (k : Int).toNat ar0).fr.toNat 0 ∧ D.getD (A.getD (k : Int).toNat ar0).fr.toNat 0 ≤ 1125899906842624 := hW1.nn hp (by show _ < h.length; omega)
        have hDt : 0 ≤ D.getD (A.getD (k : Int).toNat ar0).to.toNat 0 ∧ D.getD (A.getD (k : Int).toNat ar0).to.toNat 0 ≤ 1125899906842624 := hW1.nn hp (by show _ < h.length; omega)
        refine RegX.rule (id := 17) hT rfl [] oVPfM81_17 (by decide +kernel) ?_
        conv => whnf
        repeat' (first | (refine br_intro ?_ ?_ <;> intro hb <;> (try simp only [brs] at hb) <;> conv => whnf) | (refine RegX.rule (id := 1) hT rfl [] oVPfM81_1 (by decide +kernel) ?_; conv => whnf) | (refine RegX.rule (id := 15) hT rfl [] oVPfM81_15 (by decide +kernel) ?_; conv => whnf) | (refine RegX.rule (id := 16) hT rfl [] oVPfM81_16 (by decide +kernel) ?_; conv => whnf) | (refine RegX.rule (id := 17) hT rfl [] oVPfM81_17 (by decide +kernel) ?_; conv => whnf) | (refine RegX.rule (id := 18) hT rfl [] oVPfM81_18 (by decide +kernel) ?_; conv => whnf) | omega | (refine And.intro ?_ ?_; ((try dsimp only); first | omega | (refine szA rfl ?_; omega) | (refine szB rfl ?_; omega) | (unfold inI64; omega) | exact rfl | (simp only [lns] at *; omega) | decide | (unfold inI64; decide)); conv => whnf) | decide | assumption)
        all_goals try (exfalso; omega)
        · rename_i hf ht
          have hre : (nwA h.length A).Re (floA A) (k, true) := ⟨hkA, fun _ => hf⟩
          have h1 : getI D ((nwA h.length A).tl (k, true)) < farD := ht
          have h2 : getI D ((nwA h.length A).tl (k, true)) + (nwA h.length A).cc (k, true) < getI D ((nwA h.length A).hd (k, true)) := hb
          have hW2 := hW1.relax hG hp hre h1 h2
          have hB2 := hB1.relax (by omega) (Nw.hd_lt hG (e := (k, true)) hkA).1 (Nw.hd_lt hG (e := (k, true)) hkA).2 (by rw [ek] at hcar; show - (A.getD k ar0).car ≤ 1000000; omega) h1 h2 (hW1.d1 _ (Nw.hd_lt hG (e := (k, true)) hkA).1).1
          have hlt : su (upd (getI D) ((nwA h.length A).hd (k, true)) (getI D ((nwA h.length A).tl (k, true)) + (nwA h.length A).cc (k, true))) h.length < su (getI D) h.length := by
           have hsu := su_upd (F := getI D) (n := h.length) (a := (nwA h.length A).hd (k, true)) (x := getI D ((nwA h.length A).tl (k, true)) + (nwA h.length A).cc (k, true)) (Nw.hd_lt hG (e := (k, true)) hkA).1
           rw [hsu]; omega
          have hle : su (getI D) h.length ≤ su (getI D0) h.length := by
           cases hc : ch with
           | false => rw [(hno hc).1]; exact Int.le_refl _
           | true => have := hyes hc; omega
          have eD : getI (D.set (A.getD (k : Int).toNat ar0).fr.toNat (D.getD (A.getD (k : Int).toNat ar0).to.toNat 0 - (A.getD (k : Int).toNat ar0).car)) = upd (getI D) ((nwA h.length A).hd (k, true)) (getI D ((nwA h.length A).tl (k, true)) + (nwA h.length A).cc (k, true)) := by
           rw [getI_set (by omega), ek]; rfl
          have eE : getB (E.set (A.getD (k : Int).toNat ar0).fr.toNat ((k : Int), true)) = upd (getB E) ((nwA h.length A).hd (k, true)) (some (k, true)) := by
           rw [getB_set (by omega), ek]
           have : stpD ((k : Int), true) = some (k, true) := by unfold stpD; rw [if_neg (by show ¬ (k : Int) < 0; omega)]; rfl
           rw [this]; rfl
          refine ⟨(D.set (A.getD (k : Int).toNat ar0).fr.toNat (D.getD (A.getD (k : Int).toNat ar0).to.toNat 0 - (A.getD (k : Int).toNat ar0).car), E.set (A.getD (k : Int).toNat ar0).fr.toNat ((k : Int), true), true, k + 1), ⟨by omega, ⟨by rw [List.length_set]; exact hd1, by rw [List.length_set]; exact he1⟩, by rw [eD, eE]; exact hW2, by rw [eD]; exact hB2, fun z => (by cases z), fun _ => by rw [eD]; omega⟩, by show A.length - (k + 1) < A.length - k; omega, ?_⟩
          exact Entails.mk' [(1000004, 1000004), (1000000, 1000000), (1000001, 1000001), (1000002, 1000002), (1000003, 1000003), (15, 15), (21, 21)] rfl rfl ⟨lr, lr, lr, lr, lr, lr, lr, trivial⟩ ⟨rr, rr, rr, rr, rr, Res.le_upd (fun _ => (D.getD (A.getD (k : Int).toNat ar0).to.toNat 0 - (A.getD (k : Int).toNat ar0).car)) (fun y => rfl), Res.le_upd (fun _ => ((k : Int), true)) (fun y => rfl), trivial⟩
        all_goals
         refine ⟨(D, E, ch, k + 1), ⟨by omega, ⟨hd1, he1⟩, hW1, hB1, fun z => ⟨(hno z).1, fun e he q hl => ?_⟩, hyes⟩, by show A.length - (k + 1) < A.length - k; omega, ?_⟩
        all_goals first
         | exact Entails.mk' [(1000004, 1000004), (1000000, 1000000), (1000001, 1000001), (1000002, 1000002), (1000003, 1000003), (15, 15), (21, 21)] rfl rfl ⟨lr, lr, lr, lr, lr, lr, lr, trivial⟩ ⟨rr, rr, rr, rr, rr, rr, rr, trivial⟩
         | (by_cases w : e.1 < k ∨ e = (k, false)
            · exact (hno z).2 e he w hl
            · have w1 : e.1 = k := by omega
              have w2 : e.2 = true := by
               cases w3 : e.2
               · exfalso; apply w; right; rw [← w1, ← w3]
               · rfl
              have w4 : e = (k, true) := by rw [← w1, ← w2]
              subst w4
              first
               | exact hb
               | (exfalso; exact absurd hl (Int.not_lt.2 hb))
               | (exfalso; exact absurd (he.2 rfl) (Int.not_lt.2 hb)))
     · have hkk : k = A.length := by omega
       rw [hkk]
       conv => whnf
       repeat' (first | (refine br_intro ?_ ?_ <;> intro hb <;> (try simp only [brs] at hb) <;> conv => whnf) | (refine RegX.rule (id := 1) hT rfl [] oVPfM81_1 (by decide +kernel) ?_; conv => whnf) | (refine RegX.rule (id := 15) hT rfl [] oVPfM81_15 (by decide +kernel) ?_; conv => whnf) | (refine RegX.rule (id := 16) hT rfl [] oVPfM81_16 (by decide +kernel) ?_; conv => whnf) | (refine RegX.rule (id := 17) hT rfl [] oVPfM81_17 (by decide +kernel) ?_; conv => whnf) | (refine RegX.rule (id := 18) hT rfl [] oVPfM81_18 (by decide +kernel) ?_; conv => whnf) | omega | (refine And.intro ?_ ?_; ((try dsimp only); first | omega | (refine szA rfl ?_; omega) | (refine szB rfl ?_; omega) | (unfold inI64; omega) | exact rfl | (simp only [lns] at *; omega) | decide | (unfold inI64; decide)); conv => whnf) | decide | assumption)
       all_goals try (exfalso; omega)
       refine ⟨(D, E, ch), ⟨⟨hd1, he1⟩, hW1, hB1, fun z e he => (hno z).2 e he (by rw [hkk]; exact he.1)⟩, ?_, Entails.mk' [(1000004, 1000004), (1000000, 1000000), (1000001, 1000001), (1000002, 1000002), (1000003, 1000003), (15, 15), (21, 21)] rfl rfl ⟨lr, lr, lr, lr, trivial⟩ ⟨rr, rr, rr, rr, rr, rr, rr, trivial⟩⟩
       have hnn : 0 ≤ su (getI D) h.length := su_nn fun v hv => (hW1.nn hp hv).1
       show 2 * (su (getI D) h.length).toNat + (if ch = true then 1 else 0) < 2 * (su (getI D0) h.length).toNat + (if true = true then 1 else 0)
       cases hc : ch with
       | false => rw [(hno hc).1]; simp
       | true => have := hyes hc; simp; omega
def oVPfN64_1 : List (Nat × List Nat) := [(0, []), (1, []), (2, []), (3, []), (5, [0, 1, 2, 3]), (6, [0, 1, 2, 3]), (7, [0, 1, 2, 3]), (8, [0, 1, 2, 3]), (10, [0, 1, 2, 3, 5, 6, 7, 8]), (11, [0, 1, 2, 3, 5, 6, 7, 8]), (12, [0, 1, 2, 3, 5, 6, 7, 8]), (13, [0, 1, 2, 3, 5, 6, 7, 8]), (14, [0, 1, 2, 3, 5, 6, 7, 8, 10, 11, 12, 13]), (15, [0, 1, 2, 3, 5, 6, 7, 8]), (4, [5, 6, 7, 8, 10, 11, 12, 13, 14, 15]), (9, [10, 11, 12, 13, 14, 15]), (16, []), (17, []), (18, []), (19, [])]
theorem p80 (l : List Int) (hl : l.length ≤ 2^20) : FSpec Tryz.prog 80 [.d (ints l)] [] (fun y r => y = .buf 7 ∧ r = [(7, seqB 3 1 iF 0 l)]) := by
 refine spec_of hT (C := [5]) Tryz.func80 rfl Tryz.call80 rfl rfl rfl ?_
 conv => whnf
 rintro b hbn
 conv => whnf
 repeat' (first | (refine br_intro ?_ ?_ <;> intro hb <;> (try simp only [brs] at hb) <;> conv => whnf) | omega | (refine And.intro ?_ ?_; ((try dsimp only); first | omega | (refine szA rfl ?_; omega) | (refine szB rfl ?_; omega) | (unfold inI64; omega) | exact rfl | (simp only [lns] at *; omega) | decide | (unfold inI64; decide)); conv => whnf) | decide | assumption)
 · have h0 : l = [] := List.eq_nil_of_length_eq_zero (hbn (by assumption))
   subst h0
   refine .ent _ _ (Entails.nil 2 7 3 1 (rowF iF 0 []) rfl rfl (by decide)) (.ret _ ?_)
   conv => whnf
   exact ⟨_, ⟨rfl, rfl⟩, rr, trivial⟩
 · refine .ret _ ?_
   conv => whnf
   refine ⟨_, ⟨rfl, rfl⟩, Res.le_buf (by simp) (fun i hi => ?_), trivial⟩
   rw [appGet_ge (by omega)]; rfl
theorem p84 (l : List Arc) (hl : l.length ≤ 2^20) : FSpec Tryz.prog 84 [.d (seqD 4 arF ar0 l)] [] (fun y r => y = .buf 7 ∧ r = [(7, arcB l)]) := by
 refine spec_of hT (C := [5]) Tryz.func84 rfl Tryz.call84 rfl rfl rfl ?_
 conv => whnf
 rintro b hbn
 conv => whnf
 repeat' (first | (refine br_intro ?_ ?_ <;> intro hb <;> (try simp only [brs] at hb) <;> conv => whnf) | omega | (refine And.intro ?_ ?_; ((try dsimp only); first | omega | (refine szA rfl ?_; omega) | (refine szB rfl ?_; omega) | (unfold inI64; omega) | exact rfl | (simp only [lns] at *; omega) | decide | (unfold inI64; decide)); conv => whnf) | decide | assumption)
 · have h0 : l = [] := List.eq_nil_of_length_eq_zero (hbn (by assumption))
   subst h0
   refine .ent _ _ (Entails.nil 2 7 108 4 (rowF arF ar0 []) rfl rfl (by decide)) (.ret _ ?_)
   conv => whnf
   exact ⟨_, ⟨rfl, rfl⟩, rr, trivial⟩
 · refine .ret _ ?_
   conv => whnf
   refine ⟨_, ⟨rfl, rfl⟩, Res.le_buf (by simp) (fun i hi => ?_), trivial⟩
   rw [appGet_ge (by omega)]; rfl
theorem Res.le_fupd {α : Type} {f : α → List DV} {d : α} {l : List α} {k j off : Nat} {ds : List DV} (g : α → α) (hg : ∀ y, setAtD (f y) off ds = f (g y)) :
 Res.le (.fro k l.length fun i => bif Nat.beq i j then setAtD (rowF f d l i) off ds else rowF f d l i) (.fro k (l.set j (g (l.getD j d))).length (rowF f d (l.set j (g (l.getD j d))))) :=
 Res.le_fro (by simp) (rows_putF fun y hy => by rw [hg, List.getD_eq_getElem?_getD, hy]; rfl)
theorem SV.le_dropF {α : Type} {f : α → List DV} {d : α} {l : List α} {k n j : Nat} {g : Nat → List DV} (hn : n = l.length - j) (hg : ∀ i, g i = rowF f d l (j + i)) : SV.le (.d (.ro k n g)) (.d (seqD k f d (l.drop j))) :=
 SV.le_ro (by rw [List.length_drop]; exact hn) (fun i _ => by rw [hg]; unfold rowF; rw [List.getD_eq_getElem?_getD, List.getD_eq_getElem?_getD, List.getElem?_drop])
abbrev tpV (h w : List Int) (A : List Arc) : Res := .cells 106 [.d (ints h), .d (ints w), .d (seqD 4 arF ar0 A)]
def lesI (h : List Int) (i : Nat) (m : Int) : List Int := h.set i (h.getD i 0 - m)
theorem lesI_len (h : List Int) (i : Nat) (m : Int) : (lesI h i m).length = h.length := by unfold lesI; rw [List.length_set]
set_option maxHeartbeats 4000000 in
theorem p64 (h w : List Int) (A : List Arc) (f i k : Nat) (m : Int) (hA : A.length ≤ 2^20) (hh : h.length ≤ 2^20) (hw : w.length ≤ 2^20) (hf : f ≤ A.length) (hi : i < h.length) (hk : k < w.length)
 (hm : 0 ≤ m ∧ m ≤ 2^40) (h1 : -2^40 ≤ h.getD i 0 ∧ h.getD i 0 ≤ 2^40) (h2 : -2^40 ≤ w.getD k 0 ∧ w.getD k 0 ≤ 2^40) :
 FSpec Tryz.prog 64 [.ptr 1000000 0, .d (.int .i64 f), .d (.int .i64 i), .d (.int .i64 k), .d (.int .i64 m)] [(1000000, tpV h w A)]
 (fun y r => y = .ptr 30 0 ∧ r = [(1000000, tpV h w A), (30, .cells 106 [.buf 16, .buf 21, .buf 28]), (16, froI (lesI h i m)), (21, froI (lesI w k m)), (28, arcB (A.drop f))]) := by
 have ei : (i : Int).toNat = i := Int.toNat_natCast i
 have ek : (k : Int).toNat = k := Int.toNat_natCast k
 rw [← ei] at h1
 rw [← ek] at h2
 refine spec_of hT (C := []) Tryz.func64 rfl Tryz.call64 rfl rfl rfl ?_
 conv => whnf
 refine RegX.rule hT rfl [] oVPfN64_1 (by decide +kernel) ?_
 conv => whnf
 repeat' (first | (refine CallX.of (p80 h hh) [(7, 16)] rfl ⟨lr, trivial⟩ trivial rfl rfl ?_; rintro x rout ⟨rfl, rfl⟩; refine ⟨rfl, ?_⟩; conv => whnf) | (refine CallX.of (p80 w hw) [(7, 21)] rfl ⟨lr, trivial⟩ trivial rfl rfl ?_; rintro x rout ⟨rfl, rfl⟩; refine ⟨rfl, ?_⟩; conv => whnf) | (refine CallX.of (p84 (A.drop f) (by rw [List.length_drop]; omega)) [(7, 28)] rfl ⟨SV.le_dropF (by omega) (fun _ => rfl), trivial⟩ trivial rfl rfl ?_; rintro x rout ⟨rfl, rfl⟩; refine ⟨rfl, ?_⟩; conv => whnf) | (refine br_intro ?_ ?_ <;> intro hb <;> (try simp only [brs] at hb) <;> conv => whnf) | (refine RegX.rule (id := 1) hT rfl [] oVPfN64_1 (by decide +kernel) ?_; conv => whnf) | omega | (refine And.intro ?_ ?_; ((try dsimp only); first | omega | (refine szA rfl ?_; omega) | (refine szB rfl ?_; omega) | (unfold inI64; omega) | exact rfl | (simp only [lns] at *; omega) | decide | (unfold inI64; decide)); conv => whnf) | decide | assumption)
 refine .freeze _ 16 3 1 _ _ rfl (.freeze _ 21 3 1 _ _ rfl (.ret _ ?_))
 conv => whnf
 refine ⟨_, ⟨rfl, rfl⟩, rr, rr, Res.le_fupd (fun _ => h.getD i 0 - m) (fun y => rfl), Res.le_fupd (fun _ => w.getD k 0 - m) (fun y => rfl), rr, trivial⟩
def oVPfO60_1 : List (Nat × List Nat) := [(0, []), (1, []), (2, []), (3, []), (5, [0, 1, 2, 3]), (6, [0, 1, 2, 3]), (7, [0, 1, 2, 3]), (8, [0, 1, 2, 3]), (4, [5, 6, 7, 8]), (9, []), (10, []), (11, [])]
def oVPfO60_14 : List (Nat × List Nat) := [(0, []), (1, []), (2, []), (3, []), (4, [3]), (5, []), (6, []), (7, []), (8, []), (9, []), (10, []), (11, []), (12, []), (13, []), (14, [13]), (15, []), (16, []), (17, [13, 14, 15, 16]), (18, [13, 14, 15, 16, 17]), (19, [13, 14, 15, 16]), (20, [13, 14, 15, 16]), (21, []), (22, []), (23, [])]
def oVPfO60_21 : List (Nat × List Nat) := [(0, []), (1, []), (2, []), (3, []), (4, [0, 1, 2, 3]), (5, [0, 1, 2, 3, 4]), (6, [0, 1, 2, 3]), (7, [0, 1, 2, 3]), (8, [0, 1, 2, 3]), (9, []), (10, []), (11, [0, 1, 2, 3, 4, 5, 6, 7, 8, 9, 10]), (12, [])]
def oVPfO60_23 : List (Nat × List Nat) := [(0, []), (1, [0]), (2, [0]), (3, []), (4, [0, 1, 2, 3]), (5, [0, 1, 2, 3]), (6, [4, 5]), (7, [])]
def oVPfO60_31 : List (Nat × List Nat) := [(0, []), (1, []), (2, []), (3, []), (4, [0, 1, 2, 3]), (5, [0, 1, 2, 3, 4]), (6, [0, 1, 2, 3]), (7, [0, 1, 2, 3]), (8, [0, 1, 2, 3]), (9, []), (10, [])]
structure Sm (A B : List Arc) : Prop where
 len : B.length = A.length
 fld : ∀ k, (B.getD k ar0).fr = (A.getD k ar0).fr ∧ (B.getD k ar0).to = (A.getD k ar0).to ∧ (B.getD k ar0).car = (A.getD k ar0).car
theorem Sm.refl (A : List Arc) : Sm A A := ⟨rfl, fun _ => ⟨rfl, rfl, rfl⟩⟩
theorem Sm.nw {A B : List Arc} (h : Sm A B) (N : Nat) : nwA N B = nwA N A := by
 unfold nwA
 rw [h.len, funext fun k => congrArg Int.toNat (h.fld k).1, funext fun k => congrArg Int.toNat (h.fld k).2.1, funext fun k => (h.fld k).2.2]
theorem Sm.ok {A B : List Arc} (h : Sm A B) {N : Nat} (ha : ArOk N A) : ArOk N B :=
 ⟨by rw [h.len]; exact ha.len, fun k hk => by rw [(h.fld k).1]; exact ha.fr k (by rw [← h.len]; exact hk), fun k hk => by rw [(h.fld k).2.1]; exact ha.to k (by rw [← h.len]; exact hk), fun k hk => by rw [(h.fld k).2.2]; exact ha.car k (by rw [← h.len]; exact hk)⟩
theorem Sm.set {A B : List Arc} (h : Sm A B) (k : Nat) (x : Int) : Sm A (B.set k { B.getD k ar0 with flow := x }) := by
 refine ⟨by rw [List.length_set]; exact h.len, fun j => ?_⟩
 rw [List.getD_eq_getElem?_getD, List.getElem?_set]
 by_cases q : k = j
 · subst q
   by_cases w : k < B.length
   · rw [if_pos rfl, if_pos w]; exact h.fld k
   · rw [if_pos rfl, if_neg w]
     have := h.fld k
     rw [List.getD_eq_getElem?_getD, List.getElem?_eq_none (by omega)] at this
     exact this
 · rw [if_neg q, ← List.getD_eq_getElem?_getD]; exact h.fld j
theorem floA_set {B : List Arc} {k : Nat} {x : Int} (hk : k < B.length) : floA (B.set k { B.getD k ar0 with flow := x }) = upd (floA B) k x := by
 funext v
 unfold floA upd
 rw [List.getD_eq_getElem?_getD, List.getElem?_set]
 by_cases q : v = k
 · subst q; simp [hk]
 · rw [if_neg (fun z => q z.symm), if_neg q, ← List.getD_eq_getElem?_getD]
def SolR (G : Nw) (h w f : Nat → Int) (y : SV) : Prop := (∃ left p, G.St h w f left (fun _ => 0) ∧ G.Pot h f left p ∧ (0 ≤ G.cost f ∧ G.cost f ≤ 1000000000000000) ∧ y = .tup [.d (.int .i64 (G.cost f)), .d (.bool true)]) ∨ ((∀ g, ¬ G.Fills h w g) ∧ ∃ n, y = .tup [.d (.int .i64 n), .d (.bool false)])
def wanB (K : List Int) : Nat → Bool
 | 0 => false
 | i + 1 => wanB K i || decide (0 < K.getD i 0)
def toB (D K : List Int) : Nat → Int
 | 0 => -1
 | i + 1 => if 0 < K.getD i 0 ∧ D.getD i 0 < 1125899906842624 ∧ (toB D K i < 0 ∨ D.getD i 0 < D.getD (toB D K i).toNat 0) then i else toB D K i
theorem wanB_false {K : List Int} : ∀ {n : Nat}, wanB K n = false → ∀ i, i < n → K.getD i 0 ≤ 0
 | 0, _, i, hi => absurd hi (Nat.not_lt_zero _)
 | n + 1, h, i, hi => by
   rw [wanB, Bool.or_eq_false_iff, decide_eq_false_iff_not] at h
   by_cases q : i = n
   · rw [q]; omega
   · exact wanB_false h.1 i (by omega)
theorem wanB_true {K : List Int} : ∀ {n : Nat}, wanB K n = true → ∃ i, i < n ∧ 0 < K.getD i 0
 | 0, h => by cases h
 | n + 1, h => by
   rw [wanB, Bool.or_eq_true, decide_eq_true_eq] at h
   rcases h with h | h
   · obtain ⟨i, h1, h2⟩ := wanB_true h; exact ⟨i, by omega, h2⟩
   · exact ⟨n, by omega, h⟩
theorem toB_ge (D K : List Int) : ∀ n, -1 ≤ toB D K n
 | 0 => by unfold toB; omega
 | n + 1 => by
   have := toB_ge D K n
   rw [toB]; split <;> omega
theorem toB_neg {D K : List Int} : ∀ {n : Nat}, toB D K n < 0 → ∀ i, i < n → 0 < K.getD i 0 → 1125899906842624 ≤ D.getD i 0
 | 0, _, i, hi, _ => absurd hi (Nat.not_lt_zero _)
 | n + 1, h, i, hi, hk => by
   rw [toB] at h
   split at h
   · omega
   · rename_i q
     by_cases e : i = n
     · subst e
       rcases Int.lt_or_le (D.getD i 0) 1125899906842624 with z | z
       · exact absurd ⟨hk, z, .inl h⟩ q
       · exact z
     · exact toB_neg h i (by omega) hk
theorem toB_pos {D K : List Int} : ∀ {n : Nat}, 0 ≤ toB D K n → (toB D K n).toNat < n ∧ 0 < K.getD (toB D K n).toNat 0 ∧ D.getD (toB D K n).toNat 0 < 1125899906842624
 | 0, h => by unfold toB at h; omega
 | n + 1, h => by
   rw [toB] at h ⊢
   split at h
   · rename_i q
     rw [if_pos q, Int.toNat_natCast]
     exact ⟨Nat.lt_succ_self _, q.1, q.2.1⟩
   · rename_i q
     rw [if_neg q]
     have := toB_pos h
     exact ⟨by omega, this.2⟩
theorem stpD_none {s : Int × Bool} : stpD s = none ↔ s.1 < 0 := by
 unfold stpD; split
 · exact ⟨fun _ => by assumption, fun _ => rfl⟩
 · exact ⟨fun z => (by cases z), fun z => (by omega)⟩
theorem stpD_some {s : Int × Bool} (h : 0 ≤ s.1) : stpD s = some (s.1.toNat, s.2) := by unfold stpD; rw [if_neg (by omega)]
theorem ch_bound {G : Nw} (hG : G.Ok) {f left p dist : Nat → Int} {b : Nat → Option (Nat × Bool)} (hw : G.Wy f left p dist b) {Q : Nat × Bool → Prop} {v n r : Nat} (h : G.Ch b Q v n r) (hv : v < G.N) : n < G.N := by
 obtain ⟨L, h1, h2, h3, _⟩ := G.ch_list (N := G.N) (fun v e hv he => (Nw.hd_lt hG (hw.st v e hv he).1.1).2) h hv
 have := nodup_len h2 h3
 omega
structure SvI (N : Nat) (h w : List Int) (A : List Arc) (L K : List Int) (B : List Arc) (p : Nat → Int) (s : Int) : Prop where
 sm : Sm A B
 ll : L.length = N
 lk : K.length = N
 st : (nwA N A).St (getI h) (getI w) (floA B) (getI L) (getI K)
 pt : (nwA N A).Pot (getI h) (floA B) (getI L) p
 cs : s = (nwA N A).cost (floA B)
 sb : 0 ≤ s ∧ s ≤ 1000000000 * (su (getI w) N - su (getI K) N)
 fb : ∀ k, k < A.length → 0 ≤ floA B k ∧ floA B k ≤ 1000 * (su (getI w) N - su (getI K) N)
structure AugB (A : List Arc) (B C : List Arc) (m : Int) (n0 n : Nat) : Prop where
 le : n ≤ n0
 fb : ∀ k, k < A.length → floA C k + m * (n : Int) ≤ floA B k + m * (n0 : Int)
theorem su_bd {F : Nat → Int} {b : Int} : ∀ {n : Nat}, (∀ v, v < n → 0 ≤ F v ∧ F v ≤ b) → 0 ≤ su F n ∧ su F n ≤ b * n
 | 0, _ => ⟨Int.le_refl _, by simp [su]⟩
 | n + 1, h => by
   have := su_bd (n := n) (fun v hv => h v (by omega))
   have h2 := h n (by omega)
   rw [su]
   have : b * ((n + 1 : Nat) : Int) = b * n + b := by rw [Int.natCast_add, Int.mul_add]; simp
   omega
set_option maxHeartbeats 16000000 in
theorem p60 (h w : List Int) (A : List Arc) (hA : ArOk h.length A) (hn : h.length ≤ 1000) (hwl : w.length = h.length) (hh : ∀ v, v < h.length → 0 ≤ getI h v ∧ getI h v ≤ 1000) (hw : ∀ v, v < h.length → 0 ≤ getI w v ∧ getI w v ≤ 1000) :
 FSpec Tryz.prog 60 [.ptr 1000000 0] (tpB h w A) (fun y r => ∃ B, (Sm A B ∧ SolR (nwA h.length A) (getI h) (getI w) (floA B) y) ∧ r = tpB h w B) := by
 have hAl := hA.len
 have hG := nwA_ok hA
 have hcC : ∀ k, k < (nwA h.length A).K → (nwA h.length A).c k ≤ 1000000 := fun k hk => (hA.car k hk).2
 have hNb : 1000000 * ((nwA h.length A).N : Int) + 1000000 < farD := by show 1000000 * (h.length : Int) + 1000000 < 1125899906842624; omega
 have hsw := su_bd hw
 refine spec_of hT (C := []) Tryz.func60 rfl Tryz.call60 rfl rfl rfl ?_
 conv => whnf
 refine RegX.rule hT rfl [] oVPfO60_1 (by decide +kernel) ?_
 conv => whnf
 repeat' (first | (refine CallX.of (p80 h (by omega)) [(7, 22)] rfl ⟨lr, trivial⟩ trivial rfl rfl ?_; rintro x rout ⟨rfl, rfl⟩; refine ⟨rfl, ?_⟩; conv => whnf) | (refine CallX.of (p80 w (by omega)) [(7, 27)] rfl ⟨lr, trivial⟩ trivial rfl rfl ?_; rintro x rout ⟨rfl, rfl⟩; refine ⟨rfl, ?_⟩; conv => whnf) | (refine br_intro ?_ ?_ <;> intro hb <;> (try simp only [brs] at hb) <;> conv => whnf) | (refine RegX.rule (id := 1) hT rfl [] oVPfO60_1 (by decide +kernel) ?_; conv => whnf) | (refine RegX.rule (id := 14) hT rfl [] oVPfO60_14 (by decide +kernel) ?_; conv => whnf) | (refine RegX.rule (id := 21) hT rfl [] oVPfO60_21 (by decide +kernel) ?_; conv => whnf) | (refine RegX.rule (id := 23) hT rfl [] oVPfO60_23 (by decide +kernel) ?_; conv => whnf) | (refine RegX.rule (id := 31) hT rfl [] oVPfO60_31 (by decide +kernel) ?_; conv => whnf) | omega | (refine And.intro ?_ ?_; ((try dsimp only); first | omega | (refine szA rfl ?_; omega) | (refine szB rfl ?_; omega) | (unfold inI64; omega) | exact rfl | (simp only [lns] at *; omega) | decide | (unfold inI64; decide)); conv => whnf) | decide | assumption)
 refine LoopX.rule hT (C := []) (ι := Nat × List Arc) (fun (i, B) => i ≤ A.length ∧ Sm A B ∧ ∀ k, k < i → floA B k = 0) (fun (i, B) => mkSt [(0, .ptr 1000000 0), (4, .buf 22), (5, .buf 27), (32, .d (.int .i64 A.length)), (33, .d (.int .i64 i))] (tpB h w B ++ [(22, seqB 3 1 iF 0 h), (27, seqB 3 1 iF 0 w)])) (fun (i, _) => A.length - i) (0, A) ⟨by show 0 ≤ _; omega, Sm.refl A, fun k hk => absurd hk (Nat.not_lt_zero k)⟩ ?_ ?_
 · exact Entails.mk' [(1000000, 1000000), (1000001, 1000001), (1000002, 1000002), (1000003, 1000003), (22, 22), (27, 27)] rfl rfl ⟨lr, lr, lr, lr, lr, trivial⟩ ⟨rr, rr, rr, rr, rr, rr, trivial⟩
 rintro ⟨i, B⟩ ⟨hi, hS, hz⟩
 have hi : i ≤ A.length := hi
 have e1 : (i : Int).toNat = i := Int.toNat_natCast i
 have hBl := hS.len
 rcases Nat.lt_or_ge i A.length with hiA | hiA
 · conv => whnf
   repeat' (first | (refine br_intro ?_ ?_ <;> intro hb <;> (try simp only [brs] at hb) <;> conv => whnf) | (refine RegX.rule (id := 1) hT rfl [] oVPfO60_1 (by decide +kernel) ?_; conv => whnf) | (refine RegX.rule (id := 14) hT rfl [] oVPfO60_14 (by decide +kernel) ?_; conv => whnf) | (refine RegX.rule (id := 21) hT rfl [] oVPfO60_21 (by decide +kernel) ?_; conv => whnf) | (refine RegX.rule (id := 23) hT rfl [] oVPfO60_23 (by decide +kernel) ?_; conv => whnf) | (refine RegX.rule (id := 31) hT rfl [] oVPfO60_31 (by decide +kernel) ?_; conv => whnf) | omega | (refine And.intro ?_ ?_; ((try dsimp only); first | omega | (refine szA rfl ?_; omega) | (refine szB rfl ?_; omega) | (unfold inI64; omega) | exact rfl | (simp only [lns] at *; omega) | decide | (unfold inI64; decide)); conv => whnf) | decide | assumption)
   all_goals try (exfalso; omega)
   refine ⟨(i + 1, B.set (i : Int).toNat { B.getD (i : Int).toNat ar0 with flow := 0 }), ⟨by omega, hS.set _ _, fun k hk => ?_⟩, by show A.length - (i + 1) < A.length - i; omega, Entails.mk' [(1000000, 1000000), (1000001, 1000001), (1000002, 1000002), (1000003, 1000003), (22, 22), (27, 27)] rfl rfl ⟨lr, lr, lr, lr, lr, trivial⟩ ⟨rr, rr, rr, Res.le_upd (f := arF) (d := ar0) (l := B) (fun a : Arc => ({ a with flow := 0 } : Arc)) (fun y => rfl), rr, rr, trivial⟩⟩
   rw [e1, floA_set (by omega)]
   by_cases q : k = i
   · rw [q, upd_self]
   · rw [upd_ne q]; exact hz k (by omega)
 · have hiA : i = A.length := by omega
   rw [hiA]
   conv => whnf
   repeat' (first | (refine br_intro ?_ ?_ <;> intro hb <;> (try simp only [brs] at hb) <;> conv => whnf) | (refine RegX.rule (id := 1) hT rfl [] oVPfO60_1 (by decide +kernel) ?_; conv => whnf) | (refine RegX.rule (id := 14) hT rfl [] oVPfO60_14 (by decide +kernel) ?_; conv => whnf) | (refine RegX.rule (id := 21) hT rfl [] oVPfO60_21 (by decide +kernel) ?_; conv => whnf) | (refine RegX.rule (id := 23) hT rfl [] oVPfO60_23 (by decide +kernel) ?_; conv => whnf) | (refine RegX.rule (id := 31) hT rfl [] oVPfO60_31 (by decide +kernel) ?_; conv => whnf) | omega | (refine And.intro ?_ ?_; ((try dsimp only); first | omega | (refine szA rfl ?_; omega) | (refine szB rfl ?_; omega) | (unfold inI64; omega) | exact rfl | (simp only [lns] at *; omega) | decide | (unfold inI64; decide)); conv => whnf) | decide | assumption)
   all_goals try (exfalso; omega)
   have hst := Nw.st_init (G := nwA h.length A) (have_ := getI h) (want := getI w) (fun v hv => (hh v hv).1) (fun v hv => (hw v hv).1) hG
   have hf0 : ∀ k, k < A.length → floA B k = 0 := fun k hk => hz k (by omega)
   have hI0 : SvI h.length h w A h w B (fun _ => 0) 0 := by
    have ec : (nwA h.length A).cost (floA B) = 0 := by
     unfold Nw.cost
     exact su_zero fun k hk => by rw [hf0 k hk]; simp
    have en : ∀ v, (nwA h.length A).net (floA B) v = (nwA h.length A).net (fun _ => 0) v := fun v => by
     unfold Nw.net
     exact su_congr fun k hk => by rw [hf0 k hk]
    refine ⟨hS, rfl, hwl, ⟨fun k hk => by rw [hf0 k hk]; exact Int.le_refl _, hst.1.left0, hst.1.lack0, fun v hv => by rw [en]; exact hst.1.net v hv⟩, ⟨hst.2.1.p0, hst.2.1.ar, fun k hk hp => by rw [hf0 k hk] at hp; omega, hst.2.1.left⟩, ec.symm, by omega, fun k hk => by rw [hf0 k hk]; omega⟩
   refine LoopX.rule hT (C := []) (ι := List Int × List Int × List Arc × (Nat → Int) × Int) (fun (L, K, B, p, s) => SvI h.length h w A L K B p s) (fun (L, K, B, p, s) => mkSt [(0, .ptr 1000000 0), (4, .buf 22), (5, .buf 27), (7, .d (.int .i64 s))] (tpB h w B ++ [(22, seqB 3 1 iF 0 L), (27, seqB 3 1 iF 0 K)])) (fun (_, K, _, _, _) => (su (getI K) h.length).toNat) (h, w, B, fun _ => 0, 0) hI0 ?_ ?_
   · exact Entails.mk' [(1000000, 1000000), (1000001, 1000001), (1000002, 1000002), (1000003, 1000003), (22, 22), (27, 27)] rfl rfl ⟨lr, lr, lr, lr, trivial⟩ ⟨rr, rr, rr, rr, rr, rr, trivial⟩
   clear hI0 hst hf0 hz hS hBl hiA hi e1
   rintro ⟨L, K, B, p, s⟩ hI
   have hI : SvI h.length h w A L K B p s := hI
   have hLl := hI.ll
   have hKl := hI.lk
   have hBl := hI.sm.len
   have hpt : (nwA h.length B).Pot (getI h) (floA B) (getI L) p := by rw [hI.sm.nw]; exact hI.pt
   conv => whnf
   repeat' (first | (refine CallX.of (p263 h w B L (hI.sm.ok hA) hn hI.ll p hpt) [(1000000, 1000000), (1000001, 1000001), (1000002, 1000002), (1000003, 1000003), (1000004, 22)] rfl ⟨lr, lr, trivial⟩ ⟨rr, rr, rr, rr, rr, trivial⟩ rfl rfl ?_; rintro x rout ⟨⟨D, E, ⟨hDl, hEl⟩, hW, hBd, hFi, rfl⟩, rfl⟩; refine ⟨rfl, ?_⟩; conv => whnf) | (refine br_intro ?_ ?_ <;> intro hb <;> (try simp only [brs] at hb) <;> conv => whnf) | (refine RegX.rule (id := 1) hT rfl [] oVPfO60_1 (by decide +kernel) ?_; conv => whnf) | (refine RegX.rule (id := 14) hT rfl [] oVPfO60_14 (by decide +kernel) ?_; conv => whnf) | (refine RegX.rule (id := 21) hT rfl [] oVPfO60_21 (by decide +kernel) ?_; conv => whnf) | (refine RegX.rule (id := 23) hT rfl [] oVPfO60_23 (by decide +kernel) ?_; conv => whnf) | (refine RegX.rule (id := 31) hT rfl [] oVPfO60_31 (by decide +kernel) ?_; conv => whnf) | omega | (refine And.intro ?_ ?_; ((try dsimp only); first | omega | (refine szA rfl ?_; omega) | (refine szB rfl ?_; omega) | (unfold inI64; omega) | exact rfl | (simp only [lns] at *; omega) | decide | (unfold inI64; decide)); conv => whnf) | decide | assumption)
   rw [hI.sm.nw] at hW hBd hFi
   refine LoopX.rule hT (C := []) (ι := Nat) (fun i => i ≤ K.length) (fun i => mkSt [(0, .ptr 1000000 0), (4, .buf 22), (5, .buf 27), (7, .d (.int .i64 s)), (8, .d (ints D)), (9, .d (steps E)), (10, .d (.int .i64 (toB D K i))), (11, .d (.bool (wanB K i))), (50, .buf 27), (51, .d (.int .i64 K.length)), (52, .d (.int .i64 i))] (tpB h w B ++ [(22, seqB 3 1 iF 0 L), (27, seqB 3 1 iF 0 K)])) (fun i => K.length - i) 0 (by show 0 ≤ _; omega) ?_ ?_
   · exact Entails.mk' [(1000000, 1000000), (1000001, 1000001), (1000002, 1000002), (1000003, 1000003), (22, 22), (27, 27)] rfl rfl ⟨lr, lr, lr, lr, lr, lr, lr, lr, lr, lr, lr, trivial⟩ ⟨rr, rr, rr, rr, rr, rr, trivial⟩
   rintro i hi
   have hi : i ≤ K.length := hi
   have e1 : (i : Int).toNat = i := Int.toNat_natCast i
   have ht1 := toB_ge D K i
   have ht2 : 0 ≤ toB D K i → (toB D K i).toNat < i := fun z => (toB_pos z).1
   rcases Nat.lt_or_ge i K.length with hiK | hiK
   · conv => whnf
     repeat' (first | (refine br_intro ?_ ?_ <;> intro hb <;> (try simp only [brs] at hb) <;> conv => whnf) | (refine RegX.rule (id := 1) hT rfl [] oVPfO60_1 (by decide +kernel) ?_; conv => whnf) | (refine RegX.rule (id := 14) hT rfl [] oVPfO60_14 (by decide +kernel) ?_; conv => whnf) | (refine RegX.rule (id := 21) hT rfl [] oVPfO60_21 (by decide +kernel) ?_; conv => whnf) | (refine RegX.rule (id := 23) hT rfl [] oVPfO60_23 (by decide +kernel) ?_; conv => whnf) | (refine RegX.rule (id := 31) hT rfl [] oVPfO60_31 (by decide +kernel) ?_; conv => whnf) | omega | (refine And.intro ?_ ?_; ((try dsimp only); first | omega | (refine szA rfl ?_; omega) | (refine szB rfl ?_; omega) | (unfold inI64; omega) | exact rfl | (simp only [lns] at *; omega) | decide | (unfold inI64; decide)); conv => whnf) | decide | assumption)
     all_goals try (exfalso; omega)
     all_goals
      simp only [e1] at *
      refine ⟨i + 1, by omega, by omega, Entails.mk' [(1000000, 1000000), (1000001, 1000001), (1000002, 1000002), (1000003, 1000003), (22, 22), (27, 27)] rfl rfl ⟨lr, lr, lr, lr, lr, lr, SV.le_int ?_, SV.le_bool ?_, lr, lr, lr, trivial⟩ ⟨rr, rr, rr, rr, rr, rr, trivial⟩⟩
     all_goals first
      | (rw [toB]; split <;> omega)
      | (unfold wanB; cases hwb : wanB K i <;> simp_all <;> omega)
   · have hiK : i = K.length := by omega
     rw [hiK]
     clear ht1 ht2 e1
     rcases Int.lt_or_le (toB D K K.length) 0 with htn | htn
     · have hfar := toB_neg htn
       conv => whnf
       repeat' (first | (refine br_intro ?_ ?_ <;> intro hb <;> (try simp only [brs] at hb) <;> conv => whnf) | (refine RegX.rule (id := 1) hT rfl [] oVPfO60_1 (by decide +kernel) ?_; conv => whnf) | (refine RegX.rule (id := 14) hT rfl [] oVPfO60_14 (by decide +kernel) ?_; conv => whnf) | (refine RegX.rule (id := 21) hT rfl [] oVPfO60_21 (by decide +kernel) ?_; conv => whnf) | (refine RegX.rule (id := 23) hT rfl [] oVPfO60_23 (by decide +kernel) ?_; conv => whnf) | (refine RegX.rule (id := 31) hT rfl [] oVPfO60_31 (by decide +kernel) ?_; conv => whnf) | omega | (refine And.intro ?_ ?_; ((try dsimp only); first | omega | (refine szA rfl ?_; omega) | (refine szB rfl ?_; omega) | (unfold inI64; omega) | exact rfl | (simp only [lns] at *; omega) | decide | (unfold inI64; decide)); conv => whnf) | decide | assumption)
       all_goals try (exfalso; omega)
       have hsk : 0 ≤ su (getI K) h.length := su_nn fun v hv => (hI.st.lack0 v hv).1
       have hsb := hI.sb
       cases hwn : wanB K K.length with
       | false =>
         have hz : ∀ v, v < h.length → getI K v = 0 := fun v hv => by
          have h1 := wanB_false hwn v (by omega)
          have h2 := (hI.st.lack0 v hv).1
          unfold getI at h2 ⊢; omega
         refine .weak _ ?_
         conv => whnf
         refine ⟨.tup [.d (.int .i64 s), .d (.bool true)], _, SV.le_tup ⟨lr, SV.le_bool rfl, trivial⟩, ⟨B, ⟨hI.sm, .inl ⟨getI L, p, ⟨hI.st.f0, hI.st.left0, fun v hv => ⟨Int.le_refl _, (hw v hv).1⟩, fun v hv => ?_⟩, hI.pt, ?_, by rw [hI.cs]⟩⟩, rfl⟩, rr, rr, rr, rr, trivial⟩
         · have h1 := hI.st.net v hv
           rw [hz v hv] at h1; exact h1
         · rw [← hI.cs]; omega
       | true =>
         obtain ⟨t, ht, hk⟩ := wanB_true hwn
         refine .weak _ ?_
         conv => whnf
         exact ⟨.tup [.d (.int .i64 s), .d (.bool false)], _, SV.le_tup ⟨lr, SV.le_bool rfl, trivial⟩, ⟨B, ⟨hI.sm, .inr ⟨fun g => Nw.noway hG (by omega) hNb hcC hI.st hW hBd hFi (t := t) (by show t < h.length; omega) hk (hfar t ht hk) g, s, rfl⟩⟩, rfl⟩, rr, rr, rr, rr, trivial⟩
     · obtain ⟨T1, hT1⟩ : ∃ T1 : Nat, toB D K K.length = (T1 : Int) := ⟨_, (Int.toNat_of_nonneg htn).symm⟩
       have hTp := toB_pos htn
       rw [hT1, Int.toNat_natCast] at hTp
       obtain ⟨hTl, hTk, hTd⟩ := hTp
       rw [hT1]
       clear htn hT1
       have eT : (T1 : Int).toNat = T1 := Int.toNat_natCast T1
       obtain ⟨n0, r0, hch0⟩ := hW.rt T1 (by show T1 < h.length; omega) hTd
       conv => whnf
       repeat' (first | (refine br_intro ?_ ?_ <;> intro hb <;> (try simp only [brs] at hb) <;> conv => whnf) | (refine RegX.rule (id := 1) hT rfl [] oVPfO60_1 (by decide +kernel) ?_; conv => whnf) | (refine RegX.rule (id := 14) hT rfl [] oVPfO60_14 (by decide +kernel) ?_; conv => whnf) | (refine RegX.rule (id := 21) hT rfl [] oVPfO60_21 (by decide +kernel) ?_; conv => whnf) | (refine RegX.rule (id := 23) hT rfl [] oVPfO60_23 (by decide +kernel) ?_; conv => whnf) | (refine RegX.rule (id := 31) hT rfl [] oVPfO60_31 (by decide +kernel) ?_; conv => whnf) | omega | (refine And.intro ?_ ?_; ((try dsimp only); first | omega | (refine szA rfl ?_; omega) | (refine szB rfl ?_; omega) | (unfold inI64; omega) | exact rfl | (simp only [lns] at *; omega) | decide | (unfold inI64; decide)); conv => whnf) | decide | assumption)
       all_goals try (exfalso; omega)
       refine LoopX.rule hT (C := []) (ι := Nat × Int × Nat) (fun (a, m, n) => (nwA h.length A).Bot (floA B) (getI D) (getB E) T1 (K.getD T1 0) a m ∧ ∃ r, (nwA h.length A).Ch (getB E) (fun _ => True) a n r) (fun (a, m, n) => mkSt [(0, .ptr 1000000 0), (4, .buf 22), (5, .buf 27), (7, .d (.int .i64 s)), (8, .d (ints D)), (9, .d (steps E)), (10, .d (.int .i64 T1)), (14, .d (.int .i64 m)), (15, .d (.int .i64 a))] (tpB h w B ++ [(22, seqB 3 1 iF 0 L), (27, seqB 3 1 iF 0 K)])) (fun (_, _, n) => n) (T1, K.getD T1 0, n0) ⟨⟨fun m' n' r _ hc => ⟨n', hc⟩, by show T1 < h.length; omega, hTd, by omega, Int.le_refl _⟩, r0, hch0⟩ ?_ ?_
       · exact Entails.mk' [(1000000, 1000000), (1000001, 1000001), (1000002, 1000002), (1000003, 1000003), (22, 22), (27, 27)] rfl rfl ⟨lr, lr, lr, lr, lr, lr, lr, lr, lr, trivial⟩ ⟨rr, rr, rr, rr, rr, rr, trivial⟩
       rintro ⟨a, m, n⟩ ⟨hBot, r, hCh⟩
       have hBot : (nwA h.length A).Bot (floA B) (getI D) (getB E) T1 (K.getD T1 0) a m := hBot
       have hCh : (nwA h.length A).Ch (getB E) (fun _ => True) a n r := hCh
       have haN : a < h.length := hBot.aN
       have ea : (a : Int).toNat = a := Int.toNat_natCast a
       have hm1 := hBot.m1
       have hKT := hI.st.lack0 T1 (by show T1 < h.length; omega)
       have hwT := hw T1 (by omega)
       have hKT2 : K.getD T1 0 ≤ 1000 := by unfold getI at hKT hwT; omega
       rcases Int.lt_or_le (E.getD a (0, false)).1 0 with hst | hst
       · have hn0 : getB E a = none := stpD_none.2 hst
         have hLa : 0 < L.getD a 0 := hW.root a haN hn0 hBot.dn
         have hLh := (hI.st.left0 a haN).2
         have hha := (hh a haN).2
         have hLa2 : L.getD a 0 ≤ 1000 := by unfold getI at hLh hha; omega
         obtain ⟨m1, hm1e⟩ : ∃ m1, min m (L.getD a 0) = m1 := ⟨_, rfl⟩
         have hm1b : (1 ≤ m1 ∧ m1 ≤ m) ∧ m1 ≤ L.getD a 0 := by omega
         obtain ⟨n1, hch1⟩ := hBot.done hn0 (m' := m1) (by omega)
         have hn1 : n1 < h.length := ch_bound hG hW hch1 (by show T1 < h.length; omega)
         have hDn : 0 ≤ D.getD T1 0 := (hW.nn hI.pt (by show T1 < h.length; omega)).1
         have hDb : D.getD T1 0 ≤ 1000000000 := by
          have h1 := hBd T1 (by show T1 < h.length; omega) hTd
          have h2 := (nwA h.length A).cnt_bd (getI D)
          have h3 : ((nwA h.length A).N : Int) = h.length := rfl
          unfold getI at h1 h2; omega
         have hmul : 0 ≤ m1 * D.getD T1 0 ∧ m1 * D.getD T1 0 ≤ 1000000000 * m1 := by
          refine ⟨Int.mul_nonneg (by omega) hDn, ?_⟩
          rw [Int.mul_comm]
          exact Int.mul_le_mul_of_nonneg_right hDb (by omega)
         have hsk : 0 ≤ su (getI K) h.length := su_nn fun v hv => (hI.st.lack0 v hv).1
         have hsb := hI.sb
         have hst' := hst
         have hm1' : min m (L.getD (a : Int).toNat 0) = m1 := by rw [ea]; exact hm1e
         rw [← ea] at hst' hLa hLa2
         conv => whnf
         repeat' (first | (refine And.intro (show inI64 (L.getD (a : Int).toNat 0 - min m (L.getD (a : Int).toNat 0)) by unfold inI64; omega) ?_; conv => whnf) | (refine And.intro (show inI64 (K.getD (T1 : Int).toNat 0 - min m (L.getD (a : Int).toNat 0)) by rw [eT]; unfold inI64; omega) ?_; conv => whnf) | (refine And.intro (show inI64 (min m (L.getD (a : Int).toNat 0) * D.getD (T1 : Int).toNat 0) by rw [hm1', eT]; unfold inI64; omega) ?_; conv => whnf) | (refine And.intro (show inI64 (s + min m (L.getD (a : Int).toNat 0) * D.getD (T1 : Int).toNat 0) by rw [hm1', eT]; unfold inI64; omega) ?_; conv => whnf) | (refine br_intro ?_ ?_ <;> intro hb <;> (try simp only [brs] at hb) <;> conv => whnf) | (refine RegX.rule (id := 1) hT rfl [] oVPfO60_1 (by decide +kernel) ?_; conv => whnf) | (refine RegX.rule (id := 14) hT rfl [] oVPfO60_14 (by decide +kernel) ?_; conv => whnf) | (refine RegX.rule (id := 21) hT rfl [] oVPfO60_21 (by decide +kernel) ?_; conv => whnf) | (refine RegX.rule (id := 23) hT rfl [] oVPfO60_23 (by decide +kernel) ?_; conv => whnf) | (refine RegX.rule (id := 31) hT rfl [] oVPfO60_31 (by decide +kernel) ?_; conv => whnf) | omega | (refine And.intro ?_ ?_; ((try dsimp only); first | omega | (refine szA rfl ?_; omega) | (refine szB rfl ?_; omega) | (unfold inI64; omega) | exact rfl | (simp only [lns] at *; omega) | decide | (unfold inI64; decide)); conv => whnf) | decide | assumption)
         all_goals try (exfalso; omega)
         refine LoopX.rule hT (C := []) (ι := Nat × Nat × List Arc) (fun (b, n, C) => Sm A C ∧ (nwA h.length A).Aug (floA B) (getI D) (getB E) T1 m1 (floA C) b n a ∧ AugB A B C m1 n1 n) (fun (b, n, C) => mkSt [(0, .ptr 1000000 0), (4, .buf 22), (5, .buf 27), (7, .d (.int .i64 (s + m1 * D.getD T1 0))), (9, .d (steps E)), (14, .d (.int .i64 m1)), (15, .d (.int .i64 b))] (tpB h w C ++ [(22, seqB 3 1 iF 0 (L.set a (L.getD a 0 - m1))), (27, seqB 3 1 iF 0 (K.set T1 (K.getD T1 0 - m1)))])) (fun (_, n, _) => n) (T1, n1, B) ⟨hI.sm, Nw.aug_init hch1 (by show T1 < h.length; omega) hTd, ⟨Nat.le_refl _, fun k hk => Int.le_refl _⟩⟩ ?_ ?_
         · refine Entails.mk' [(1000000, 1000000), (1000001, 1000001), (1000002, 1000002), (1000003, 1000003), (22, 22), (27, 27)] rfl rfl ⟨lr, lr, lr, SV.le_int ?_, lr, SV.le_int ?_, lr, trivial⟩ ⟨rr, rr, rr, rr, ?_, ?_, trivial⟩
           · subst hm1e; rfl
           · subst hm1e; rfl
           · subst hm1e; exact Res.le_upd (fun _ => L.getD (a : Int).toNat 0 - min m (L.getD (a : Int).toNat 0)) (fun y => rfl)
           · subst hm1e; exact Res.le_upd (fun _ => K.getD (T1 : Int).toNat 0 - min m (L.getD (a : Int).toNat 0)) (fun y => rfl)
         clear hBot hCh hst hst' hch1 hm1' hb
         rintro ⟨b, n, C⟩ ⟨hS, hAug, hAb⟩
         have hS : Sm A C := hS
         have hAug : (nwA h.length A).Aug (floA B) (getI D) (getB E) T1 m1 (floA C) b n a := hAug
         have hAb : AugB A B C m1 n1 n := hAb
         have hbN : b < h.length := hAug.aN
         have eb : (b : Int).toNat = b := Int.toNat_natCast b
         have hCl := hS.len
         have hmn : 0 ≤ m1 * (n : Int) ∧ m1 * (n1 : Int) ≤ 1000 * m1 := by
          refine ⟨Int.mul_nonneg (by omega) (by omega), ?_⟩
          rw [Int.mul_comm]
          exact Int.mul_le_mul_of_nonneg_right (by omega) (by omega)
         rcases Int.lt_or_le (E.getD b (0, false)).1 0 with hst | hst
         · have hst' := hst
           rw [← eb] at hst'
           conv => whnf
           repeat' (first | (refine br_intro ?_ ?_ <;> intro hb <;> (try simp only [brs] at hb) <;> conv => whnf) | (refine RegX.rule (id := 1) hT rfl [] oVPfO60_1 (by decide +kernel) ?_; conv => whnf) | (refine RegX.rule (id := 14) hT rfl [] oVPfO60_14 (by decide +kernel) ?_; conv => whnf) | (refine RegX.rule (id := 21) hT rfl [] oVPfO60_21 (by decide +kernel) ?_; conv => whnf) | (refine RegX.rule (id := 23) hT rfl [] oVPfO60_23 (by decide +kernel) ?_; conv => whnf) | (refine RegX.rule (id := 31) hT rfl [] oVPfO60_31 (by decide +kernel) ?_; conv => whnf) | omega | (refine And.intro ?_ ?_; ((try dsimp only); first | omega | (refine szA rfl ?_; omega) | (refine szB rfl ?_; omega) | (unfold inI64; omega) | exact rfl | (simp only [lns] at *; omega) | decide | (unfold inI64; decide)); conv => whnf) | decide | assumption)
           all_goals try (exfalso; omega)
           have hn0 : getB E b = none := stpD_none.2 hst
           obtain ⟨hn00, hba⟩ : n = 0 ∧ b = a := by
            cases hAug.ch with
            | root _ _ => exact ⟨rfl, rfl⟩
            | step _ _ _ e he _ _ => rw [hn0] at he; cases he
           subst hn00 hba
           obtain ⟨q1, q2, q3⟩ := Nw.next hG (by omega) hNb hcC hI.st hI.pt hW hBd hFi (by show T1 < h.length; omega) hm1b.1.1 (by unfold getI; omega) (by unfold getI; omega) hAug hn0
           have eL : getI (L.set b (L.getD b 0 - m1)) = upd (getI L) b (getI L b - m1) := getI_set (by omega)
           have eK : getI (K.set T1 (K.getD T1 0 - m1)) = upd (getI K) T1 (getI K T1 - m1) := getI_set (by omega)
           have eS : su (getI (K.set T1 (K.getD T1 0 - m1))) h.length = su (getI K) h.length - m1 := by
            rw [eK, su_upd (by omega)]; omega
           have hs2 : 0 ≤ su (getI (K.set T1 (K.getD T1 0 - m1))) h.length := by rw [eK]; exact su_nn fun v hv => (q1.lack0 v hv).1
           refine ⟨(L.set b (L.getD b 0 - m1), K.set T1 (K.getD T1 0 - m1), C, nxP p (getI D), s + m1 * D.getD T1 0), ⟨hS, by rw [List.length_set]; exact hLl, by rw [List.length_set]; exact hKl, by rw [eL, eK]; exact q1, by rw [eL]; exact q2, by rw [q3, hI.cs]; rfl, by rw [eS]; omega, fun k hk => ?_⟩, by show (su (getI (K.set T1 (K.getD T1 0 - m1))) h.length).toNat < (su (getI K) h.length).toNat; omega, ?_⟩
           · have h1 := hAb.fb k hk
             have h2 := hI.fb k hk
             have h3 := hAug.fl k hk
             rw [eS]
             constructor
             · rcases h3 with w | ⟨_, _, _, _, w3, w4⟩ <;> omega
             · simp at h1; omega
           · exact Entails.mk' [(1000000, 1000000), (1000001, 1000001), (1000002, 1000002), (1000003, 1000003), (22, 22), (27, 27)] rfl rfl ⟨lr, lr, lr, lr, trivial⟩ ⟨rr, rr, rr, rr, rr, rr, trivial⟩
         · obtain ⟨k, hk⟩ : ∃ k : Nat, (E.getD b (0, false)).1 = (k : Int) := ⟨_, (Int.toNat_of_nonneg hst).symm⟩
           obtain ⟨bb, hbk⟩ : ∃ bb, (E.getD b (0, false)).2 = bb := ⟨_, rfl⟩
           have he : getB E b = some (k, bb) := by unfold getB; rw [stpD_some hst, hk, hbk, Int.toNat_natCast]
           obtain ⟨s1, s2, s3, s4, s5⟩ := hW.st b _ hbN he
           have hk1 : k < A.length := s1.1
           obtain ⟨n', hn', hA2⟩ := hAug.step hG hW hFi (by omega) he
           have hfr := hA.fr _ hk1
           have hto := hA.to _ hk1
           rw [← (hS.fld k).1] at hfr
           rw [← (hS.fld k).2.1] at hto
           have hk' : (E.getD (b : Int).toNat (0, false)).1 = (k : Int) := by rw [eb]; exact hk
           have hk2 : (E.getD (b : Int).toNat (0, false)).1.toNat = k := by rw [hk', Int.toNat_natCast]
           have hCf : 0 ≤ floA C k ∧ floA C k ≤ 2000000000 := by
            have h1 := hAb.fb k hk1
            have h2 := hI.fb k hk1
            constructor
            · rcases hAug.fl k hk1 with w | ⟨_, _, _, _, w3, w4⟩ <;> omega
            · omega
           have hCf' : 0 ≤ (C.getD (E.getD (b : Int).toNat (0, false)).1.toNat ar0).flow ∧ (C.getD (E.getD (b : Int).toNat (0, false)).1.toNat ar0).flow ≤ 2000000000 := by rw [hk2]; exact hCf
           have emn : m1 * (n : Int) = m1 * (n' : Int) + m1 := by rw [hn', Int.natCast_add, Int.mul_add]; simp
           cases bb with
           | true =>
             have hb2 : (E.getD (b : Int).toNat (0, false)).2 = true := by rw [eb]; exact hbk
             conv => whnf
             repeat' (first | (refine br_intro ?_ ?_ <;> intro hb <;> (try simp only [brs] at hb) <;> conv => whnf) | (refine RegX.rule (id := 1) hT rfl [] oVPfO60_1 (by decide +kernel) ?_; conv => whnf) | (refine RegX.rule (id := 14) hT rfl [] oVPfO60_14 (by decide +kernel) ?_; conv => whnf) | (refine RegX.rule (id := 21) hT rfl [] oVPfO60_21 (by decide +kernel) ?_; conv => whnf) | (refine RegX.rule (id := 23) hT rfl [] oVPfO60_23 (by decide +kernel) ?_; conv => whnf) | (refine RegX.rule (id := 31) hT rfl [] oVPfO60_31 (by decide +kernel) ?_; conv => whnf) | omega | (refine And.intro ?_ ?_; ((try dsimp only); first | omega | (refine szA rfl ?_; omega) | (refine szB rfl ?_; omega) | (unfold inI64; omega) | exact rfl | (simp only [lns] at *; omega) | decide | (unfold inI64; decide)); conv => whnf) | decide | assumption)
             all_goals try (exfalso; omega)
             all_goals try (rw [hbk] at hb; cases hb; done)
             simp only [Nat.beq_refl, cond_true]
             conv => whnf
             repeat' (first | (refine br_intro ?_ ?_ <;> intro hb <;> (try simp only [brs] at hb) <;> conv => whnf) | (refine RegX.rule (id := 1) hT rfl [] oVPfO60_1 (by decide +kernel) ?_; conv => whnf) | (refine RegX.rule (id := 14) hT rfl [] oVPfO60_14 (by decide +kernel) ?_; conv => whnf) | (refine RegX.rule (id := 21) hT rfl [] oVPfO60_21 (by decide +kernel) ?_; conv => whnf) | (refine RegX.rule (id := 23) hT rfl [] oVPfO60_23 (by decide +kernel) ?_; conv => whnf) | (refine RegX.rule (id := 31) hT rfl [] oVPfO60_31 (by decide +kernel) ?_; conv => whnf) | omega | (refine And.intro ?_ ?_; ((try dsimp only); first | omega | (refine szA rfl ?_; omega) | (refine szB rfl ?_; omega) | (unfold inI64; omega) | exact rfl | (simp only [lns] at *; omega) | decide | (unfold inI64; decide)); conv => whnf) | decide | assumption)
             have hA2 : (nwA h.length A).Aug (floA B) (getI D) (getB E) T1 m1 (upd (floA C) k (floA C k - m1)) (A.getD k ar0).to.toNat n' a := hA2
             have eC : floA (C.set k { C.getD k ar0 with flow := (C.getD k ar0).flow - m1 }) = upd (floA C) k (floA C k - m1) := floA_set (by omega)
             refine ⟨((A.getD k ar0).to.toNat, n', C.set k { C.getD k ar0 with flow := (C.getD k ar0).flow - m1 }), ⟨hS.set _ _, by rw [eC]; exact hA2, ⟨by have := hAb.le; show n' ≤ n1; omega, fun j hj => ?_⟩⟩, by show n' < n; omega, Entails.mk' [(1000000, 1000000), (1000001, 1000001), (1000002, 1000002), (1000003, 1000003), (22, 22), (27, 27)] rfl rfl ⟨lr, lr, lr, lr, lr, lr, SV.le_int ?_, trivial⟩ ⟨rr, rr, rr, ?_, rr, rr, trivial⟩⟩
             · have h1 := hAb.fb j hj
               show floA (C.set k { C.getD k ar0 with flow := (C.getD k ar0).flow - m1 }) j + m1 * (n' : Int) ≤ floA B j + m1 * (n1 : Int)
               rw [eC]
               by_cases q : j = k
               · subst q; rw [upd_self]; omega
               · rw [upd_ne q]; omega
             · show (C.getD (E.getD (b : Int).toNat (0, false)).1.toNat ar0).to = _
               exact (by rw [hk2, ← (hS.fld k).2.1]; omega)
             · rw [← hk2]
               exact Res.le_upd (f := arF) (d := ar0) (l := C) (fun x : Arc => ({ x with flow := (C.getD (E.getD (b : Int).toNat (0, false)).1.toNat ar0).flow - m1 } : Arc)) (fun y => rfl)
           | false =>
             have hb2 : (E.getD (b : Int).toNat (0, false)).2 = false := by rw [eb]; exact hbk
             conv => whnf
             repeat' (first | (refine br_intro ?_ ?_ <;> intro hb <;> (try simp only [brs] at hb) <;> conv => whnf) | (refine RegX.rule (id := 1) hT rfl [] oVPfO60_1 (by decide +kernel) ?_; conv => whnf) | (refine RegX.rule (id := 14) hT rfl [] oVPfO60_14 (by decide +kernel) ?_; conv => whnf) | (refine RegX.rule (id := 21) hT rfl [] oVPfO60_21 (by decide +kernel) ?_; conv => whnf) | (refine RegX.rule (id := 23) hT rfl [] oVPfO60_23 (by decide +kernel) ?_; conv => whnf) | (refine RegX.rule (id := 31) hT rfl [] oVPfO60_31 (by decide +kernel) ?_; conv => whnf) | omega | (refine And.intro ?_ ?_; ((try dsimp only); first | omega | (refine szA rfl ?_; omega) | (refine szB rfl ?_; omega) | (unfold inI64; omega) | exact rfl | (simp only [lns] at *; omega) | decide | (unfold inI64; decide)); conv => whnf) | decide | assumption)
             all_goals try (exfalso; omega)
             all_goals try (rw [hbk] at hb; cases hb; done)
             simp only [Nat.beq_refl, cond_true]
             conv => whnf
             repeat' (first | (refine br_intro ?_ ?_ <;> intro hb <;> (try simp only [brs] at hb) <;> conv => whnf) | (refine RegX.rule (id := 1) hT rfl [] oVPfO60_1 (by decide +kernel) ?_; conv => whnf) | (refine RegX.rule (id := 14) hT rfl [] oVPfO60_14 (by decide +kernel) ?_; conv => whnf) | (refine RegX.rule (id := 21) hT rfl [] oVPfO60_21 (by decide +kernel) ?_; conv => whnf) | (refine RegX.rule (id := 23) hT rfl [] oVPfO60_23 (by decide +kernel) ?_; conv => whnf) | (refine RegX.rule (id := 31) hT rfl [] oVPfO60_31 (by decide +kernel) ?_; conv => whnf) | omega | (refine And.intro ?_ ?_; ((try dsimp only); first | omega | (refine szA rfl ?_; omega) | (refine szB rfl ?_; omega) | (unfold inI64; omega) | exact rfl | (simp only [lns] at *; omega) | decide | (unfold inI64; decide)); conv => whnf) | decide | assumption)
             have hA2 : (nwA h.length A).Aug (floA B) (getI D) (getB E) T1 m1 (upd (floA C) k (floA C k + m1)) (A.getD k ar0).fr.toNat n' a := hA2
             have eC : floA (C.set k { C.getD k ar0 with flow := (C.getD k ar0).flow + m1 }) = upd (floA C) k (floA C k + m1) := floA_set (by omega)
             refine ⟨((A.getD k ar0).fr.toNat, n', C.set k { C.getD k ar0 with flow := (C.getD k ar0).flow + m1 }), ⟨hS.set _ _, by rw [eC]; exact hA2, ⟨by have := hAb.le; show n' ≤ n1; omega, fun j hj => ?_⟩⟩, by show n' < n; omega, Entails.mk' [(1000000, 1000000), (1000001, 1000001), (1000002, 1000002), (1000003, 1000003), (22, 22), (27, 27)] rfl rfl ⟨lr, lr, lr, lr, lr, lr, SV.le_int ?_, trivial⟩ ⟨rr, rr, rr, ?_, rr, rr, trivial⟩⟩
             · have h1 := hAb.fb j hj
               show floA (C.set k { C.getD k ar0 with flow := (C.getD k ar0).flow + m1 }) j + m1 * (n' : Int) ≤ floA B j + m1 * (n1 : Int)
               rw [eC]
               by_cases q : j = k
               · subst q; rw [upd_self]; omega
               · rw [upd_ne q]; omega
             · show (C.getD (E.getD (b : Int).toNat (0, false)).1.toNat ar0).fr = _
               exact (by rw [hk2, ← (hS.fld k).1]; omega)
             · rw [← hk2]
               exact Res.le_upd (f := arF) (d := ar0) (l := C) (fun x : Arc => ({ x with flow := (C.getD (E.getD (b : Int).toNat (0, false)).1.toNat ar0).flow + m1 } : Arc)) (fun y => rfl)
       · obtain ⟨k, hk⟩ : ∃ k : Nat, (E.getD a (0, false)).1 = (k : Int) := ⟨_, (Int.toNat_of_nonneg hst).symm⟩
         obtain ⟨b, hbk⟩ : ∃ b, (E.getD a (0, false)).2 = b := ⟨_, rfl⟩
         have he : getB E a = some (k, b) := by unfold getB; rw [stpD_some hst, hk, hbk, Int.toNat_natCast]
         obtain ⟨s1, s2, s3, s4, s5⟩ := hW.st a _ haN he
         have hk1 : k < A.length := s1.1
         have hstep := hBot.step hG hW he
         obtain ⟨n', hn', hch'⟩ : ∃ n', n = n' + 1 ∧ (nwA h.length A).Ch (getB E) (fun _ => True) ((nwA h.length A).tl (k, b)) n' r := by
          cases hCh with
          | root _ hv => rw [he] at hv; cases hv
          | step _ n' _ e' he' _ hc => rw [he] at he'; cases he'; exact ⟨n', rfl, hc⟩
         have hfr := hA.fr _ hk1
         have hto := hA.to _ hk1
         rw [← (hI.sm.fld k).1] at hfr
         rw [← (hI.sm.fld k).2.1] at hto
         have hk' : (E.getD (a : Int).toNat (0, false)).1 = (k : Int) := by rw [ea]; exact hk
         have hk2 : (E.getD (a : Int).toNat (0, false)).1.toNat = k := by rw [hk', Int.toNat_natCast]
         cases b with
         | true =>
           have hb2 : (E.getD (a : Int).toNat (0, false)).2 = true := by rw [ea]; exact hbk
           conv => whnf
           repeat' (first | (refine br_intro ?_ ?_ <;> intro hb <;> (try simp only [brs] at hb) <;> conv => whnf) | (refine RegX.rule (id := 1) hT rfl [] oVPfO60_1 (by decide +kernel) ?_; conv => whnf) | (refine RegX.rule (id := 14) hT rfl [] oVPfO60_14 (by decide +kernel) ?_; conv => whnf) | (refine RegX.rule (id := 21) hT rfl [] oVPfO60_21 (by decide +kernel) ?_; conv => whnf) | (refine RegX.rule (id := 23) hT rfl [] oVPfO60_23 (by decide +kernel) ?_; conv => whnf) | (refine RegX.rule (id := 31) hT rfl [] oVPfO60_31 (by decide +kernel) ?_; conv => whnf) | omega | (refine And.intro ?_ ?_; ((try dsimp only); first | omega | (refine szA rfl ?_; omega) | (refine szB rfl ?_; omega) | (unfold inI64; omega) | exact rfl | (simp only [lns] at *; omega) | decide | (unfold inI64; decide)); conv => whnf) | decide | assumption)
           all_goals try (exfalso; omega)
           all_goals try (rw [hbk] at hb; cases hb; done)
           refine ⟨((A.getD k ar0).to.toNat, min m (floA B k), n'), ⟨hstep, r, hch'⟩, by show n' < n; omega, Entails.mk' [(1000000, 1000000), (1000001, 1000001), (1000002, 1000002), (1000003, 1000003), (22, 22), (27, 27)] rfl rfl ⟨lr, lr, lr, lr, lr, lr, lr, SV.le_int ?_, SV.le_int ?_, trivial⟩ ⟨rr, rr, rr, rr, rr, rr, trivial⟩⟩
           · show min m (B.getD (E.getD (a : Int).toNat (0, false)).1.toNat ar0).flow = _
             rw [hk2]; rfl
           · show (B.getD (E.getD (a : Int).toNat (0, false)).1.toNat ar0).to = _
             rw [hk2, ← (hI.sm.fld k).2.1]; omega
         | false =>
           have hb2 : (E.getD (a : Int).toNat (0, false)).2 = false := by rw [ea]; exact hbk
           conv => whnf
           repeat' (first | (refine br_intro ?_ ?_ <;> intro hb <;> (try simp only [brs] at hb) <;> conv => whnf) | (refine RegX.rule (id := 1) hT rfl [] oVPfO60_1 (by decide +kernel) ?_; conv => whnf) | (refine RegX.rule (id := 14) hT rfl [] oVPfO60_14 (by decide +kernel) ?_; conv => whnf) | (refine RegX.rule (id := 21) hT rfl [] oVPfO60_21 (by decide +kernel) ?_; conv => whnf) | (refine RegX.rule (id := 23) hT rfl [] oVPfO60_23 (by decide +kernel) ?_; conv => whnf) | (refine RegX.rule (id := 31) hT rfl [] oVPfO60_31 (by decide +kernel) ?_; conv => whnf) | omega | (refine And.intro ?_ ?_; ((try dsimp only); first | omega | (refine szA rfl ?_; omega) | (refine szB rfl ?_; omega) | (unfold inI64; omega) | exact rfl | (simp only [lns] at *; omega) | decide | (unfold inI64; decide)); conv => whnf) | decide | assumption)
           all_goals try (exfalso; omega)
           all_goals try (rw [hbk] at hb; cases hb; done)
           refine ⟨((A.getD k ar0).fr.toNat, m, n'), ⟨hstep, r, hch'⟩, by show n' < n; omega, Entails.mk' [(1000000, 1000000), (1000001, 1000001), (1000002, 1000002), (1000003, 1000003), (22, 22), (27, 27)] rfl rfl ⟨lr, lr, lr, lr, lr, lr, lr, lr, SV.le_int ?_, trivial⟩ ⟨rr, rr, rr, rr, rr, rr, trivial⟩⟩
           show (B.getD (E.getD (a : Int).toNat (0, false)).1.toNat ar0).fr = _
           rw [hk2, ← (hI.sm.fld k).1]; omega
def netH (l : List Roa) : List DV → Bool
 | [.str a, .str b] => (roadO l a b).isSome
 | _ => false
def netV (l : List Roa) : List DV → List DV
 | [.str a, .str b] => rdF ((roadO l a b).getD rd0)
 | _ => rdF rd0
abbrev netG (l : List Roa) : Res := .map true true [.str, .str] [.str [], .str [], .int .i64 0, .int .i64 0] (netH l) (netV l)
theorem wk_two {key : List DV} (h : wk [.str, .str] key = true) : ∃ a b, key = [.str a, .str b] := by
 cases key with
 | nil => simp [wk] at h
 | cons x key =>
   cases key with
   | nil => simp [wk] at h
   | cons y key =>
     cases key with
     | cons z key => simp [wk] at h
     | nil =>
       simp only [wk, Bool.and_true, Bool.and_eq_true] at h
       cases x <;> simp [wk1] at h
       cases y <;> simp at h
       exact ⟨_, _, rfl⟩
theorem z117 (l : List Roa) (hl : rdsE l = 0) : FSpec Tryz.prog 55 [.d (roas l)] [] (fun y r => y = .mp 3 ∧ r = [(3, netG l)]) := by
 have hl2 := (rds_all hl).1
 refine spec_of hT (C := []) Tryz.func55 rfl Tryz.call55 rfl rfl rfl ?_
 conv => whnf
 refine LoopX.rule hT (C := []) (ι := Nat) (fun i => i ≤ l.length) (fun i => mkSt [(3, .mp 3), (7, .d (roas l)), (8, .d (.int .i64 l.length)), (9, .d (.int .i64 i))] [(3, netR l i)]) (fun i => l.length - i) 0 (by omega) ?_ ?_
 · exact Entails.mk' [(3, 6)] rfl rfl ⟨lr, lr, lr, lr, trivial⟩ ⟨rr, trivial⟩
 rintro i p1
 conv => whnf
 repeat' (first | (refine br_intro ?_ ?_ <;> intro hb <;> (try simp only [brs] at hb) <;> conv => whnf) | omega | (refine And.intro ?_ ?_; ((try dsimp only); first | omega | (refine szA rfl ?_; omega) | (refine szB rfl ?_; omega) | (unfold inI64; omega) | exact rfl | (simp only [lns] at *; omega) | decide | (unfold inI64; decide)); conv => whnf) | decide | assumption)
 · exact ⟨i + 1, by omega, by omega, Entails.mk' [(3, 3)] rfl rfl ⟨lr, lr, lr, lr, trivial⟩ ⟨rr, trivial⟩⟩
 · have : i = l.length := by omega
   subst this
   refine .ret _ ?_
   conv => whnf
   refine ⟨_, ⟨rfl, rfl⟩, Res.le_map (fun key hk => ?_), trivial⟩
   obtain ⟨a, b, rfl⟩ := wk_two hk
   exact ⟨net_has a b, net_val hl a b⟩
theorem roadC_bd {l : List Roa} (h : rdsE l = 0) (a b : List UInt8) : 0 ≤ ((roadO l a b).getD rd0).car ∧ ((roadO l a b).getD rd0).car ≤ 1000000 := by
 cases q : roadO l a b with
 | none => simp [rd0]
 | some n => exact (roadO_bd h q).1
theorem z113 (l : List Roa) (hl : l.length ≤ 2^40) (a b : List UInt8) : FSpec Tryz.prog 51 [.d (roas l), .d (.str a), .d (.str b)] [] (fun y r => y = .tup [.agg ((rdF ((roadO l a b).getD rd0)).map .d), .d (.bool (roadO l a b).isSome)] ∧ r = []) := by
 refine spec_of hT (C := []) Tryz.func51 rfl Tryz.call51 rfl rfl rfl ?_
 conv => whnf
 refine LoopX.rule hT (C := []) (ι := Nat) (fun i => i ≤ l.length ∧ ∀ j, j < i → onRd l a b j = false) (fun i => mkSt [(1, .d (.str a)), (2, .d (.str b)), (6, .ptr 6 0), (10, .d (roas l)), (11, .d (.int .i64 l.length)), (12, .d (.int .i64 i))] [(6, .cells 64 ((rdF rd0).map .d))]) (fun i => l.length - i) 0 ⟨by omega, by omega⟩ (by (refine Entails.mk' [(6, 6)] rfl rfl ?_ ?_ <;> repeat' (first | exact True.intro | exact lr | exact rr | exact SV.le_int (by omega) | exact SV.le_any _ | refine And.intro ?_ ?_)); done) ?_
 rintro i ⟨p1, p2⟩
 have e1 : (i : Int).toNat = i := Int.toNat_natCast i
 conv => whnf
 repeat' (first | (refine br_intro ?_ ?_ <;> intro hb <;> (try simp only [brs] at hb) <;> conv => whnf) | omega | (refine And.intro ?_ ?_; ((try dsimp only); first | omega | (refine szA rfl ?_; omega) | (refine szB rfl ?_; omega) | (unfold inI64; omega) | exact rfl | (simp only [lns] at *; omega) | decide | (unfold inI64; decide)); conv => whnf) | decide | assumption)
 all_goals first
  | exact ⟨i + 1, ⟨by omega, all_step p2 (by clear p2; unfold onRd; grind)⟩, by omega, (by (refine Entails.mk' [(6, 6)] rfl rfl ?_ ?_ <;> repeat' (first | exact True.intro | exact lr | exact rr | exact SV.le_int (by omega) | exact SV.le_any _ | refine And.intro ?_ ?_)); done)⟩
  | (have h1 : roadX l a b = i := ixF_hit (by omega) p2 (by clear p2; unfold onRd; grind)
     have h2 : roadO l a b = some (l.getD i rd0) := by unfold roadO; rw [if_pos (by omega), h1]; rfl
     refine .ret _ ?_
     (conv => whnf)
     refine ⟨_, ⟨?_, rfl⟩, trivial⟩
     conv => lhs; whnf
     rw [h2]; rfl)
  | (have : i = l.length := by omega
     subst this
     have h1 : roadX l a b = -1 := ixF_none p2
     have h2 : roadO l a b = none := by unfold roadO; rw [if_neg (by omega)]
     refine .ret _ ?_
     (conv => whnf)
     refine ⟨_, ⟨?_, rfl⟩, trivial⟩
     conv => lhs; whnf
     rw [h2]; rfl)
end Go.Proofs.YteehenjdddlnnaaGreatDoor
namespace Go.Proofs
open Go.Shelf
def Tryz.lays106_ren : Go.Shelf.Ren := ⟨fun | 106 => 38 | 213 => 72 | 265 => 109 | n => n, fun | 9 => 9 | 3 => 3 | n => n, fun | n => n⟩
theorem Tryz.lays106 : Go.Proofs.Lays.n106 Tryz.prog Tryz.lays106_ren := {
 mixed := by kernel_rfl
 f106 := Tryz.func38.trans (congrArg some (by kernel_rfl))
 f213 := Tryz.func72.trans (congrArg some (by kernel_rfl))
 f265 := Tryz.func109.trans (congrArg some (by kernel_rfl))
 t3 := Tryz.underlying3
 a3 := Tryz.isAgg3
 z3 := Tryz.sizeOf3
 v3 := Tryz.zeroValue3
 t9 := Tryz.underlying9
 a9 := Tryz.isAgg9
 z9 := Tryz.sizeOf9
 v9 := Tryz.zeroValue9 }
end Go.Proofs
set_option maxRecDepth 20000
namespace Go.Proofs.YteehenjdddlnnaaGreatDoor
open Go Go.Eng Go.RowKit
theorem cmpB_S : ∀ (a b : List UInt8), Lib.compareBytes a b = cmpS a b := by
 intro a
 induction a with
 | nil => intro b; cases b <;> simp [Lib.compareBytes, cmpS, Op.bytesLess]
 | cons x a ih =>
   intro b
   cases b with
   | nil => simp [Lib.compareBytes, cmpS, Op.bytesLess]
   | cons y b =>
     have := ih b
     unfold cmpS at this ⊢
     simp only [Lib.compareBytes, Op.bytesLess]
     grind
theorem s190 (a b : List UInt8) : FSpec Tryz.prog 38 [.d (.str a), .d (.str b)] [] (fun x r => x = .d (.int .i64 (cmpS a b)) ∧ r = []) := by
 refine FSpec.ofBelow Tryz.call38 (fun G β w vs _ hl hd => ?_)
 match vs, hl with
 | [u, v], _ =>
   have hu := hd 0 _ _ rfl rfl
   have hv := hd 1 _ _ rfl rfl
   cases hu with | d _ _ hu => cases hu with | str _ =>
   cases hv with | d _ _ hv => cases hv with | str _ =>
   refine ⟨.int .i64 (Lib.compareBytes a b), fun G β => ?_, (Go.Proofs.Any.strings_Compare Go.Proofs.Tryz.lays106 ⟨a.toArray⟩ ⟨b.toArray⟩ w).mono ?_⟩
   · rw [← cmpB_S]; exact .d _ _ (.int _ _)
   · rintro e w' ⟨he, rfl⟩
     exact ⟨he, Below.refl _ _⟩
def oVMvA54_10 : List (Nat × List Nat) := [(0, []), (1, []), (2, []), (3, []), (4, [3]), (5, [3]), (6, []), (7, []), (8, []), (9, [3, 4, 5, 6, 7, 8]), (10, [3, 4, 5, 6, 7, 8, 9]), (11, [3, 4, 5, 6, 7, 8, 9]), (12, [3, 4, 5, 6, 7, 8]), (13, [3, 4, 5, 6, 7, 8]), (14, [3, 4, 5, 6, 7, 8]), (15, [3, 4, 5, 6, 7, 8, 9, 10, 11, 12, 13, 14]), (16, [3, 4, 5, 6, 7, 8, 9, 10, 11, 12, 13, 14]), (17, [3, 4, 5, 6, 7, 8, 9, 10, 11, 12, 13, 14, 15, 16]), (18, [3, 4, 5, 6, 7, 8, 9, 10, 11, 12, 13, 14, 15, 16]), (19, []), (20, []), (21, []), (22, [])]
def oVMvA11_10 : List (Nat × List Nat) := [(0, []), (1, []), (2, []), (3, []), (4, [3]), (5, [3]), (6, []), (7, []), (8, []), (9, [3, 4, 5, 6, 7, 8]), (10, [3, 4, 5, 6, 7, 8, 9]), (11, [3, 4, 5, 6, 7, 8, 9]), (12, [3, 4, 5, 6, 7, 8]), (13, [3, 4, 5, 6, 7, 8]), (14, [3, 4, 5, 6, 7, 8]), (15, [3, 4, 5, 6, 7, 8, 9, 10, 11, 12, 13, 14]), (16, [3, 4, 5, 6, 7, 8, 9, 10, 11, 12, 13, 14]), (17, [3, 4, 5, 6, 7, 8, 9, 10, 11, 12, 13, 14, 15, 16]), (18, [3, 4, 5, 6, 7, 8, 9, 10, 11, 12, 13, 14, 15, 16]), (19, []), (20, []), (21, []), (22, [])]
def mvE (l : List Mov) (i : Nat) : Int :=
 let x := l.getD i mv0
 if isKeyB x.a = false ∨ isKeyB x.b = false then 5 else if x.a = x.b then 14 else if 0 < i ∧ 0 ≤ endsC (l.getD (i - 1) mv0).a (l.getD (i - 1) mv0).b x.a x.b then 7 else if ¬ (1 ≤ x.many ∧ x.many ≤ 20) then 1 else 0
def mvsE (l : List Mov) : Int := if 2500 < l.length then 2 else firstAt (mvE l) l.length
def mvK (x : Mov) : Prop := x.a.length ≤ 2^40 ∧ x.b.length ≤ 2^40
def mvOk (l : List Mov) : Prop := l.length ≤ 2^40 ∧ ∀ x ∈ l, mvK x
theorem mvs_all {l : List Mov} (h : mvsE l = 0) : l.length ≤ 2500 ∧ ∀ i, i < l.length → mvE l i = 0 := by
 unfold mvsE at h
 split at h
 · cases h
 · exact ⟨by omega, firstAt_all h⟩
theorem mov_bd {l : List Mov} (h : mvsE l = 0) {i : Nat} (hi : i < l.length) : 1 ≤ (l.getD i mv0).many ∧ (l.getD i mv0).many ≤ 20 := by
 have := (mvs_all h).2 i hi
 unfold mvE at this
 simp only at this
 grind
theorem z116 (l : List Mov) (hk : mvOk l) : FSpec Tryz.prog 54 [.d (movs l)] [] (fun x r => x = .d (.int .i64 (mvsE l)) ∧ r = []) := by
 refine spec_of hT (C := []) Tryz.func54 rfl Tryz.call54 rfl rfl rfl ?_
 conv => whnf
 refine br_intro (fun h0 => ?_) (fun h0 => ?_)
 · simp at h0
   conv => whnf
   refine .ret _ ?_
   conv => whnf
   refine ⟨[], ⟨?_, rfl⟩, trivial⟩
   conv => lhs; whnf
   unfold mvsE; rw [if_pos (by omega)]
 simp at h0
 conv => whnf
 refine LoopX.rule hT (C := []) (ι := Nat) (fun i => i ≤ l.length ∧ ∀ j, j < i → mvE l j = 0) (fun i => mkSt [(0, .d (movs l)), (8, .d (movs l)), (9, .d (.int .i64 l.length)), (10, .d (.int .i64 i))] []) (fun i => l.length - i) 0 ⟨by omega, by omega⟩ (by (refine Entails.mk' [] rfl rfl ?_ ?_ <;> repeat' (first | exact True.intro | exact lr | exact rr | exact SV.le_int (by omega) | exact SV.le_any _ | refine And.intro ?_ ?_)); done) ?_
 rintro i ⟨p1, p2⟩
 have hx : (i : Int) < l.length → mvK (l.getD (i : Int).toNat mv0) := fun hi => hk.2 _ (getD_mem (by omega))
 have e1 : (i : Int).toNat = i := Int.toNat_natCast i
 have hbad : ∀ e : Int, i < l.length → e ≠ 0 → mvE l i = e → mvsE l = e := fun e h h1 h2 => by
  unfold mvsE; rw [if_neg (by omega)]
  exact firstAt_eq h p2 h1 h2
 conv => whnf
 repeat' (first | (refine CallX.exact (s108 _ (hx (by omega)).1) rfl rfl ?_; rotate_right; conv => whnf) | (refine CallX.exact (s108 _ (hx (by omega)).2) rfl rfl ?_; rotate_right; conv => whnf) | (refine CallX.exact (s204 _ _ _ _) rfl rfl ?_; rotate_right; conv => whnf) | (refine CallX.exact (s119 _ _ _) rfl rfl ?_; rotate_right; conv => whnf) | (refine br_intro ?_ ?_ <;> intro hb <;> (try simp only [brs] at hb) <;> conv => whnf) | (refine RegX.rule (id := 10) hT rfl [] oVMvA54_10 (by decide +kernel) ?_; conv => whnf) | omega | (refine And.intro ?_ ?_; ((try dsimp only); first | omega | (refine szA rfl ?_; omega) | (refine szB rfl ?_; omega) | (unfold inI64; omega) | exact rfl | (simp only [lns] at *; omega) | decide | (unfold inI64; decide)); conv => whnf) | decide | assumption)
 all_goals first
  | (refine ⟨i + 1, ⟨by omega, first_step p2 (by clear p2 hbad hk hx; simp only [e1, toNat_pred] at *; unfold mvE ; grind)⟩, by omega, (by (refine Entails.mk' [] rfl rfl ?_ ?_ <;> repeat' (first | exact True.intro | exact lr | exact rr | exact SV.le_int (by omega) | exact SV.le_any _ | refine And.intro ?_ ?_)); done)⟩)
  | (refine .ret _ ?_
     conv => whnf
     refine ⟨[], ⟨?_, rfl⟩, trivial⟩
     conv => lhs; whnf
     congr 2
     first
      | exact (hbad _ (by omega) (by decide) (by clear p2 hbad hk hx; simp only [e1, toNat_pred] at *; unfold mvE ; grind)).symm
      | (have : i = l.length := by omega
         subst this
         unfold mvsE; rw [if_neg (by omega), firstAt_zero p2]))
def cmpSL : List (List UInt8) → List (List UInt8) → Int
 | [], [] => 0
 | [], _ :: _ => -1
 | _ :: _, [] => 1
 | x :: xs, y :: ys => if cmpS x y ≠ 0 then cmpS x y else cmpSL xs ys
theorem z204 (l m : List (List UInt8)) (hl : l.length ≤ 2^40) (hm : m.length ≤ 2^40) : FSpec Tryz.prog 76 [.d (strs l), .d (strs m)] [] (fun x r => x = .d (.int .i64 (cmpSL l m)) ∧ r = []) := by
 refine spec_of hT (C := []) Tryz.func76 rfl Tryz.call76 rfl rfl rfl ?_
 conv => whnf
 refine LoopX.rule hT (C := []) (ι := Nat) (fun i => i ≤ l.length ∧ i ≤ m.length ∧ cmpSL l m = cmpSL (l.drop i) (m.drop i)) (fun i => mkSt [(0, .d (strs l)), (1, .d (strs m)), (9, .d (strs l)), (10, .d (.int .i64 l.length)), (11, .d (.int .i64 i))] []) (fun i => l.length - i) 0 ⟨by omega, by omega, by simp⟩ (by (refine Entails.mk' [] rfl rfl ?_ ?_ <;> repeat' (first | exact True.intro | exact lr | exact rr | exact SV.le_int (by omega) | exact SV.le_any _ | refine And.intro ?_ ?_)); done) ?_
 rintro i ⟨p1, p2, p3⟩
 have hd : i < l.length → l.drop i = l.getD i [] :: l.drop (i + 1) := fun hi => by rw [List.drop_eq_getElem_cons hi, List.getD_eq_getElem?_getD, List.getElem?_eq_getElem hi]; rfl
 have hd2 : i < m.length → m.drop i = m.getD i [] :: m.drop (i + 1) := fun hi => by rw [List.drop_eq_getElem_cons hi, List.getD_eq_getElem?_getD, List.getElem?_eq_getElem hi]; rfl
 have e1 : (i : Int).toNat = i := Int.toNat_natCast i
 conv => whnf
 repeat' (first | (refine CallX.exact (s184 _ _) rfl rfl ?_; rotate_right; conv => whnf) | (refine br_intro ?_ ?_ <;> intro hb <;> (try simp only [brs] at hb) <;> conv => whnf) | omega | (refine And.intro ?_ ?_; ((try dsimp only); first | omega | (refine szA rfl ?_; omega) | (refine szB rfl ?_; omega) | (unfold inI64; omega) | exact rfl | (simp only [lns] at *; omega) | decide | (unfold inI64; decide)); conv => whnf) | decide | assumption)
 · refine .ret _ ?_
   conv => whnf
   refine ⟨[], ⟨?_, rfl⟩, trivial⟩
   conv => lhs; whnf
   congr 2
   rw [p3, hd (by omega), List.drop_eq_nil_iff.2 (by omega : m.length ≤ i)]; rfl
 · refine .ret _ ?_
   conv => whnf
   refine ⟨[], ⟨?_, rfl⟩, trivial⟩
   conv => lhs; whnf
   congr 2
   rw [p3, hd (by omega), hd2 (by omega), cmpSL, if_pos (by simpa using hb)]; simp only [e1]
 · refine ⟨i + 1, ⟨by omega, by omega, ?_⟩, by omega, (by (refine Entails.mk' [] rfl rfl ?_ ?_ <;> repeat' (first | exact True.intro | exact lr | exact rr | exact SV.le_int (by omega) | exact SV.le_any _ | refine And.intro ?_ ?_)); done)⟩
   rw [p3, hd (by omega), hd2 (by omega), cmpSL, if_neg (by simpa using hb)]
 · refine .ret _ ?_
   conv => whnf
   refine ⟨[], ⟨?_, rfl⟩, trivial⟩
   conv => lhs; whnf
   congr 2
   have hm : i < m.length := by omega
   rw [p3, hd2 hm, List.drop_eq_nil_iff.2 (by omega : l.length ≤ i)]; rfl
 · refine .ret _ ?_
   conv => whnf
   refine ⟨[], ⟨?_, rfl⟩, trivial⟩
   conv => lhs; whnf
   congr 2
   rw [p3, List.drop_eq_nil_iff.2 (by omega : m.length ≤ i), List.drop_eq_nil_iff.2 (by omega : l.length ≤ i)]; rfl
theorem z108 (a b c d : List UInt8) : FSpec Tryz.prog 46 [.d (.str a), .d (.str b), .d (.str c), .d (.str d)] [] (fun x r => x = .d (.int .i64 (endsC a b c d)) ∧ r = []) := by
 have h := z204 [a, b] [c, d] (by simp) (by simp)
 rw [show cmpSL [a, b] [c, d] = endsC a b c d from by unfold endsC; simp only [cmpSL, firstE]; by_cases h1 : cmpS a c = 0 <;> by_cases h2 : cmpS b d = 0 <;> simp [h1, h2]] at h
 refine spec_of hT (C := []) Tryz.func46 rfl Tryz.call46 rfl rfl rfl ?_
 conv => whnf
 repeat' (first | (refine CallX.pure h ⟨SV.le_lit (by rfl) (by rfl), SV.le_lit (by rfl) (by rfl), trivial⟩ rfl ?_; conv => whnf) | (refine br_intro ?_ ?_ <;> intro hb <;> (try simp only [brs] at hb) <;> conv => whnf) | omega | (refine And.intro ?_ ?_; ((try dsimp only); first | omega | (refine szA rfl ?_; omega) | (refine szB rfl ?_; omega) | (unfold inI64; omega) | exact rfl | (simp only [lns] at *; omega) | decide | (unfold inI64; decide)); conv => whnf) | decide | assumption)
 refine .ret _ ?_
 conv => whnf
 refine ⟨[], ⟨?_, rfl⟩, trivial⟩
 conv => lhs; whnf
theorem z21 (l : List Roa) (hk : rdOk l) : FSpec Tryz.prog 11 [.d (roas l)] [] (fun x r => x = .d (.int .i64 (rdsE l)) ∧ r = []) := by
 refine spec_of hT (C := []) Tryz.func11 rfl Tryz.call11 rfl rfl rfl ?_
 conv => whnf
 refine br_intro (fun h0 => ?_) (fun h0 => ?_)
 · simp at h0
   conv => whnf
   refine .ret _ ?_
   conv => whnf
   refine ⟨[], ⟨?_, rfl⟩, trivial⟩
   conv => lhs; whnf
   unfold rdsE; rw [if_pos (by omega)]
 simp at h0
 conv => whnf
 refine LoopX.rule hT (C := []) (ι := Nat) (fun i => i ≤ l.length ∧ ∀ j, j < i → rdE l j = 0) (fun i => mkSt [(0, .d (roas l)), (8, .d (roas l)), (9, .d (.int .i64 l.length)), (10, .d (.int .i64 i))] []) (fun i => l.length - i) 0 ⟨by omega, by omega⟩ (by (refine Entails.mk' [] rfl rfl ?_ ?_ <;> repeat' (first | exact True.intro | exact lr | exact rr | exact SV.le_int (by omega) | exact SV.le_any _ | refine And.intro ?_ ?_)); done) ?_
 rintro i ⟨p1, p2⟩
 have hx : (i : Int) < l.length → rdK (l.getD (i : Int).toNat rd0) := fun hi => hk.2 _ (getD_mem (by omega))
 have e1 : (i : Int).toNat = i := Int.toNat_natCast i
 have hbad : ∀ e : Int, i < l.length → e ≠ 0 → rdE l i = e → rdsE l = e := fun e h h1 h2 => by
  unfold rdsE; rw [if_neg (by omega)]
  exact firstAt_eq h p2 h1 h2
 conv => whnf
 repeat' (first | (refine CallX.exact (s21 _ (hx (by omega)).1) rfl rfl ?_; rotate_right; conv => whnf) | (refine CallX.exact (s21 _ (hx (by omega)).2) rfl rfl ?_; rotate_right; conv => whnf) | (refine CallX.exact (z108 _ _ _ _) rfl rfl ?_; rotate_right; conv => whnf) | (refine CallX.exact (s109 _ _ _) rfl rfl ?_; rotate_right; conv => whnf) | (refine br_intro ?_ ?_ <;> intro hb <;> (try simp only [brs] at hb) <;> conv => whnf) | (refine RegX.rule (id := 10) hT rfl [] oVMvA11_10 (by decide +kernel) ?_; conv => whnf) | omega | (refine And.intro ?_ ?_; ((try dsimp only); first | omega | (refine szA rfl ?_; omega) | (refine szB rfl ?_; omega) | (unfold inI64; omega) | exact rfl | (simp only [lns] at *; omega) | decide | (unfold inI64; decide)); conv => whnf) | decide | assumption)
 all_goals first
  | (refine ⟨i + 1, ⟨by omega, first_step p2 (by clear p2 hbad hk hx; simp only [e1, toNat_pred] at *; unfold rdE ; grind)⟩, by omega, (by (refine Entails.mk' [] rfl rfl ?_ ?_ <;> repeat' (first | exact True.intro | exact lr | exact rr | exact SV.le_int (by omega) | exact SV.le_any _ | refine And.intro ?_ ?_)); done)⟩)
  | (refine .ret _ ?_
     conv => whnf
     refine ⟨[], ⟨?_, rfl⟩, trivial⟩
     conv => lhs; whnf
     congr 2
     first
      | exact (hbad _ (by omega) (by decide) (by clear p2 hbad hk hx; simp only [e1, toNat_pred] at *; unfold rdE ; grind)).symm
      | (have : i = l.length := by omega
         subst this
         unfold rdsE; rw [if_neg (by omega), firstAt_zero p2]))
theorem z20 (l : List Ned) (hk : ndOk l) : FSpec Tryz.prog 10 [.d (neds l)] [] (fun x r => x = .d (.int .i64 (ndsE l)) ∧ r = []) := by
 refine spec_of hT (C := []) Tryz.func10 rfl Tryz.call10 rfl rfl rfl ?_
 conv => whnf
 refine br_intro (fun h0 => ?_) (fun h0 => ?_)
 · simp at h0
   conv => whnf
   refine .ret _ ?_
   conv => whnf
   refine ⟨[], ⟨?_, rfl⟩, trivial⟩
   conv => lhs; whnf
   unfold ndsE; rw [if_pos (by omega)]
 simp at h0
 conv => whnf
 refine LoopX.rule hT (C := []) (ι := Nat) (fun i => i ≤ l.length ∧ ∀ j, j < i → ndE l j = 0) (fun i => mkSt [(3, .d (.str (if i = 0 then [] else (l.getD (i - 1) nd0).st))), (9, .d (neds l)), (10, .d (.int .i64 l.length)), (11, .d (.int .i64 i))] []) (fun i => l.length - i) 0 ⟨by omega, by omega⟩ (by (refine Entails.mk' [] rfl rfl ?_ ?_ <;> repeat' (first | exact True.intro | exact lr | exact rr | exact SV.le_int (by omega) | exact SV.le_any _ | refine And.intro ?_ ?_)); done) ?_
 rintro i ⟨p1, p2⟩
 have hx : (i : Int) < l.length → ndK (l.getD (i : Int).toNat nd0) := fun hi => hk.2 _ (getD_mem (by omega))
 have e1 : (i : Int).toNat = i := Int.toNat_natCast i
 have hbad : ∀ e : Int, i < l.length → e ≠ 0 → ndE l i = e → ndsE l = e := fun e h h1 h2 => by
  unfold ndsE; rw [if_neg (by omega)]
  exact firstAt_eq h p2 h1 h2
 conv => whnf
 repeat' (first | (refine CallX.exact (s21 _ (hx (by omega))) rfl rfl ?_; rotate_right; conv => whnf) | (refine CallX.exact (s109 _ _ _) rfl rfl ?_; rotate_right; conv => whnf) | (refine br_intro ?_ ?_ <;> intro hb <;> (try simp only [brs] at hb) <;> conv => whnf) | omega | (refine And.intro ?_ ?_; ((try dsimp only); first | omega | (refine szA rfl ?_; omega) | (refine szB rfl ?_; omega) | (unfold inI64; omega) | exact rfl | (simp only [lns] at *; omega) | decide | (unfold inI64; decide)); conv => whnf) | decide | assumption)
 all_goals first
  | (refine ⟨i + 1, ⟨by omega, first_step p2 (by clear p2 hbad hk hx; simp only [e1] at *; unfold ndE strLe; grind)⟩, by omega, Entails.mk' [] rfl rfl ⟨(by rw [show (if i + 1 = 0 then ([] : List UInt8) else (l.getD (i + 1 - 1) nd0).st) = (l.getD (i : Int).toNat nd0).st from by rw [if_neg (by omega), e1, Nat.add_sub_cancel]]; exact lr), lr, lr, lr, trivial⟩ trivial⟩)
  | (refine .ret _ ?_
     conv => whnf
     refine ⟨[], ⟨?_, rfl⟩, trivial⟩
     conv => lhs; whnf
     congr 2
     first
      | exact (hbad _ (by omega) (by decide) (by clear p2 hbad hk hx; simp only [e1] at *; unfold ndE strLe; grind [isKey_nil, less_nil])).symm
      | (have : i = l.length := by omega
         subst this
         unfold ndsE; rw [if_neg (by omega), firstAt_zero p2]))
def nedX (l : List Ned) (s : List UInt8) : Int := ixF (fun i => (l.getD i nd0).st == s) l.length
def manyN (l : List Ned) (s : List UInt8) : Int := if 0 ≤ nedX l s then (l.getD (nedX l s).toNat nd0).many else 0
theorem nds_all {l : List Ned} (h : ndsE l = 0) : l.length ≤ 10 ∧ ∀ i, i < l.length → ndE l i = 0 := by
 unfold ndsE at h
 split at h
 · cases h
 · exact ⟨by omega, firstAt_all h⟩
theorem nds_inc {l : List Ned} (h : ndsE l = 0) : ∀ {j i : Nat}, i < j → j < l.length → Op.bytesLess (l.getD i nd0).st (l.getD j nd0).st = true := by
 obtain ⟨_, h2⟩ := nds_all h
 have step : ∀ j, j + 1 < l.length → Op.bytesLess (l.getD j nd0).st (l.getD (j + 1) nd0).st = true := fun j hj => by
  have := h2 (j + 1) hj
  unfold ndE at this
  simp only [Nat.add_sub_cancel] at this
  have h3 : ¬ strLe (l.getD (j + 1) nd0).st (l.getD j nd0).st = true := by grind
  by_cases q : Op.bytesLess (l.getD j nd0).st (l.getD (j + 1) nd0).st = true
  · exact q
  · exfalso
    apply h3
    unfold strLe
    have q2 : Op.bytesLess (l.getD j nd0).st (l.getD (j + 1) nd0).st = false := by simpa using q
    by_cases e : (l.getD (j + 1) nd0).st = (l.getD j nd0).st
    · rw [e]; simp
    · rw [less_tri _ _ q2 (fun h => e h.symm)]; rfl
 intro j
 induction j with
 | zero => intro i h; omega
 | succ j ih =>
   intro i hi hj
   by_cases q : i = j
   · subst q; exact step i hj
   · exact less_trans (ih (by omega) (by omega)) (step j hj)
theorem ned_inj {l : List Ned} (h : ndsE l = 0) {i j : Nat} (hi : i < l.length) (hj : j < l.length) (he : (l.getD i nd0).st = (l.getD j nd0).st) : i = j := by
 rcases Nat.lt_trichotomy i j with q | q | q
 · have := nds_inc h q hj; rw [he, less_irr] at this; cases this
 · exact q
 · have := nds_inc h q hi; rw [he, less_irr] at this; cases this
theorem manyN_eq {l : List Ned} (h : ndsE l = 0) {i : Nat} (hi : i < l.length) : manyN l (l.getD i nd0).st = (l.getD i nd0).many := by
 have hb := ixF_bd (p := fun j => (l.getD j nd0).st == (l.getD i nd0).st) (n := l.length)
 have h0 : 0 ≤ nedX l (l.getD i nd0).st := ixF_pos (p := fun j => (l.getD j nd0).st == (l.getD i nd0).st) hi (by simp)
 have h1 := hb.2.2 h0
 have h2 : (l.getD (nedX l (l.getD i nd0).st).toNat nd0).st = (l.getD i nd0).st := eq_of_beq h1
 have hlt : nedX l (l.getD i nd0).st < l.length := hb.2.1
 have := ned_inj h (by omega) hi h2
 unfold manyN
 rw [if_pos h0, this]
theorem ned_bd {l : List Ned} (h : ndsE l = 0) {i : Nat} (hi : i < l.length) : -20 ≤ (l.getD i nd0).many ∧ (l.getD i nd0).many ≤ 20 := by
 have := (nds_all h).2 i hi
 unfold ndE at this
 simp only at this
 grind
def onPlan (n : List Ned) (r : List Roa) (l : List Mov) (i : Nat) : Int :=
 let x := l.getD i mv0
 if manyN n x.a ≤ 0 ∨ 0 ≤ manyN n x.b then 16 else if (roadO r x.a x.b).isSome = false then 8 else 0
def mvdN (l : List Mov) (s : List UInt8) : Nat → Int
 | 0 => 0
 | k + 1 => mvdN l s k + (if (l.getD k mv0).a = s then (l.getD k mv0).many else 0) - (if (l.getD k mv0).b = s then (l.getD k mv0).many else 0)
def awayN (l : List Mov) (s : List UInt8) : Nat → Int
 | 0 => 0
 | k + 1 => awayN l s k + (if (l.getD k mv0).a = s then (l.getD k mv0).many else 0)
def hereN (l : List Mov) (s : List UInt8) : Nat → Int
 | 0 => 0
 | k + 1 => hereN l s k + (if (l.getD k mv0).b = s then (l.getD k mv0).many else 0)
theorem mvdN_eq (l : List Mov) (s : List UInt8) : ∀ k, mvdN l s k = awayN l s k - hereN l s k := by
 intro k
 induction k with
 | zero => rfl
 | succ k ih => rw [mvdN, awayN, hereN, ih]; omega
theorem awayN_bd {l : List Mov} (h : mvsE l = 0) (s : List UInt8) : ∀ k, k ≤ l.length → 0 ≤ awayN l s k ∧ awayN l s k ≤ 20 * k := by
 intro k
 induction k with
 | zero => intro _; simp [awayN]
 | succ k ih =>
   intro hk
   have := ih (by omega)
   have := mov_bd h (i := k) (by omega)
   rw [awayN]; split <;> omega
theorem hereN_bd {l : List Mov} (h : mvsE l = 0) (s : List UInt8) : ∀ k, k ≤ l.length → 0 ≤ hereN l s k ∧ hereN l s k ≤ 20 * k := by
 intro k
 induction k with
 | zero => intro _; simp [hereN]
 | succ k ih =>
   intro hk
   have := ih (by omega)
   have := mov_bd h (i := k) (by omega)
   rw [hereN]; split <;> omega
def sumE (n : List Ned) (l : List Mov) (i : Nat) : Int :=
 let x := n.getD i nd0
 if (0 < x.many ∧ x.many < mvdN l x.st l.length) ∨ (x.many < 0 ∧ mvdN l x.st l.length ≠ x.many) then 15 else 0
def planE (n : List Ned) (r : List Roa) (l : List Mov) : Int := if firstAt (onPlan n r l) l.length ≠ 0 then firstAt (onPlan n r l) l.length else firstAt (sumE n l) n.length
def costN (r : List Roa) (l : List Mov) : Nat → Int
 | 0 => 0
 | k + 1 => costN r l k + (l.getD k mv0).many * ((roadO r (l.getD k mv0).a (l.getD k mv0).b).getD rd0).car
def oVPfP59_1 : List (Nat × List Nat) := [(0, []), (1, []), (2, []), (3, [0, 1, 2]), (4, [0, 1, 2]), (5, [0, 1, 2]), (6, []), (7, []), (8, [])]
def oVPfP59_6 : List (Nat × List Nat) := [(0, []), (1, []), (2, []), (3, []), (4, [0, 1, 2, 3]), (5, [0, 1, 2, 3, 4]), (6, [0, 1, 2, 3, 4]), (7, [0, 1, 2, 3, 4]), (8, [0, 1, 2, 3, 4]), (9, [0, 1, 2, 3, 4, 5, 6, 7, 8]), (10, [0, 1, 2, 3, 4, 5, 6, 7, 8, 9]), (11, [0, 1, 2, 3, 4, 5, 6, 7, 8, 9]), (12, [0, 1, 2, 3, 4, 5, 6, 7, 8, 9]), (13, [0, 1, 2, 3, 4, 5, 6, 7, 8, 9, 10, 11, 12]), (14, [0, 1, 2, 3, 4, 5, 6, 7, 8, 9, 10, 11, 12]), (15, [0, 1, 2, 3, 4, 5, 6, 7, 8, 9, 10, 11, 12]), (16, [0, 1, 2, 3, 4, 5, 6, 7, 8, 9, 10, 11, 12]), (17, [9, 13, 14, 15, 16]), (18, [9, 13, 14, 15, 16]), (19, []), (20, [])]
def oVPfP59_12 : List (Nat × List Nat) := [(0, []), (1, [0]), (2, [0]), (3, [0]), (4, [0]), (5, [0, 1, 2, 3, 4]), (6, [0, 1, 2, 3, 4, 5]), (7, [0, 1, 2, 3, 4, 5, 6]), (8, [0, 1, 2, 3, 4, 5, 6]), (9, [0, 1, 2, 3, 4]), (10, [0, 1, 2, 3, 4]), (11, [0]), (12, []), (13, []), (14, [])]
def havF (n : List Ned) (i : Nat) : Int := max (manyP n i) 0
def wntF (n : List Ned) (i : Nat) : Int := max (0 - manyP n i) 0
def havL (n : List Ned) : List Int := fillA 0 (havF n) n.length n.length
def wntL (n : List Ned) : List Int := fillA 0 (wntF n) n.length n.length
def arcO (x : Ar3) : Arc := ⟨x.fr, x.to, x.car, 0⟩
def arcs (n : List Ned) (r : List Roa) : List Arc := (arL n r).map arcO
def arCell (n : List Ned) (r : List Roa) (i k : Nat) : Option Ar3 := if 0 < manyP n i ∧ manyP n k < 0 then (wayO n r i k).map fun c => ⟨i, k, c⟩ else none
def arPre (n : List Ned) (r : List Roa) (i k : Nat) : List Ar3 := (List.range i).flatMap (arRow n r) ++ (List.range k).filterMap (arCell n r i)
theorem arPre_next (n : List Ned) (r : List Roa) (i : Nat) : arPre n r i n.length = arPre n r (i + 1) 0 := by
 unfold arPre
 rw [List.range_succ, List.flatMap_append]
 simp only [List.flatMap_cons, List.flatMap_nil, List.append_nil, List.range_zero, List.filterMap_nil]
 first | done | rfl
theorem arPre_succ (n : List Ned) (r : List Roa) (i k : Nat) : arPre n r i (k + 1) = arPre n r i k ++ (arCell n r i k).toList := by
 unfold arPre
 rw [List.range_succ, List.filterMap_append, ← List.append_assoc]
 congr 1
theorem arPre_all (n : List Ned) (r : List Roa) : arPre n r n.length 0 = arL n r := by
 unfold arPre arL; simp
theorem arPre_len (n : List Ned) (r : List Roa) : ∀ i k, (arPre n r i k).length ≤ n.length * i + k
 | 0, k => by
   unfold arPre
   have := List.length_filterMap_le (arCell n r 0) (List.range k)
   rw [List.length_range] at this
   simpa using this
 | i + 1, k => by
   have h1 := arPre_len n r i n.length
   have h2 : (arPre n r (i + 1) k).length = (arPre n r (i + 1) 0).length + ((List.range k).filterMap (arCell n r (i + 1))).length := by
    unfold arPre; simp
   have h3 := List.length_filterMap_le (arCell n r (i + 1)) (List.range k)
   rw [List.length_range] at h3
   rw [arPre_next] at h1
   have h4 : n.length * (i + 1) = n.length * i + n.length := Nat.mul_succ _ _
   omega
theorem ned_many {n : List Ned} (h : ndsE n = 0) (i : Nat) : -20 ≤ manyP n i ∧ manyP n i ≤ 20 := by
 unfold manyP
 rcases Nat.lt_or_ge i n.length with q | q
 · exact ned_bd h q
 · rw [List.getD_eq_getElem?_getD, List.getElem?_eq_none q]; simp [nd0]
set_option maxHeartbeats 8000000 in
theorem p59 (n : List Ned) (r : List Roa) (hn : ndsE n = 0) (hr : rdsE r = 0) : FSpec Tryz.prog 59 [.d (neds n), .d (roas r)] []
 (fun y q => y = .ptr 20 0 ∧ q = [(20, .cells 106 [.buf 15, .buf 18, .buf 500]), (15, froI (havL n)), (18, froI (wntL n)), (500, arcB (arcs n r))]) := by
 have hl := (nds_all hn).1
 have hrl := (rds_all hr).1
 have hmn := ned_many hn
 refine spec_of hT (C := []) Tryz.func59 rfl Tryz.call59 rfl rfl rfl ?_
 conv => whnf
 refine RegX.rule hT rfl [] oVPfP59_1 (by decide +kernel) ?_
 conv => whnf
 repeat' (first | (refine CallX.of (z117 r hr) [(3, 22)] rfl ⟨lr, trivial⟩ trivial rfl rfl ?_; rintro x rout ⟨rfl, rfl⟩; refine ⟨rfl, ?_⟩; conv => whnf) | (refine br_intro ?_ ?_ <;> intro hb <;> (try simp only [brs] at hb) <;> conv => whnf) | (refine RegX.rule (id := 1) hT rfl [] oVPfP59_1 (by decide +kernel) ?_; conv => whnf) | (refine RegX.rule (id := 6) hT rfl [] oVPfP59_6 (by decide +kernel) ?_; conv => whnf) | (refine RegX.rule (id := 12) hT rfl [] oVPfP59_12 (by decide +kernel) ?_; conv => whnf) | omega | (refine And.intro ?_ ?_; ((try dsimp only); first | omega | (refine szA rfl ?_; omega) | (refine szB rfl ?_; omega) | (unfold inI64; omega) | exact rfl | (simp only [lns] at *; omega) | decide | (unfold inI64; decide)); conv => whnf) | decide | assumption)
 refine LoopX.rule hT (C := []) (ι := Nat) (fun i => i ≤ n.length) (fun i => mkSt [(0, .d (neds n)), (5, .ptr 20 0), (6, .mp 22), (23, .d (neds n)), (24, .d (.int .i64 n.length)), (25, .d (.int .i64 i))] [(20, .cells 106 [.buf 15, .buf 18, .buf 500]), (15, seqB 3 1 iF 0 (fillA 0 (havF n) n.length i)), (18, seqB 3 1 iF 0 (fillA 0 (wntF n) n.length i)), (500, arcB ((arPre n r i 0).map arcO)), (22, netG r)]) (fun i => n.length - i) 0 (by show 0 ≤ _; omega) ?_ ?_
 · refine (Entails.nilCell 20 500 108 4 2 (rowF arF ar0 []) rfl rfl rfl (by decide) rfl).trans ?_
   exact (Entails.mk' [(20, 20), (15, 15), (18, 18), (500, 500), (22, 22)] rfl rfl ⟨lr, lr, lr, lr, lr, lr, trivial⟩ ⟨rr, Res.le_zrow (fun _ => rfl), Res.le_zrow (fun _ => rfl), rr, rr, trivial⟩)
 rintro i hi
 have hi : i ≤ n.length := hi
 have hf1 : (fillA 0 (havF n) n.length i).length = n.length := fillA_length
 have hf2 : (fillA 0 (wntF n) n.length i).length = n.length := fillA_length
 have e1 : (i : Int).toNat = i := Int.toNat_natCast i
 rcases Nat.lt_or_ge i n.length with hin | hin
 · have hmi := hmn i
   unfold manyP at hmi
   rw [← e1] at hmi
   conv => whnf
   repeat' (first | (refine br_intro ?_ ?_ <;> intro hb <;> (try simp only [brs] at hb) <;> conv => whnf) | (refine RegX.rule (id := 1) hT rfl [] oVPfP59_1 (by decide +kernel) ?_; conv => whnf) | (refine RegX.rule (id := 6) hT rfl [] oVPfP59_6 (by decide +kernel) ?_; conv => whnf) | (refine RegX.rule (id := 12) hT rfl [] oVPfP59_12 (by decide +kernel) ?_; conv => whnf) | omega | (refine And.intro ?_ ?_; ((try dsimp only); first | omega | (refine szA rfl ?_; omega) | (refine szB rfl ?_; omega) | (unfold inI64; omega) | exact rfl | (simp only [lns] at *; omega) | decide | (unfold inI64; decide)); conv => whnf) | decide | assumption)
   all_goals try (exfalso; omega)
   refine LoopX.rule hT (C := []) (ι := Nat) (fun k => k ≤ n.length) (fun k => mkSt [(0, .d (neds n)), (5, .ptr 20 0), (6, .mp 22), (7, .d (.int .i64 i)), (8, .ptr 8 0), (23, .d (neds n)), (24, .d (.int .i64 n.length)), (25, .d (.int .i64 i)), (49, .d (neds n)), (50, .d (.int .i64 n.length)), (51, .d (.int .i64 k))] [(20, .cells 106 [.buf 15, .buf 18, .buf 500]), (15, seqB 3 1 iF 0 (fillA 0 (havF n) n.length (i + 1))), (18, seqB 3 1 iF 0 (fillA 0 (wntF n) n.length (i + 1))), (500, arcB ((arPre n r i k).map arcO)), (22, netG r), (8, .cells 58 ((ndF (n.getD (i : Int).toNat nd0)).map .d))]) (fun k => n.length - k) 0 (by show 0 ≤ _; omega) ?_ ?_
   · refine Entails.mk' [(20, 20), (15, 15), (18, 18), (500, 500), (22, 22), (8, 8)] rfl rfl ⟨lr, lr, lr, lr, lr, lr, lr, lr, lr, lr, lr, trivial⟩ ⟨rr, ?_, ?_, rr, rr, rr, trivial⟩
     · rw [← fillA_set' (x := havF n i) rfl, ← e1]
       exact Res.le_upd (fun _ => _) (fun y => rfl)
     · rw [← fillA_set' (x := wntF n i) rfl, ← e1]
       exact Res.le_upd (fun _ => _) (fun y => rfl)
   rintro k hk
   have hk : k ≤ n.length := hk
   have e2 : (k : Int).toNat = k := Int.toNat_natCast k
   have hpl := arPre_len n r i k
   have hpl2 : n.length * i ≤ 10 * 10 := Nat.mul_le_mul hl (by omega)
   have hnl : ((arPre n r i k).map arcO).length = (arPre n r i k).length := List.length_map _
   rcases Nat.lt_or_ge k n.length with hkn | hkn
   · conv => whnf
     repeat' (first | (refine And.intro (rfl : zrow _ = some [.str [], .str [], .int .i64 0, .int .i64 0]) ?_; conv => whnf) | (refine br_intro ?_ ?_ <;> intro hb <;> (try simp only [brs] at hb) <;> conv => whnf) | (refine RegX.rule (id := 1) hT rfl [] oVPfP59_1 (by decide +kernel) ?_; conv => whnf) | (refine RegX.rule (id := 6) hT rfl [] oVPfP59_6 (by decide +kernel) ?_; conv => whnf) | (refine RegX.rule (id := 12) hT rfl [] oVPfP59_12 (by decide +kernel) ?_; conv => whnf) | omega | (refine And.intro ?_ ?_; ((try dsimp only); first | omega | (refine szA rfl ?_; omega) | (refine szB rfl ?_; omega) | (unfold inI64; omega) | exact rfl | (simp only [lns] at *; omega) | decide | (unfold inI64; decide)); conv => whnf) | decide | assumption)
     all_goals try (exfalso; omega)
     · have hc : arCell n r i k = some ⟨i, k, ((roadO r (n.getD i nd0).st (n.getD k nd0).st).getD rd0).car⟩ := by
        unfold arCell wayO
        rw [if_pos ⟨by assumption, hb⟩]
        cases hro : roadO r (n.getD i nd0).st (n.getD k nd0).st with
        | none =>
          rename_i hx _
          have hx : (roadO r (n.getD i nd0).st (n.getD k nd0).st).isSome = true := hx
          rw [hro] at hx; cases hx
        | some x => rfl
       refine ⟨k + 1, by omega, by omega, ?_⟩
       rw [arPre_succ, hc, List.map_append]
       exact Entails.mk' [(20, 20), (15, 15), (18, 18), (500, 88), (22, 22), (8, 8)] rfl rfl ⟨lr, lr, lr, lr, lr, lr, lr, lr, lr, lr, lr, trivial⟩ ⟨rr, rr, rr, Res.le_snocF rfl, rr, rr, trivial⟩
     all_goals
      have hc : arCell n r i k = none := by
       unfold arCell wayO
       first
        | (rw [if_neg]; show ¬ (0 < (n.getD i nd0).many ∧ (n.getD k nd0).many < 0); omega)
        | (have hx : (roadO r (n.getD i nd0).st (n.getD k nd0).st).isSome = false := hb
           cases hro : roadO r (n.getD i nd0).st (n.getD k nd0).st with
           | none => simp
           | some x => rw [hro] at hx; cases hx)
      refine ⟨k + 1, by omega, by omega, ?_⟩
      rw [arPre_succ, hc, Option.toList_none, List.append_nil]
      exact Entails.mk' [(20, 20), (15, 15), (18, 18), (500, 500), (22, 22), (8, 8)] rfl rfl ⟨lr, lr, lr, lr, lr, lr, lr, lr, lr, lr, lr, trivial⟩ ⟨rr, rr, rr, rr, rr, rr, trivial⟩
   · have hkn : k = n.length := by omega
     rw [hkn]
     conv => whnf
     repeat' (first | (refine br_intro ?_ ?_ <;> intro hb <;> (try simp only [brs] at hb) <;> conv => whnf) | (refine RegX.rule (id := 1) hT rfl [] oVPfP59_1 (by decide +kernel) ?_; conv => whnf) | (refine RegX.rule (id := 6) hT rfl [] oVPfP59_6 (by decide +kernel) ?_; conv => whnf) | (refine RegX.rule (id := 12) hT rfl [] oVPfP59_12 (by decide +kernel) ?_; conv => whnf) | omega | (refine And.intro ?_ ?_; ((try dsimp only); first | omega | (refine szA rfl ?_; omega) | (refine szB rfl ?_; omega) | (unfold inI64; omega) | exact rfl | (simp only [lns] at *; omega) | decide | (unfold inI64; decide)); conv => whnf) | decide | assumption)
     all_goals try (exfalso; omega)
     refine ⟨i + 1, by show i + 1 ≤ n.length; omega, by show n.length - (i + 1) < n.length - i; omega, ?_⟩
     rw [← arPre_next]
     exact Entails.mk' [(20, 20), (15, 15), (18, 18), (500, 500), (22, 22)] rfl rfl ⟨lr, lr, lr, lr, lr, lr, trivial⟩ ⟨rr, rr, rr, rr, rr, trivial⟩
 · have hin : i = n.length := by omega
   rw [hin]
   conv => whnf
   repeat' (first | (refine br_intro ?_ ?_ <;> intro hb <;> (try simp only [brs] at hb) <;> conv => whnf) | (refine RegX.rule (id := 1) hT rfl [] oVPfP59_1 (by decide +kernel) ?_; conv => whnf) | (refine RegX.rule (id := 6) hT rfl [] oVPfP59_6 (by decide +kernel) ?_; conv => whnf) | (refine RegX.rule (id := 12) hT rfl [] oVPfP59_12 (by decide +kernel) ?_; conv => whnf) | omega | (refine And.intro ?_ ?_; ((try dsimp only); first | omega | (refine szA rfl ?_; omega) | (refine szB rfl ?_; omega) | (unfold inI64; omega) | exact rfl | (simp only [lns] at *; omega) | decide | (unfold inI64; decide)); conv => whnf) | decide | assumption)
   all_goals try (exfalso; omega)
   refine .freeze _ 15 3 1 _ _ rfl (.freeze _ 18 3 1 _ _ rfl (.ret _ ?_))
   conv => whnf
   rw [arPre_all]
   exact ⟨_, ⟨rfl, rfl⟩, rr, rr, rr, rr, trivial⟩
def vapp : List Int → (Nat → Int) → Nat → Int
 | [], y => y
 | u :: us, y => vcons u (vapp us y)
theorem vapp_snoc (u : Int) (y : Nat → Int) : ∀ us, vapp (us ++ [u]) y = vapp us (vcons u y)
 | [] => rfl
 | x :: us => by
   show vcons x (vapp (us ++ [u]) y) = vcons x (vapp us (vcons u y))
   rw [vapp_snoc u y us]
def lsU {μ : Type} (m : Nat → Int → μ) : Nat → List Int → List μ
 | _, [] => []
 | a, u :: us => (if 0 < u then [m a u] else []) ++ lsU m (a + 1) us
theorem lsU_snoc {μ : Type} (m : Nat → Int → μ) (u : Int) : ∀ (us : List Int) (a : Nat), lsU m a (us ++ [u]) = lsU m a us ++ (if 0 < u then [m (a + us.length) u] else [])
 | [], a => by simp [lsU]
 | x :: us, a => by
   show (if 0 < x then [m a x] else []) ++ lsU m (a + 1) (us ++ [u]) = (if 0 < x then [m a x] else []) ++ lsU m (a + 1) us ++ _
   rw [lsU_snoc m u us (a + 1), List.append_assoc, List.length_cons]
   have : a + 1 + us.length = a + (us.length + 1) := by omega
   rw [this]
theorem lsV_vapp {μ : Type} (m : Nat → Int → μ) (y : Nat → Int) : ∀ (us : List Int) (a : Nat), lsV m us.length a (vapp us y) = lsU m a us
 | [], _ => rfl
 | u :: us, a => by
   show (if 0 < u then [m a u] else []) ++ lsV m us.length (a + 1) (vtl (vcons u (vapp us y))) = _
   rw [vtl_cons, lsV_vapp m y us (a + 1)]; rfl
theorem lsU_len {μ : Type} (m : Nat → Int → μ) : ∀ (us : List Int) (a : Nat), (lsU m a us).length ≤ us.length
 | [], _ => Nat.le_refl _
 | u :: us, a => by
   have := lsU_len m us (a + 1)
   rw [lsU, List.length_append, List.length_cons]
   split <;> simp <;> omega
theorem arcs_get (n : List Ned) (r : List Roa) (k : Nat) : (arcs n r).getD k ar0 = arcO ((arL n r).getD k a30) := by
 unfold arcs
 rw [List.getD_eq_getElem?_getD, List.getD_eq_getElem?_getD, List.getElem?_map]
 cases (arL n r)[k]? <;> rfl
theorem nwA_arcs (n : List Ned) (r : List Roa) : nwA n.length (arcs n r) = nwG n r := by
 unfold nwA nwG
 have h1 : (arcs n r).length = (arL n r).length := List.length_map _
 rw [h1, funext fun k => congrArg (fun x => Int.toNat (Arc.fr x)) (arcs_get n r k), funext fun k => congrArg (fun x => Int.toNat (Arc.to x)) (arcs_get n r k), funext fun k => congrArg Arc.car (arcs_get n r k)]
 rfl
theorem arL_len {n : List Ned} (h : ndsE n = 0) (r : List Roa) : (arL n r).length ≤ 100 := by
 have h1 := arPre_len n r n.length 0
 rw [arPre_all] at h1
 have h2 := (nds_all h).1
 have h3 : n.length * n.length ≤ 10 * 10 := Nat.mul_le_mul h2 h2
 omega
theorem arcs_ok {n : List Ned} {r : List Roa} (hn : ndsE n = 0) (hr : rdsE r = 0) : ArOk n.length (arcs n r) := by
 have hlen : (arcs n r).length = (arL n r).length := List.length_map _
 have hk := nwG_ok (n := n) hr
 refine ⟨by have := arL_len hn r; omega, fun k h => ?_, fun k h => ?_, fun k h => ?_⟩
 · have := (arL_mem (nwG_at (k := k) (by show k < (arL n r).length; omega))).1.1
   rw [arcs_get]; show 0 ≤ ((((arL n r).getD k a30).fr : Nat) : Int) ∧ ((((arL n r).getD k a30).fr : Nat) : Int) < (n.length : Int); omega
 · have := (arL_mem (nwG_at (k := k) (by show k < (arL n r).length; omega))).2.1.1
   rw [arcs_get]; show 0 ≤ ((((arL n r).getD k a30).to : Nat) : Int) ∧ ((((arL n r).getD k a30).to : Nat) : Int) < (n.length : Int); omega
 · have h1 := hk.1.c0 k (by show k < (arL n r).length; omega)
   have h2 := hk.2 k (by show k < (arL n r).length; omega)
   rw [arcs_get]; exact ⟨h1, h2⟩
theorem ArOk.drop {N : Nat} {A : List Arc} (h : ArOk N A) (a : Nat) : ArOk N (A.drop a) := by
 have e : ∀ k, (A.drop a).getD k ar0 = A.getD (a + k) ar0 := fun k => by rw [List.getD_eq_getElem?_getD, List.getD_eq_getElem?_getD, List.getElem?_drop]
 have hl : (A.drop a).length = A.length - a := List.length_drop
 exact ⟨by have := h.len; omega, fun k hk => by rw [e]; exact h.fr _ (by omega), fun k hk => by rw [e]; exact h.to _ (by omega), fun k hk => by rw [e]; exact h.car _ (by omega)⟩
theorem nwA_drop (N : Nat) (A : List Arc) (a : Nat) : nwA N (A.drop a) = (nwA N A).sh a := by
 unfold nwA Nw.sh
 have e : ∀ k, (A.drop a).getD k ar0 = A.getD (a + k) ar0 := fun k => by rw [List.getD_eq_getElem?_getD, List.getD_eq_getElem?_getD, List.getElem?_drop]
 rw [List.length_drop, funext fun k => congrArg (fun x => Int.toNat (Arc.fr x)) (e k), funext fun k => congrArg (fun x => Int.toNat (Arc.to x)) (e k), funext fun k => congrArg Arc.car (e k)]
theorem Sm.drop {A B : List Arc} (h : Sm A B) (a : Nat) : Sm (A.drop a) (B.drop a) := by
 refine ⟨by rw [List.length_drop, List.length_drop, h.len], fun k => ?_⟩
 rw [List.getD_eq_getElem?_getD, List.getD_eq_getElem?_getD, List.getElem?_drop, List.getElem?_drop, ← List.getD_eq_getElem?_getD, ← List.getD_eq_getElem?_getD]
 exact h.fld _
theorem Sm.trans {A B C : List Arc} (h : Sm A B) (k : Sm B C) : Sm A C := ⟨k.len.trans h.len, fun i => ⟨(k.fld i).1.trans (h.fld i).1, (k.fld i).2.1.trans (h.fld i).2.1, (k.fld i).2.2.trans (h.fld i).2.2⟩⟩
theorem getI_lesI {h : List Int} {i : Nat} {m : Int} (hi : i < h.length) : getI (lesI h i m) = les (getI h) i m := getI_set hi
theorem getI_hav {n : List Ned} {v : Nat} (hv : v < n.length) : getI (havL n) v = havF n v := fillA_get hv
theorem getI_wnt {n : List Ned} {v : Nat} (hv : v < n.length) : getI (wntL n) v = wntF n v := fillA_get hv
theorem sol_opt {G : Nw} {B : Nat → Bool} {h w f : Nat → Int} {y : SV} (hG : G.Ok) (hb : G.Bip B) (hh : ∀ v, v < G.N → B v = false → h v = 0) (hw : ∀ v, v < G.N → B v = true → w v = 0) (hs : SolR G h w f y) :
 (∃ c, G.IsOpt B h w c ∧ (0 ≤ c ∧ c ≤ 1000000000000000) ∧ y = .tup [.d (.int .i64 c), .d (.bool true)]) ∨ ((∀ g, ¬ G.Fl B h w g) ∧ ∃ n, y = .tup [.d (.int .i64 n), .d (.bool false)]) := by
 rcases hs with ⟨left, p, h1, h2, h3, rfl⟩ | ⟨h1, n, rfl⟩
 · left
   obtain ⟨o1, o2⟩ := Nw.opt hG h1 h2 (fun _ _ => rfl)
   exact ⟨G.cost f, ⟨⟨f, (hb.fl hh hw f).1 o1, rfl⟩, fun g hg => o2 g ((hb.fl hh hw g).2 hg)⟩, h3, rfl⟩
 · exact .inr ⟨fun g hg => h1 g ((hb.fl hh hw g).2 hg), n, rfl⟩
structure PlnI (n : List Ned) (r : List Roa) (a : Nat) (us hl wl : List Int) (C : List Arc) (c : Int) : Prop where
 len : us.length = a
 aK : a ≤ (arcs n r).length
 sm : Sm ((arcs n r).drop a) C
 l1 : hl.length = n.length
 l2 : wl.length = n.length
 hb : ∀ v, v < n.length → 0 ≤ getI hl v ∧ getI hl v ≤ 20
 wb : ∀ v, v < n.length → 0 ≤ getI wl v ∧ getI wl v ≤ 20
 hz : ∀ v, v < n.length → kindB n v = false → getI hl v = 0
 wz : ∀ v, v < n.length → kindB n v = true → getI wl v = 0
 opt : ((nwG n r).sh a).IsOpt (kindB n) (getI hl) (getI wl) c
 cb : 0 ≤ c ∧ c ≤ 1000000000000000
 best : ∀ y, ((nwG n r).sh a).Best (kindB n) (getI hl) (getI wl) c y → ∃ c0, (nwG n r).Best (kindB n) (getI (havL n)) (getI (wntL n)) c0 (vapp us y)
theorem kindB_get {n : List Ned} {v : Nat} : (kindB n v = false → manyP n v < 0) ∧ (kindB n v = true → 0 ≤ manyP n v) := by
 unfold kindB
 constructor
 · intro h; simpa using h
 · intro h; simpa using h
theorem havF_bd {n : List Ned} (hn : ndsE n = 0) (v : Nat) : (0 ≤ havF n v ∧ havF n v ≤ 20) ∧ 0 ≤ wntF n v ∧ wntF n v ≤ 20 := by
 have := ned_many hn v
 unfold havF wntF; omega
theorem plnI_init {n : List Ned} {r : List Roa} {C : List Arc} {c : Int} (hn : ndsE n = 0) (hs : Sm (arcs n r) C) (ho : (nwG n r).IsOpt (kindB n) (getI (havL n)) (getI (wntL n)) c) (hc : 0 ≤ c ∧ c ≤ 1000000000000000) : PlnI n r 0 [] (havL n) (wntL n) C c := by
 refine ⟨rfl, Nat.zero_le _, hs, fillA_length, fillA_length, fun v hv => ?_, fun v hv => ?_, fun v hv hk => ?_, fun v hv hk => ?_, by rw [Nw.sh_zero]; exact ho, hc, fun y hy => ⟨c, by rw [Nw.sh_zero] at hy; exact hy⟩⟩
 · rw [getI_hav hv]; exact (havF_bd hn v).1
 · rw [getI_wnt hv]; exact (havF_bd hn v).2
 · rw [getI_hav hv]; have := kindB_get.1 hk; unfold havF; omega
 · rw [getI_wnt hv]; have := kindB_get.2 hk; unfold wntF; omega
theorem isOpt_nn {G : Nw} (hG : G.Ok) {B : Nat → Bool} {h w : Nat → Int} {c : Int} (ho : G.IsOpt B h w c) : 0 ≤ c := by
 obtain ⟨g, hg, e⟩ := ho.1
 rw [← e]
 exact su_nn fun k hk => Int.mul_nonneg (hg.g0 k hk) (hG.c0 k hk)
def NoM (n : List Ned) (r : List Roa) (a : Nat) (hl wl : List Int) (c m : Int) : Prop := ¬ ∃ g, ((nwG n r).sh (a + 1)).Fl (kindB n) (les (getI hl) ((nwG n r).fr a) m) (les (getI wl) ((nwG n r).to a) m) g ∧ ((nwG n r).sh (a + 1)).cost g + m * (nwG n r).c a = c
theorem PlnI.first {n : List Ned} {r : List Roa} {a : Nat} {us hl wl : List Int} {C : List Arc} {c : Int} (h : PlnI n r a us hl wl C c) (ha : a < (arcs n r).length) (hn : ndsE n = 0) (hr : rdsE r = 0) :
 (C.getD 0 ar0).fr = ((nwG n r).fr a : Nat) ∧ (C.getD 0 ar0).to = ((nwG n r).to a : Nat) ∧ (C.getD 0 ar0).car = (nwG n r).c a ∧ (nwG n r).fr a < n.length ∧ (nwG n r).to a < n.length ∧ 0 ≤ (nwG n r).c a ∧ (nwG n r).c a ≤ 1000000 := by
 have h1 := h.sm.fld 0
 rw [List.getD_eq_getElem?_getD (l := (arcs n r).drop a), List.getElem?_drop, ← List.getD_eq_getElem?_getD, Nat.add_zero, arcs_get] at h1
 have hlen : (arcs n r).length = (arL n r).length := List.length_map _
 have hm := arL_mem (nwG_at (k := a) (by show a < (arL n r).length; omega))
 have hk := nwG_ok (n := n) hr
 exact ⟨h1.1, h1.2.1, h1.2.2, hm.1.1, hm.2.1.1, hk.1.c0 a (by show a < (arL n r).length; omega), hk.2 a (by show a < (arL n r).length; omega)⟩
theorem PlnI.step {n : List Ned} {r : List Roa} {a : Nat} {us hl wl : List Int} {C : List Arc} {c : Int} (h : PlnI n r a us hl wl C c) (ha : a < (arcs n r).length) (hn : ndsE n = 0) (hr : rdsE r = 0) {u : Int} (hu : 0 ≤ u)
 (hu1 : u ≤ getI hl ((nwG n r).fr a)) (hu2 : u ≤ getI wl ((nwG n r).to a)) (hmin : ∀ m, 1 ≤ m → m < u ∨ u = 0 → m ≤ getI hl ((nwG n r).fr a) → m ≤ getI wl ((nwG n r).to a) → NoM n r a hl wl c m)
 (hopt : 0 < u → ∃ k, ((nwG n r).sh (a + 1)).IsOpt (kindB n) (les (getI hl) ((nwG n r).fr a) u) (les (getI wl) ((nwG n r).to a) u) k ∧ k + u * (nwG n r).c a = c) :
 PlnI n r (a + 1) (us ++ [u]) (lesI hl ((nwG n r).fr a) u) (lesI wl ((nwG n r).to a) u) (C.drop 1) (c - u * (nwG n r).c a) := by
 obtain ⟨f1, f2, f3, f4, f5, f6, f7⟩ := h.first ha hn hr
 have hK : a < (nwG n r).K := by show a < (arL n r).length; have : (arcs n r).length = (arL n r).length := List.length_map _; omega
 have hB := nwG_bip n r
 have hG := (nwG_ok (n := n) hr).1
 have e1 : getI (lesI hl ((nwG n r).fr a) u) = les (getI hl) ((nwG n r).fr a) u := getI_lesI (by rw [h.l1]; exact f4)
 have e2 : getI (lesI wl ((nwG n r).to a) u) = les (getI wl) ((nwG n r).to a) u := getI_lesI (by rw [h.l2]; exact f5)
 have hO : ((nwG n r).sh (a + 1)).IsOpt (kindB n) (les (getI hl) ((nwG n r).fr a) u) (les (getI wl) ((nwG n r).to a) u) (c - u * (nwG n r).c a) := by
  rcases Int.lt_or_le 0 u with q | q
  · obtain ⟨k, k1, k2⟩ := hopt q
    exact Nw.opt_used k1 k2
  · have hu0 : u = 0 := by omega
    rw [hu0]
    exact Nw.opt_zero hB hK h.opt fun m m1 m2 m3 => hmin m m1 (.inr hu0) m2 m3
 have hc0 := isOpt_nn (Nw.sh_ok hG (a + 1)) hO
 have hcu : 0 ≤ u * (nwG n r).c a := Int.mul_nonneg hu f6
 have hcb := h.cb
 refine ⟨by rw [List.length_append, h.len]; rfl, ha, ?_, by rw [lesI_len]; exact h.l1, by rw [lesI_len]; exact h.l2, fun v hv => ?_, fun v hv => ?_, fun v hv hk => ?_, fun v hv hk => ?_, by rw [e1, e2]; exact hO, ⟨hc0, by omega⟩, fun y hy => ?_⟩
 · have := h.sm.drop 1
   rw [List.drop_drop] at this; exact this
 · have := h.hb v hv
   rw [e1, les_at]; split
   · rename_i q; rw [← q] at this ⊢; omega
   · omega
 · have := h.wb v hv
   rw [e2, les_at]; split
   · rename_i q; rw [← q] at this ⊢; omega
   · omega
 · have h1 := h.hz v hv hk
   rw [e1, les_at, h1]; split
   · rename_i q; rw [q] at hu1; omega
   · rfl
 · have h1 := h.wz v hv hk
   rw [e2, les_at, h1]; split
   · rename_i q; rw [q] at hu2; omega
   · rfl
 · rw [e1, e2] at hy
   have := Nw.best_step hB hK h.opt.2 hu (fun m m1 m2 m3 m4 => hmin m m1 m2 m3 m4) hy
   obtain ⟨c0, hc⟩ := h.best _ this
   exact ⟨c0, by rw [vapp_snoc]; exact hc⟩
theorem PlnI.done {n : List Ned} {r : List Roa} {us hl wl : List Int} {C : List Arc} {c : Int} (h : PlnI n r (arcs n r).length us hl wl C c) : ∃ c0 x, (nwG n r).Best (kindB n) (getI (havL n)) (getI (wntL n)) c0 x ∧ lsU (mvN n r) 0 us = lsV (mvN n r) (nwG n r).K 0 x := by
 have hK : (arcs n r).length = (nwG n r).K := List.length_map _
 obtain ⟨c0, hc⟩ := h.best (fun _ => 0) (by rw [hK]; exact Nw.best_end (by have := h.opt; rw [hK] at this; exact this) _)
 refine ⟨c0, _, hc, ?_⟩
 rw [← lsV_vapp (mvN n r) (fun _ => 0) us 0, h.len, hK]
def oVPfR27_13 : List (Nat × List Nat) := [(0, []), (1, [0]), (2, [0]), (3, [0]), (4, [0]), (5, [0, 1, 2, 3, 4]), (6, [0, 1, 2, 3, 4]), (7, [0]), (8, [0]), (9, [0, 1, 2, 3, 4, 5, 6, 7, 8]), (10, [0, 1, 2, 3, 4, 5, 6, 7, 8]), (11, [0, 1, 2, 3, 4, 5, 6, 7, 8]), (12, [0, 1, 2, 3, 4, 5, 6, 7, 8]), (13, [0, 1, 2, 3, 4, 5, 6, 7, 8, 9, 10, 11, 12]), (14, [0, 1, 2, 3, 4, 5, 6, 7, 8, 9, 10, 11, 12]), (15, [0, 1, 2, 3, 4, 5, 6, 7, 8]), (16, [0, 1, 2, 3, 4, 5, 6, 7, 8]), (17, [0]), (18, [])]
def oVPfR27_19 : List (Nat × List Nat) := [(0, []), (1, [0]), (2, [0, 1]), (3, [0, 1]), (4, [0]), (5, [0]), (6, [0]), (7, [0, 1, 2, 3, 4, 5, 6]), (8, [0, 1, 2, 3, 4, 5, 6, 7]), (9, [0, 1, 2, 3, 4, 5, 6, 7]), (10, [0, 1, 2, 3, 4, 5, 6]), (11, [0, 1, 2, 3, 4, 5, 6]), (12, [0, 1, 2, 3, 4, 5, 6]), (13, [0, 1, 2, 3, 4, 5, 6, 7, 8, 9, 10, 11, 12]), (14, [0]), (15, [0]), (16, []), (17, [])]
theorem Entails.freeze {s : St} (d e kk n : Nat) (g : Nat → List DV) (hd : s.res d = some (.buf e kk n g)) : Entails s (s.app ⟨none, .any, [(d, some (.fro kk n g))], []⟩) := ⟨fun A a w => by
 rintro ⟨h0, G, β, hm⟩
 obtain ⟨G', _, hm'⟩ := hm.freeze hd
 exact ⟨h0, G', β, hm'⟩⟩
def PlanR (n : List Ned) (r : List Roa) (l : List Mov) (e : Int) : Prop :=
 (firstE [ndsE n, rdsE r] ≠ 0 ∧ e = firstE [ndsE n, rdsE r] ∧ l = []) ∨ ((ndsE n = 0 ∧ rdsE r = 0) ∧ ((∀ g, ¬ (nwG n r).Fl (kindB n) (getI (havL n)) (getI (wntL n)) g) ∧ e = 12 ∧ l = [] ∨
   (∃ c x, (nwG n r).Best (kindB n) (getI (havL n)) (getI (wntL n)) c x ∧ l = lsV (mvN n r) (nwG n r).K 0 x) ∧ e = 0))
theorem firstE_two {a b : Int} (h : firstE [a, b] = 0) : a = 0 ∧ b = 0 := by
 by_cases ha : a = 0
 · rw [firstE, if_pos ha] at h
   by_cases hb : b = 0
   · exact ⟨ha, hb⟩
   · rw [firstE, if_neg hb] at h; exact absurd h hb
 · rw [firstE, if_neg ha] at h; exact absurd h ha
theorem PlnI.inner_ok {n : List Ned} {r : List Roa} {a : Nat} {us hl wl : List Int} {C : List Arc} {c : Int} (h : PlnI n r a us hl wl C c) (ha : a < (arcs n r).length) (hn : ndsE n = 0) (hr : rdsE r = 0) {m : Int} (hm : 0 ≤ m)
 (h1 : m ≤ getI hl ((nwG n r).fr a)) (h2 : m ≤ getI wl ((nwG n r).to a)) :
 (ArOk (lesI hl ((nwG n r).fr a) m).length (C.drop 1) ∧ (lesI hl ((nwG n r).fr a) m).length ≤ 1000) ∧ (lesI wl ((nwG n r).to a) m).length = (lesI hl ((nwG n r).fr a) m).length ∧ (∀ v, v < (lesI hl ((nwG n r).fr a) m).length → 0 ≤ getI (lesI hl ((nwG n r).fr a) m) v ∧ getI (lesI hl ((nwG n r).fr a) m) v ≤ 1000) ∧
   (∀ v, v < (lesI hl ((nwG n r).fr a) m).length → 0 ≤ getI (lesI wl ((nwG n r).to a) m) v ∧ getI (lesI wl ((nwG n r).to a) m) v ≤ 1000) := by
 obtain ⟨f1, f2, f3, f4, f5, f6, f7⟩ := h.first ha hn hr
 have e1 : getI (lesI hl ((nwG n r).fr a) m) = les (getI hl) ((nwG n r).fr a) m := getI_lesI (by rw [h.l1]; exact f4)
 have e2 : getI (lesI wl ((nwG n r).to a) m) = les (getI wl) ((nwG n r).to a) m := getI_lesI (by rw [h.l2]; exact f5)
 have hnl := (nds_all hn).1
 rw [lesI_len, lesI_len, h.l1, h.l2, e1, e2]
 refine ⟨⟨(h.sm.ok ((arcs_ok hn hr).drop a)).drop 1, by omega⟩, rfl, fun v hv => ?_, fun v hv => ?_⟩
 · have := h.hb v hv
   rw [les_at]; split
   · rename_i q; rw [← q] at this ⊢; omega
   · omega
 · have := h.wb v hv
   rw [les_at]; split
   · rename_i q; rw [← q] at this ⊢; omega
   · omega
theorem PlnI.inner_sol {n : List Ned} {r : List Roa} {a : Nat} {us hl wl : List Int} {C : List Arc} {c : Int} (h : PlnI n r a us hl wl C c) (ha : a < (arcs n r).length) (hn : ndsE n = 0) (hr : rdsE r = 0) {m : Int}
 (h1 : 0 ≤ m ∧ m ≤ getI hl ((nwG n r).fr a)) (h2 : m ≤ getI wl ((nwG n r).to a)) {f : Nat → Int} {y : SV} (hs : SolR (nwA (lesI hl ((nwG n r).fr a) m).length (C.drop 1)) (getI (lesI hl ((nwG n r).fr a) m)) (getI (lesI wl ((nwG n r).to a) m)) f y) :
 (∃ k, ((nwG n r).sh (a + 1)).IsOpt (kindB n) (les (getI hl) ((nwG n r).fr a) m) (les (getI wl) ((nwG n r).to a) m) k ∧ (0 ≤ k ∧ k ≤ 1000000000000000) ∧ y = .tup [.d (.int .i64 k), .d (.bool true)]) ∨
   (NoM n r a hl wl c m ∧ ∃ q, y = .tup [.d (.int .i64 q), .d (.bool false)]) := by
 obtain ⟨f1, f2, f3, f4, f5, f6, f7⟩ := h.first ha hn hr
 have e1 : getI (lesI hl ((nwG n r).fr a) m) = les (getI hl) ((nwG n r).fr a) m := getI_lesI (by rw [h.l1]; exact f4)
 have e2 : getI (lesI wl ((nwG n r).to a) m) = les (getI wl) ((nwG n r).to a) m := getI_lesI (by rw [h.l2]; exact f5)
 have hB := (nwG_bip n r).sh (a + 1)
 have hG := Nw.sh_ok (nwG_ok (n := n) hr).1 (a + 1)
 have e3 : nwA (lesI hl ((nwG n r).fr a) m).length (C.drop 1) = (nwG n r).sh (a + 1) := by
  have := h.sm.drop 1
  rw [List.drop_drop] at this
  rw [lesI_len, h.l1, this.nw, nwA_drop, nwA_arcs]
 rw [e3, e1, e2] at hs
 have z1 : ∀ v, v < ((nwG n r).sh (a + 1)).N → kindB n v = false → les (getI hl) ((nwG n r).fr a) m v = 0 := fun v hv hk => by
  have h3 := h.hz v hv hk
  rw [les_at, h3]; split
  · rename_i q; rw [q] at h1; omega
  · rfl
 have z2 : ∀ v, v < ((nwG n r).sh (a + 1)).N → kindB n v = true → les (getI wl) ((nwG n r).to a) m v = 0 := fun v hv hk => by
  have h3 := h.wz v hv hk
  rw [les_at, h3]; split
  · rename_i q; rw [q] at h2; omega
  · rfl
 rcases sol_opt hG hB z1 z2 hs with ⟨k, k1, k2, k3⟩ | ⟨k1, q, k2⟩
 · exact .inl ⟨k, k1, k2, k3⟩
 · exact .inr ⟨fun ⟨g, hg, _⟩ => k1 g hg, q, k2⟩
theorem PlnI.noM {n : List Ned} {r : List Roa} {a : Nat} {us hl wl : List Int} {C : List Arc} {c : Int} (h : PlnI n r a us hl wl C c) (ha : a < (arcs n r).length) (hr : rdsE r = 0) {m k : Int} (hm : 0 ≤ m)
 (hk : ((nwG n r).sh (a + 1)).IsOpt (kindB n) (les (getI hl) ((nwG n r).fr a) m) (les (getI wl) ((nwG n r).to a) m) k) (hne : k + m * (nwG n r).c a ≠ c) : NoM n r a hl wl c m := fun hg => by
 have hK : a < (nwG n r).K := by show a < (arL n r).length; have : (arcs n r).length = (arL n r).length := List.length_map _; omega
 exact hne ((Nw.opt_many (nwG_bip n r) hK h.opt hm hk).2 hg)
set_option maxHeartbeats 16000000 in
theorem p27 (n : List Ned) (r : List Roa) (hn : ndOk n) (hr : rdOk r) : FSpec Tryz.prog 27 [.d (neds n), .d (roas r)] []
 (fun y q => (∃ l e, y = .tup [.d (movs l), .d (.int .i64 e)] ∧ PlanR n r l e) ∧ q = []) := by
 obtain ⟨E0, hE0⟩ : ∃ e, firstE [ndsE n, rdsE r] = e := ⟨_, rfl⟩
 have s113' := s113 n r hn hr
 rw [hE0] at s113'
 refine spec_of hT (C := []) Tryz.func27 rfl Tryz.call27 rfl rfl rfl ?_
 conv => whnf
 by_cases h0 : firstE [ndsE n, rdsE r] = 0
 · obtain ⟨hn0, hr0⟩ := firstE_two h0
   have hA := arcs_ok hn0 hr0
   have hnl := (nds_all hn0).1
   have hz := @plnI_init n r
   have hGo := (nwG_ok (n := n) hr0).1
   repeat' (first | (refine CallX.exact (s113') rfl rfl ?_; rotate_right; conv => whnf) | (refine CallX.of (p59 n r hn0 hr0) [(20, 24), (15, 1000), (18, 1001), (500, 1002)] rfl ⟨lr, lr, trivial⟩ trivial rfl rfl ?_; rintro x rout ⟨rfl, rfl⟩; refine ⟨rfl, ?_⟩; conv => whnf) | (refine CallX.of (p60 (havL n) (wntL n) (arcs n r) (by rw [show (havL n).length = n.length from fillA_length]; exact hA) (by rw [show (havL n).length = n.length from fillA_length]; omega) (by rw [show (havL n).length = n.length from fillA_length]; exact fillA_length) (fun v hv => by rw [getI_hav (by rw [← (show (havL n).length = n.length from fillA_length)]; exact hv)]; have := (havF_bd hn0 v).1; omega) (fun v hv => by rw [getI_wnt (by rw [← (show (havL n).length = n.length from fillA_length)]; exact hv)]; have := (havF_bd hn0 v).2; omega)) [(1000000, 24), (1000001, 1000), (1000002, 1001), (1000003, 1002)] rfl ⟨lr, trivial⟩ ⟨rr, rr, rr, rr, trivial⟩ rfl rfl ?_; rintro x rout ⟨C0, ⟨hS0, hR0⟩, rfl⟩; rw [show (havL n).length = n.length from fillA_length, nwA_arcs] at hR0; (rcases sol_opt hGo (nwG_bip n r) (fun v hv hk => by rw [getI_hav hv]; have := kindB_get.1 hk; unfold havF; omega) (fun v hv hk => by rw [getI_wnt hv]; have := kindB_get.2 hk; unfold wntF; omega) hR0 with ⟨c, hop, hcb, rfl⟩ | ⟨hno, c, rfl⟩) <;> (refine ⟨rfl, ?_⟩ <;> (conv => whnf)); conv => whnf) | (refine br_intro ?_ ?_ <;> intro hb <;> (try simp only [brs] at hb) <;> conv => whnf) | (refine RegX.rule (id := 13) hT rfl [] oVPfR27_13 (by decide +kernel) ?_; conv => whnf) | (refine RegX.rule (id := 19) hT rfl [] oVPfR27_19 (by decide +kernel) ?_; conv => whnf) | omega | (refine And.intro ?_ ?_; ((try dsimp only); first | omega | (refine szA rfl ?_; omega) | (refine szB rfl ?_; omega) | (unfold inI64; omega) | exact rfl | (simp only [lns] at *; omega) | decide | (unfold inI64; decide)); conv => whnf) | decide | assumption)
   · refine LoopX.freeze 1002 108 4 _ _ rfl ?_
     refine LoopX.rule hT (C := []) (ι := Nat × List Int × List Int × List Int × List Arc × Int) (fun (a, us, hl, wl, C, c) => PlnI n r a us hl wl C c) (fun (a, us, hl, wl, C, c) => mkSt [(0, .d (neds n)), (7, .ptr 24 0), (8, .d (.int .i64 c)), (10, .buf 600)] [(24, tpV hl wl C), (600, seqB 70 3 mvF mv0 (lsU (mvN n r) 0 us))]) (fun (a, _) => (arcs n r).length - a) (0, [], havL n, wntL n, C0, c) (plnI_init hn0 hS0 hop hcb) ?_ ?_
     · refine (Entails.froCell 24 1000 1 _ 0 _ rfl rfl rfl).trans ?_
       refine (Entails.froCell 24 1001 1 _ 1 _ rfl rfl rfl).trans ?_
       refine (Entails.froCell 24 1002 4 _ 2 _ rfl rfl rfl).trans ?_
       refine (Entails.nil 10 600 70 3 (rowF mvF mv0 []) rfl rfl (by decide)).trans ?_
       exact Entails.mk' [(24, 24), (600, 600)] rfl rfl ⟨lr, lr, lr, lr, trivial⟩ ⟨rr, rr, trivial⟩
     clear hop hcb hR0 hS0 hz
     rintro ⟨a, us, hl, wl, C, c⟩ hI
     have hI : PlnI n r a us hl wl C c := hI
     have hCl : C.length = (arcs n r).length - a := by rw [hI.sm.len, List.length_drop]
     have hAl := hA.len
     rcases Nat.lt_or_ge a (arcs n r).length with haA | haA
     · obtain ⟨f1, f2, f3, f4, f5, f6, f7⟩ := hI.first haA hn0 hr0
       have g1 : (C.getD (0 : Int).toNat ar0).fr = ((nwG n r).fr a : Nat) := f1
       have g2 : (C.getD (0 : Int).toNat ar0).to = ((nwG n r).to a : Nat) := f2
       have g3 : (C.getD (0 : Int).toNat ar0).car = (nwG n r).c a := f3
       have hl1 := hI.l1
       have hl2 := hI.l2
       have b1 := hI.hb _ f4
       have b2 := hI.wb _ f5
       conv => whnf
       repeat' (first | (refine br_intro ?_ ?_ <;> intro hb <;> (try simp only [brs] at hb) <;> conv => whnf) | (refine RegX.rule (id := 13) hT rfl [] oVPfR27_13 (by decide +kernel) ?_; conv => whnf) | (refine RegX.rule (id := 19) hT rfl [] oVPfR27_19 (by decide +kernel) ?_; conv => whnf) | omega | (refine And.intro ?_ ?_; ((try dsimp only); first | omega | (refine szA rfl ?_; omega) | (refine szB rfl ?_; omega) | (unfold inI64; omega) | exact rfl | (simp only [lns] at *; omega) | decide | (unfold inI64; decide)); conv => whnf) | decide | assumption)
       all_goals try (exfalso; omega)
       refine LoopX.rule hT (C := []) (ι := Nat) (fun m => (1 ≤ m ∧ m ≤ 21) ∧ ∀ k : Int, 1 ≤ k → k < m → NoM n r a hl wl c k) (fun m => mkSt [(0, .d (neds n)), (7, .ptr 24 0), (8, .d (.int .i64 c)), (10, .buf 600), (11, .ptr 11 0), (12, .d (.int .i64 0)), (13, .d (.int .i64 m))] [(24, tpV hl wl C), (600, seqB 70 3 mvF mv0 (lsU (mvN n r) 0 us)), (11, .cells 108 ((arF (C.getD (0 : Int).toNat ar0)).map .d))]) (fun m => 30 - m) 1 ⟨⟨by omega, by omega⟩, fun k h1 h2 => absurd h1 (by omega)⟩ ?_ ?_
       · exact Entails.mk' [(24, 24), (600, 600), (11, 11)] rfl rfl ⟨lr, lr, lr, lr, lr, lr, lr, trivial⟩ ⟨rr, rr, rr, trivial⟩
       rintro m ⟨⟨hm1, hm2⟩, hno⟩
       have hm1 : 1 ≤ m := hm1
       have hm2 : m ≤ 21 := hm2
       have hmul : 0 ≤ (m : Int) * (C.getD (0 : Int).toNat ar0).car ∧ (m : Int) * (C.getD (0 : Int).toNat ar0).car ≤ 21 * 1000000 := by
        rw [g3]
        exact ⟨Int.mul_nonneg (by omega) f6, Int.mul_le_mul (by omega) f7 f6 (by omega)⟩
       have hcb := hI.cb
       have i1 : ((nwG n r).fr a : Int).toNat = (nwG n r).fr a := Int.toNat_natCast _
       have i2 : ((nwG n r).to a : Int).toNat = (nwG n r).to a := Int.toNat_natCast _
       have hll : (lsU (mvN n r) 0 us).length ≤ 1000 := by have := lsU_len (mvN n r) us 0; have := hI.len; omega
       by_cases hmm : (m : Int) ≤ getI hl ((nwG n r).fr a) ∧ (m : Int) ≤ getI wl ((nwG n r).to a)
       · obtain ⟨⟨k1, k2⟩, k3, k4, k5⟩ := hI.inner_ok haA hn0 hr0 (m := m) (by omega) hmm.1 hmm.2
         conv => whnf
         repeat' (first | (refine CallX.of (p64 hl wl C 1 ((nwG n r).fr a) ((nwG n r).to a) m (by omega) (by omega) (by omega) (by omega) (by omega) (by omega) (by omega) (by unfold getI at b1; omega) (by unfold getI at b2; omega)) [(1000000, 24), (30, 72), (16, 1101), (21, 1102), (28, 1103)] rfl ⟨lr, lr, SV.le_int g1, SV.le_int g2, lr, trivial⟩ ⟨rr, trivial⟩ rfl rfl ?_; rintro x rout ⟨rfl, rfl⟩; refine ⟨rfl, ?_⟩; conv => whnf) | (refine CallX.of (p64 hl wl C 1 ((nwG n r).fr a) ((nwG n r).to a) m (by omega) (by omega) (by omega) (by omega) (by omega) (by omega) (by omega) (by unfold getI at b1; omega) (by unfold getI at b2; omega)) [(1000000, 24), (30, 113), (16, 2101), (21, 2102), (28, 2103)] rfl ⟨lr, lr, SV.le_int g1, SV.le_int g2, lr, trivial⟩ ⟨rr, trivial⟩ rfl rfl ?_; rintro x rout ⟨rfl, rfl⟩; refine ⟨rfl, ?_⟩; conv => whnf) | (refine CallX.of (p60 (lesI hl ((nwG n r).fr a) m) (lesI wl ((nwG n r).to a) m) (C.drop 1) k1 k2 k3 k4 k5) [(1000000, 72), (1000001, 1101), (1000002, 1102), (1000003, 1103)] rfl ⟨lr, trivial⟩ ⟨rr, rr, rr, rr, trivial⟩ rfl rfl ?_; rintro x rout ⟨C2, ⟨hS2, hR2⟩, rfl⟩; (rcases hI.inner_sol haA hn0 hr0 (m := m) ⟨by omega, hmm.1⟩ hmm.2 hR2 with ⟨k, q1, q2, rfl⟩ | ⟨q1, q, rfl⟩) <;> (refine ⟨rfl, ?_⟩ <;> (conv => whnf)); conv => whnf) | (refine br_intro ?_ ?_ <;> intro hb <;> (try simp only [brs] at hb) <;> conv => whnf) | (refine RegX.rule (id := 13) hT rfl [] oVPfR27_13 (by decide +kernel) ?_; conv => whnf) | (refine RegX.rule (id := 19) hT rfl [] oVPfR27_19 (by decide +kernel) ?_; conv => whnf) | omega | (refine And.intro ?_ ?_; ((try dsimp only); first | omega | (refine szA rfl ?_; omega) | (refine szB rfl ?_; omega) | (unfold inI64; omega) | exact rfl | (simp only [lns] at *; omega) | decide | (unfold inI64; decide)); conv => whnf) | decide | assumption)
         all_goals try (exfalso; have hb2 : min (hl.getD (C.getD (0 : Int).toNat ar0).fr.toNat 0) (wl.getD (C.getD (0 : Int).toNat ar0).to.toNat 0) < (m : Int) := hb; rw [g1, g2, i1, i2] at hb2; unfold getI at hmm; omega)
         · have hs := hI.step haA hn0 hr0 (u := m) (by omega) hmm.1 hmm.2 (fun k h1 h2 _ _ => hno k h1 (by omega)) (fun _ => ⟨k, q1, by rename_i hx _; rw [← f3]; exact hx⟩)
           refine ⟨(a + 1, us ++ [(m : Int)], lesI hl ((nwG n r).fr a) m, lesI wl ((nwG n r).to a) m, C.drop 1, c - m * (nwG n r).c a), hs, by show (arcs n r).length - (a + 1) < (arcs n r).length - a; omega, ?_⟩
           refine (Entails.freeze 2103 108 4 _ _ rfl).trans ?_
           refine (Entails.froCell 113 2101 1 _ 0 _ rfl rfl rfl).trans ?_
           refine (Entails.froCell 113 2102 1 _ 1 _ rfl rfl rfl).trans ?_
           refine (Entails.froCell 113 2103 4 _ 2 _ rfl rfl rfl).trans ?_
           refine Entails.mk' [(24, 113), (600, 106)] rfl rfl ⟨lr, lr, SV.le_int (by rw [g3]), lr, trivial⟩ ⟨rr, ?_, trivial⟩
           show Res.le _ (seqB 70 3 mvF mv0 (lsU (mvN n r) 0 (us ++ [(m : Int)])))
           rw [lsU_snoc, if_pos (by omega), Nat.zero_add]
           refine Res.le_snocF ?_
           show [DV.str (n.getD (C.getD (0 : Int).toNat ar0).fr.toNat nd0).st, DV.str (n.getD (C.getD (0 : Int).toNat ar0).to.toNat nd0).st, DV.int .i64 m] = _
           rw [g1, g2, i1, i2, hI.len]; rfl
         · refine ⟨m + 1, ⟨⟨by omega, by omega⟩, fun k' h1 h2 => ?_⟩, by omega, Entails.mk' [(24, 24), (600, 600), (11, 11)] rfl rfl ⟨lr, lr, lr, lr, lr, lr, lr, trivial⟩ ⟨rr, rr, rr, trivial⟩⟩
           by_cases hk : k' = m
           · rw [hk]; exact hI.noM haA hr0 (by omega) q1 (by rw [← f3]; exact hb)
           · exact hno k' h1 (by omega)
         · refine ⟨m + 1, ⟨⟨by omega, by omega⟩, fun k' h1 h2 => ?_⟩, by omega, Entails.mk' [(24, 24), (600, 600), (11, 11)] rfl rfl ⟨lr, lr, lr, lr, lr, lr, lr, trivial⟩ ⟨rr, rr, rr, trivial⟩⟩
           by_cases hk : k' = m
           · rw [hk]; exact q1
           · exact hno k' h1 (by omega)
       · conv => whnf
         repeat' (first | (refine CallX.of (p64 hl wl C 1 ((nwG n r).fr a) ((nwG n r).to a) 0 (by omega) (by omega) (by omega) (by omega) (by omega) (by omega) (by omega) (by unfold getI at b1; omega) (by unfold getI at b2; omega)) [(1000000, 24), (30, 113), (16, 2101), (21, 2102), (28, 2103)] rfl ⟨lr, lr, SV.le_int g1, SV.le_int g2, lr, trivial⟩ ⟨rr, trivial⟩ rfl rfl ?_; rintro x rout ⟨rfl, rfl⟩; refine ⟨rfl, ?_⟩; conv => whnf) | (refine br_intro ?_ ?_ <;> intro hb <;> (try simp only [brs] at hb) <;> conv => whnf) | (refine RegX.rule (id := 13) hT rfl [] oVPfR27_13 (by decide +kernel) ?_; conv => whnf) | (refine RegX.rule (id := 19) hT rfl [] oVPfR27_19 (by decide +kernel) ?_; conv => whnf) | omega | (refine And.intro ?_ ?_; ((try dsimp only); first | omega | (refine szA rfl ?_; omega) | (refine szB rfl ?_; omega) | (unfold inI64; omega) | exact rfl | (simp only [lns] at *; omega) | decide | (unfold inI64; decide)); conv => whnf) | decide | assumption)
         all_goals try (exfalso; have hb2 : (m : Int) ≤ min (hl.getD (C.getD (0 : Int).toNat ar0).fr.toNat 0) (wl.getD (C.getD (0 : Int).toNat ar0).to.toNat 0) := hb; rw [g1, g2, i1, i2] at hb2; unfold getI at hmm; omega)
         have hs := hI.step haA hn0 hr0 (u := 0) (Int.le_refl _) b1.1 b2.1 (fun k h1 _ h3 h4 => hno k h1 (by omega)) (fun z => absurd z (Int.lt_irrefl _))
         refine ⟨(a + 1, us ++ [(0 : Int)], lesI hl ((nwG n r).fr a) 0, lesI wl ((nwG n r).to a) 0, C.drop 1, c - 0 * (nwG n r).c a), hs, by show (arcs n r).length - (a + 1) < (arcs n r).length - a; omega, ?_⟩
         refine (Entails.freeze 2103 108 4 _ _ rfl).trans ?_
         refine (Entails.froCell 113 2101 1 _ 0 _ rfl rfl rfl).trans ?_
         refine (Entails.froCell 113 2102 1 _ 1 _ rfl rfl rfl).trans ?_
         refine (Entails.froCell 113 2103 4 _ 2 _ rfl rfl rfl).trans ?_
         refine Entails.mk' [(24, 113), (600, 600)] rfl rfl ⟨lr, lr, SV.le_int (by rw [g3]), lr, trivial⟩ ⟨rr, ?_, trivial⟩
         show Res.le _ (seqB 70 3 mvF mv0 (lsU (mvN n r) 0 (us ++ [(0 : Int)])))
         rw [lsU_snoc, if_neg (Int.lt_irrefl _), List.append_nil]
         exact rr
     · have haA : a = (arcs n r).length := by have := hI.aK; omega
       conv => whnf
       repeat' (first | (refine br_intro ?_ ?_ <;> intro hb <;> (try simp only [brs] at hb) <;> conv => whnf) | (refine RegX.rule (id := 13) hT rfl [] oVPfR27_13 (by decide +kernel) ?_; conv => whnf) | (refine RegX.rule (id := 19) hT rfl [] oVPfR27_19 (by decide +kernel) ?_; conv => whnf) | omega | (refine And.intro ?_ ?_; ((try dsimp only); first | omega | (refine szA rfl ?_; omega) | (refine szB rfl ?_; omega) | (unfold inI64; omega) | exact rfl | (simp only [lns] at *; omega) | decide | (unfold inI64; decide)); conv => whnf) | decide | assumption)
       all_goals try (exfalso; omega)
       subst haA
       obtain ⟨c0, x, hx, ex⟩ := hI.done
       refine .freeze _ 600 70 3 _ _ rfl (.weak _ ?_)
       conv => whnf
       refine ⟨.tup [.d (movs (lsU (mvN n r) 0 us)), .d (.int .i64 0)], _, SV.le_tup ⟨lr, lr, trivial⟩, ⟨⟨_, _, rfl, .inr ⟨⟨hn0, hr0⟩, .inr ⟨⟨c0, x, hx, ex⟩, rfl⟩⟩⟩, rfl⟩, trivial⟩
   · refine .weak _ ?_
     conv => whnf
     exact ⟨.tup [.d (movs []), .d (.int .i64 12)], _, SV.le_tup ⟨SV.le_nilS, lr, trivial⟩, ⟨⟨[], 12, rfl, .inr ⟨⟨hn0, hr0⟩, .inl ⟨hno, rfl, rfl⟩⟩⟩, rfl⟩, trivial⟩
 · repeat' (first | (refine CallX.exact (s113') rfl rfl ?_; rotate_right; conv => whnf) | (refine br_intro ?_ ?_ <;> intro hb <;> (try simp only [brs] at hb) <;> conv => whnf) | (refine RegX.rule (id := 13) hT rfl [] oVPfR27_13 (by decide +kernel) ?_; conv => whnf) | (refine RegX.rule (id := 19) hT rfl [] oVPfR27_19 (by decide +kernel) ?_; conv => whnf) | omega | (refine And.intro ?_ ?_; ((try dsimp only); first | omega | (refine szA rfl ?_; omega) | (refine szB rfl ?_; omega) | (unfold inI64; omega) | exact rfl | (simp only [lns] at *; omega) | decide | (unfold inI64; decide)); conv => whnf) | decide | assumption)
   all_goals try (exfalso; omega)
   refine .weak _ ?_
   conv => whnf
   exact ⟨.tup [.d (movs []), .d (.int .i64 E0)], _, SV.le_tup ⟨SV.le_nilS, lr, trivial⟩, ⟨⟨[], E0, rfl, .inl ⟨h0, hE0.symm, rfl⟩⟩, rfl⟩, trivial⟩
end Go.Proofs.YteehenjdddlnnaaGreatDoor
