/- MoveTexts is proved: for every input the law returns true, and its argument reads afterwards as it read before. Conditions: those of the given row alone. -/
import Derived.Test.YtgeakdcbpjmkbaaGreatDoorXmtConOne
import Derived.Shelf.Small.Strs
import Derived.Test.YtgeakdcbpjmkbaaGreatDoorProg
import Derived.Shelf.Strings.Search3
import Derived.Test.YtgeakdcbpjmkbaaGreatDoorXmtEngTwo
import Derived.Test.YtgeakdcbpjmkbaaGreatDoorXmtEngMap
set_option linter.unusedVariables false
set_option linter.unusedSimpArgs false
set_option maxRecDepth 20000
namespace Go.Proofs.YtgeakdcbpjmkbaaGreatDoor
open Go Go.Eng
def oXShJ179_1 : List (Nat × List Nat) := [(0, []), (1, []), (2, []), (3, []), (5, [0, 1, 2, 3]), (6, [0, 1, 2, 3]), (7, [0, 1, 2, 3]), (8, [0, 1, 2, 3]), (4, [5, 6, 7, 8]), (9, []), (10, []), (11, [])]
def oXShJ179_14 : List (Nat × List Nat) := [(0, []), (1, []), (2, []), (3, []), (4, [3]), (5, []), (6, []), (7, []), (8, []), (9, []), (10, []), (11, []), (12, []), (13, []), (14, [13]), (15, []), (16, []), (17, [13, 14, 15, 16]), (18, [13, 14, 15, 16, 17]), (19, [13, 14, 15, 16]), (20, [13, 14, 15, 16]), (21, []), (22, []), (23, [])]
def oXShJ179_21 : List (Nat × List Nat) := [(0, []), (1, []), (2, []), (3, []), (4, [0, 1, 2, 3]), (5, [0, 1, 2, 3, 4]), (6, [0, 1, 2, 3]), (7, [0, 1, 2, 3]), (8, [0, 1, 2, 3]), (9, []), (10, []), (11, [0, 1, 2, 3, 4, 5, 6, 7, 8, 9, 10]), (12, [])]
def oXShJ179_23 : List (Nat × List Nat) := [(0, []), (1, [0]), (2, [0]), (3, []), (4, [0, 1, 2, 3]), (5, [0, 1, 2, 3]), (6, [4, 5]), (7, [])]
def oXShJ179_31 : List (Nat × List Nat) := [(0, []), (1, []), (2, []), (3, []), (4, [0, 1, 2, 3]), (5, [0, 1, 2, 3, 4]), (6, [0, 1, 2, 3]), (7, [0, 1, 2, 3]), (8, [0, 1, 2, 3]), (9, []), (10, [])]
def oXShJ108_13 : List (Nat × List Nat) := [(0, []), (1, [0]), (2, [0]), (3, [0]), (4, [0]), (5, [0, 1, 2, 3, 4]), (6, [0, 1, 2, 3, 4]), (7, [0]), (8, [0]), (9, [0, 1, 2, 3, 4, 5, 6, 7, 8]), (10, [0, 1, 2, 3, 4, 5, 6, 7, 8]), (11, [0, 1, 2, 3, 4, 5, 6, 7, 8]), (12, [0, 1, 2, 3, 4, 5, 6, 7, 8]), (13, [0, 1, 2, 3, 4, 5, 6, 7, 8, 9, 10, 11, 12]), (14, [0, 1, 2, 3, 4, 5, 6, 7, 8, 9, 10, 11, 12]), (15, [0, 1, 2, 3, 4, 5, 6, 7, 8]), (16, [0, 1, 2, 3, 4, 5, 6, 7, 8]), (17, [0]), (18, [])]
def oXShJ108_19 : List (Nat × List Nat) := [(0, []), (1, [0]), (2, [0, 1]), (3, [0, 1]), (4, [0]), (5, [0]), (6, [0]), (7, [0, 1, 2, 3, 4, 5, 6]), (8, [0, 1, 2, 3, 4, 5, 6, 7]), (9, [0, 1, 2, 3, 4, 5, 6, 7]), (10, [0, 1, 2, 3, 4, 5, 6]), (11, [0, 1, 2, 3, 4, 5, 6]), (12, [0, 1, 2, 3, 4, 5, 6]), (13, [0, 1, 2, 3, 4, 5, 6, 7, 8, 9, 10, 11, 12]), (14, [0]), (15, [0]), (16, []), (17, [])]
set_option maxHeartbeats 8000000 in
theorem s115a : FSpec Tryz.prog 179 [.ptr 1000000 0] (tpB [1, 0] [0, 1] [⟨0, 1, 4, 0⟩]) (fun y r => y = .tup [.d (.int .i64 4), .d (.bool true)] ∧ r = tpB [1, 0] [0, 1] [⟨0, 1, 4, 1⟩]) := by
 refine spec_of hT (C := []) Tryz.func179 rfl Tryz.call179 rfl rfl rfl ?_
 conv => whnf
 refine RegX.rule hT rfl [] oXShJ179_1 (by decide +kernel) ?_
 conv => whnf
 repeat' (first | (refine CallX.of (s166 [1, 0] (by simp) (by simp)) [(7, 22)] rfl ⟨lr, trivial⟩ trivial rfl rfl ?_; rintro x rout ⟨rfl, rfl⟩; refine ⟨rfl, ?_⟩; conv => whnf) | (refine CallX.of (s166 [0, 1] (by simp) (by simp)) [(7, 27)] rfl ⟨lr, trivial⟩ trivial rfl rfl ?_; rintro x rout ⟨rfl, rfl⟩; refine ⟨rfl, ?_⟩; conv => whnf) | (refine CallX.of s167a [(1000000, 1000000), (1000001, 1000001), (1000002, 1000002), (1000003, 1000003), (1000004, 22)] rfl ⟨lr, lr, trivial⟩ ⟨(Res.le_buf rfl (fun i hi => by (have : i = 0 ∨ i = 1 := by simp at hi; omega); rcases this with (rfl | rfl) <;> rfl)), rr, rr, rr, (Res.le_buf rfl (fun i hi => by (have : i = 0 := by simp at hi; omega); subst this; rfl)), trivial⟩ rfl rfl ?_; rintro x rout ⟨rfl, rfl⟩; refine ⟨rfl, ?_⟩; conv => whnf) | (refine CallX.of s167b [(1000000, 1000000), (1000001, 1000001), (1000002, 1000002), (1000003, 1000003), (1000004, 22)] rfl ⟨lr, lr, trivial⟩ ⟨(Res.le_buf rfl (fun i hi => by (have : i = 0 ∨ i = 1 := by simp at hi; omega); rcases this with (rfl | rfl) <;> rfl)), rr, rr, rr, (Res.le_buf rfl (fun i hi => by (have : i = 0 := by simp at hi; omega); subst this; rfl)), trivial⟩ rfl rfl ?_; rintro x rout ⟨rfl, rfl⟩; refine ⟨rfl, ?_⟩; conv => whnf) | (refine LoopX.run hT (C := []) 6 rfl [0, 4, 5, 32, 33] [1000000, 1000001, 1000002, 1000003] (fun _ _ h => h) (fun _ h => h) ?_; conv => whnf) | (refine LoopX.run hT (C := []) 7 rfl [0, 4, 5, 7] [1000000, 1000001, 1000002, 1000003] (fun _ _ h => h) (fun _ h => h) ?_; conv => whnf) | (refine LoopX.run hT (C := []) 22 rfl [0, 4, 5, 7, 8, 9, 10, 11, 50, 51, 52] [1000000, 1000001, 1000002, 1000003] (fun _ _ h => h) (fun _ h => h) ?_; conv => whnf) | (refine LoopX.run hT (C := []) 40 rfl [0, 4, 5, 7, 8, 9, 10, 14, 15] [1000000, 1000001, 1000002, 1000003] (fun _ _ h => h) (fun _ h => h) ?_; conv => whnf) | (refine LoopX.run hT (C := []) 60 rfl [0, 4, 5, 7, 9, 14, 15] [1000000, 1000001, 1000002, 1000003] (fun _ _ h => h) (fun _ h => h) ?_; conv => whnf) | (refine br_intro ?_ ?_ <;> intro hb <;> (try simp only [brs] at hb) <;> conv => whnf) | (refine RegX.rule (id := 1) hT rfl [] oXShJ179_1 (by decide +kernel) ?_; conv => whnf) | (refine RegX.rule (id := 14) hT rfl [] oXShJ179_14 (by decide +kernel) ?_; conv => whnf) | (refine RegX.rule (id := 21) hT rfl [] oXShJ179_21 (by decide +kernel) ?_; conv => whnf) | (refine RegX.rule (id := 23) hT rfl [] oXShJ179_23 (by decide +kernel) ?_; conv => whnf) | (refine RegX.rule (id := 31) hT rfl [] oXShJ179_31 (by decide +kernel) ?_; conv => whnf) | omega | (refine And.intro ?_ ?_; ((try dsimp only); first | omega | (refine szA rfl ?_; omega) | (refine szB rfl ?_; omega) | (unfold inI64; omega) | exact rfl | (simp only [List.toList_toArray, List.length_cons, List.length_nil]; omega) | (simp only [lns] at *; omega) | decide | (unfold inI64; decide)); conv => whnf) | decide | assumption)
 refine .weak _ ?_
 conv => whnf
 exact ⟨.tup [.d (.int .i64 4), .d (.bool true)], _, SV.le_tup ⟨SV.le_int rfl, SV.le_bool rfl, trivial⟩, ⟨rfl, rfl⟩, rr, rr, rr, (Res.le_buf rfl (fun i hi => by (have : i = 0 := by simp at hi; omega); subst this; rfl)), trivial⟩
set_option maxHeartbeats 8000000 in
theorem s115b : FSpec Tryz.prog 179 [.ptr 1000000 0] (tpD [0, 0] [0, 0]) (fun y r => y = .tup [.d (.int .i64 0), .d (.bool true)] ∧ r = tpD [0, 0] [0, 0]) := by
 refine spec_of hT (C := []) Tryz.func179 rfl Tryz.call179 rfl rfl rfl ?_
 conv => whnf
 refine RegX.rule hT rfl [] oXShJ179_1 (by decide +kernel) ?_
 conv => whnf
 repeat' (first | (refine CallX.of (s166 [0, 0] (by simp) (by simp)) [(7, 22)] rfl ⟨lr, trivial⟩ trivial rfl rfl ?_; rintro x rout ⟨rfl, rfl⟩; refine ⟨rfl, ?_⟩; conv => whnf) | (refine CallX.of (s166 [0, 0] (by simp) (by simp)) [(7, 27)] rfl ⟨lr, trivial⟩ trivial rfl rfl ?_; rintro x rout ⟨rfl, rfl⟩; refine ⟨rfl, ?_⟩; conv => whnf) | (refine CallX.of s167c [(1000000, 1000000), (1000001, 1000001), (1000002, 1000002), (1000004, 22)] rfl ⟨lr, lr, trivial⟩ ⟨rr, rr, rr, rr, trivial⟩ rfl rfl ?_; rintro x rout ⟨rfl, rfl⟩; refine ⟨rfl, ?_⟩; conv => whnf) | (refine LoopX.run hT (C := []) 6 rfl [0, 4, 5, 32, 33] [1000000, 1000001, 1000002] (fun _ _ h => h) (fun _ h => h) ?_; conv => whnf) | (refine LoopX.run hT (C := []) 7 rfl [0, 4, 5, 7] [1000000, 1000001, 1000002] (fun _ _ h => h) (fun _ h => h) ?_; conv => whnf) | (refine LoopX.run hT (C := []) 22 rfl [0, 4, 5, 7, 8, 9, 10, 11, 50, 51, 52] [1000000, 1000001, 1000002] (fun _ _ h => h) (fun _ h => h) ?_; conv => whnf) | (refine LoopX.run hT (C := []) 40 rfl [0, 4, 5, 7, 8, 9, 10, 14, 15] [1000000, 1000001, 1000002] (fun _ _ h => h) (fun _ h => h) ?_; conv => whnf) | (refine LoopX.run hT (C := []) 60 rfl [0, 4, 5, 7, 9, 14, 15] [1000000, 1000001, 1000002] (fun _ _ h => h) (fun _ h => h) ?_; conv => whnf) | (refine br_intro ?_ ?_ <;> intro hb <;> (try simp only [brs] at hb) <;> conv => whnf) | (refine RegX.rule (id := 1) hT rfl [] oXShJ179_1 (by decide +kernel) ?_; conv => whnf) | (refine RegX.rule (id := 14) hT rfl [] oXShJ179_14 (by decide +kernel) ?_; conv => whnf) | (refine RegX.rule (id := 21) hT rfl [] oXShJ179_21 (by decide +kernel) ?_; conv => whnf) | (refine RegX.rule (id := 23) hT rfl [] oXShJ179_23 (by decide +kernel) ?_; conv => whnf) | (refine RegX.rule (id := 31) hT rfl [] oXShJ179_31 (by decide +kernel) ?_; conv => whnf) | omega | (refine And.intro ?_ ?_; ((try dsimp only); first | omega | (refine szA rfl ?_; omega) | (refine szB rfl ?_; omega) | (unfold inI64; omega) | exact rfl | (simp only [List.toList_toArray, List.length_cons, List.length_nil]; omega) | (simp only [lns] at *; omega) | decide | (unfold inI64; decide)); conv => whnf) | decide | assumption)
 refine .weak _ ?_
 conv => whnf
 exact ⟨.tup [.d (.int .i64 0), .d (.bool true)], _, SV.le_tup ⟨SV.le_int rfl, SV.le_bool rfl, trivial⟩, ⟨rfl, rfl⟩, rr, rr, rr, trivial⟩
set_option maxHeartbeats 8000000 in
theorem s27t : FSpec Tryz.prog 108 [.d (neds tN), .d (roas tR)] [] (fun y r => y = .tup [.d (movs [⟨[97], [98], 1⟩]), .d (.int .i64 0)] ∧ r = []) := by
 refine spec_of hT (C := []) Tryz.func108 rfl Tryz.call108 rfl rfl rfl ?_
 conv => whnf
 repeat' (first | (refine CallX.exact (s113t) rfl rfl ?_; rotate_right; conv => whnf) | (refine CallX.of s114t [(20, 24), (15, 1000), (18, 1001), (88, 1002)] rfl ⟨lr, lr, trivial⟩ trivial rfl rfl ?_; rintro x rout ⟨rfl, rfl⟩; refine ⟨rfl, ?_⟩; conv => whnf) | (refine CallX.of s115a [(1000000, 24), (1000001, 1000), (1000002, 1001), (1000003, 1002)] rfl ⟨lr, trivial⟩ ⟨rr, rr, rr, rr, trivial⟩ rfl rfl ?_; rintro x rout ⟨rfl, rfl⟩; refine ⟨rfl, ?_⟩; conv => whnf) | (refine br_intro ?_ ?_ <;> intro hb <;> (try simp only [brs] at hb) <;> conv => whnf) | (refine RegX.rule (id := 13) hT rfl [] oXShJ108_13 (by decide +kernel) ?_; conv => whnf) | (refine RegX.rule (id := 19) hT rfl [] oXShJ108_19 (by decide +kernel) ?_; conv => whnf) | omega | (refine And.intro ?_ ?_; ((try dsimp only); first | omega | (refine szA rfl ?_; omega) | (refine szB rfl ?_; omega) | (unfold inI64; omega) | exact rfl | (simp only [List.toList_toArray, List.length_cons, List.length_nil]; omega) | (simp only [lns] at *; omega) | decide | (unfold inI64; decide)); conv => whnf) | decide | assumption)
 refine LoopX.freeze 1002 219 4 1 _ rfl ?_
 repeat' (first | (refine CallX.of s116t [(1000000, 24), (1000001, 1000), (1000002, 1001), (1000003, 1002), (30, 1100), (16, 1101), (21, 1102)] rfl ⟨lr, SV.le_int rfl, SV.le_int rfl, SV.le_int rfl, SV.le_int rfl, trivial⟩ ⟨rr, rr, rr, Res.le_fro rfl (fun i hi => by (have : i = 0 := by simp at hi; omega); subst this; rfl), trivial⟩ rfl rfl ?_; rintro x rout ⟨rfl, rfl⟩; refine ⟨rfl, ?_⟩; conv => whnf) | (refine CallX.of s116t [(1000000, 24), (1000001, 1000), (1000002, 1001), (1000003, 1002), (30, 1200), (16, 1201), (21, 1202)] rfl ⟨lr, SV.le_int rfl, SV.le_int rfl, SV.le_int rfl, SV.le_int rfl, trivial⟩ ⟨rr, rr, rr, Res.le_fro rfl (fun i hi => by (have : i = 0 := by simp at hi; omega); subst this; rfl), trivial⟩ rfl rfl ?_; rintro x rout ⟨rfl, rfl⟩; refine ⟨rfl, ?_⟩; conv => whnf) | (refine CallX.of s115b [(1000000, 1100), (1000001, 1101), (1000002, 1102)] rfl ⟨lr, trivial⟩ ⟨rr, rr, rr, trivial⟩ rfl rfl ?_; rintro x rout ⟨rfl, rfl⟩; refine ⟨rfl, ?_⟩; conv => whnf) | (refine LoopX.run hT (C := []) 18 rfl [0, 7, 8, 10] [] (fun _ _ h => h) (fun _ h => h) ?_; conv => whnf) | (refine LoopX.run hT (C := []) 26 rfl [0, 7, 8, 10, 11, 12, 13] [] (fun _ _ h => h) (fun _ h => h) ?_; conv => whnf) | (refine br_intro ?_ ?_ <;> intro hb <;> (try simp only [brs] at hb) <;> conv => whnf) | (refine RegX.rule (id := 13) hT rfl [] oXShJ108_13 (by decide +kernel) ?_; conv => whnf) | (refine RegX.rule (id := 19) hT rfl [] oXShJ108_19 (by decide +kernel) ?_; conv => whnf) | omega | (refine And.intro ?_ ?_; ((try dsimp only); first | omega | (refine szA rfl ?_; omega) | (refine szB rfl ?_; omega) | (unfold inI64; omega) | exact rfl | (simp only [List.toList_toArray, List.length_cons, List.length_nil]; omega) | (simp only [lns] at *; omega) | decide | (unfold inI64; decide)); conv => whnf) | decide | assumption)
 refine .freeze _ 106 67 3 _ _ rfl (.weak _ ?_)
 conv => whnf
 exact ⟨.tup [.d (movs [⟨[97], [98], 1⟩]), .d (.int .i64 0)], _, SV.le_tup ⟨SV.le_ro rfl (fun i hi => by (have : i = 0 := by simp at hi; omega); subst this; rfl), SV.le_int rfl, trivial⟩, ⟨rfl, rfl⟩, trivial⟩
theorem mov_eq {a b : Mov} : a = b ↔ a.a = b.a ∧ a.b = b.b ∧ a.many = b.many := by cases a; cases b; simp
instance : DecidableEq Mov := fun _ _ => decidable_of_iff _ mov_eq.symm
structure Pnl where
 key : List UInt8
 w : Int
 h : Int
 pr : Int
structure Mrk where
 pan : List UInt8
 kind : Int
 x : Int
 y : Int
 size : Int
structure Rul where
 near : Int
 slack : Int
 join : Int
 part : Int
theorem less_trans : ∀ {a b c : List UInt8}, Op.bytesLess a b = true → Op.bytesLess b c = true → Op.bytesLess a c = true := by
 intro a
 induction a with
 | nil => intro b c h1 h2; cases b <;> cases c <;> simp_all [Op.bytesLess]
 | cons x a ih =>
   intro b c h1 h2
   cases b with
   | nil => simp [Op.bytesLess] at h1
   | cons y b =>
     cases c with
     | nil => simp [Op.bytesLess] at h2
     | cons z c =>
       simp only [Op.bytesLess] at h1 h2 ⊢
       grind [UInt8.lt_trans]
theorem less_irr : ∀ (a : List UInt8), Op.bytesLess a a = false := by
 intro a
 induction a with
 | nil => rfl
 | cons x a ih => simp [Op.bytesLess, ih]
theorem SV.le_agg {l m : List SV} (h : argsLe0 l m) : SV.le (.agg l) (.agg m) := by
 obtain ⟨h1, h2⟩ := argsLe0_get h
 intro G β v hv
 cases hv with | agg _ vs hl hd =>
 refine .agg _ _ (hl.trans h1) (fun i y v hy hv => ?_)
 have hi : i < l.length := by rw [h1]; exact (List.getElem?_eq_some_iff.1 hy).1
 exact h2 i _ y (List.getElem?_eq_getElem hi) hy G β v (hd i _ v (List.getElem?_eq_getElem hi) hv)
def onRd (l : List Roa) (a b : List UInt8) (i : Nat) : Bool := (l.getD i rd0).a == a && (l.getD i rd0).b == b
def roadX (l : List Roa) (a b : List UInt8) : Int := ixF (onRd l a b) l.length
theorem endsC_self (a b : List UInt8) : endsC a b a b = 0 := by
 unfold endsC
 simp [firstE, cmpS, less_irr]
theorem rds_all {l : List Roa} (h : rdsE l = 0) : l.length ≤ 2500 ∧ ∀ i, i < l.length → rdE l i = 0 := by
 unfold rdsE at h
 split at h
 · cases h
 · exact ⟨by omega, firstAt_all h⟩
def endLt (a b c d : List UInt8) : Prop := Op.bytesLess a c = true ∨ (a = c ∧ Op.bytesLess b d = true)
theorem endLt_of {a b c d : List UInt8} (h : endsC a b c d < 0) : endLt a b c d := by
 unfold endsC at h
 simp only [firstE, cmpS] at h
 unfold endLt
 by_cases q : Op.bytesLess a c = true
 · exact .inl q
 · have q' : Op.bytesLess a c = false := by simpa using q
   by_cases e : a = c
   · subst e
     refine .inr ⟨rfl, ?_⟩
     simp only [less_irr] at h
     grind
   · have := less_tri _ _ q' e
     simp [q', this] at h
theorem endLt_trans {a b c d e f : List UInt8} (h : endLt a b c d) (k : endLt c d e f) : endLt a b e f := by
 unfold endLt at *
 rcases h with h | ⟨rfl, h⟩ <;> rcases k with k | ⟨rfl, k⟩
 · exact .inl (less_trans h k)
 · exact .inl h
 · exact .inl k
 · exact .inr ⟨rfl, less_trans h k⟩
theorem rd_bd {l : List Roa} (h : rdsE l = 0) {i : Nat} (hi : i < l.length) : (0 ≤ (l.getD i rd0).car ∧ (l.getD i rd0).car ≤ 1000000) ∧ 0 ≤ (l.getD i rd0).ride ∧ (l.getD i rd0).ride ≤ 1000000 := by
 have := (rds_all h).2 i hi
 unfold rdE at this
 simp only at this
 grind
theorem roadX_bd (l : List Roa) (a b : List UInt8) : -1 ≤ roadX l a b ∧ roadX l a b < l.length ∧ (0 ≤ roadX l a b → onRd l a b (roadX l a b).toNat = true) := ixF_bd
def roadO (l : List Roa) (a b : List UInt8) : Option Roa := if 0 ≤ roadX l a b then some (l.getD (roadX l a b).toNat rd0) else none
theorem roadO_bd {l : List Roa} (h : rdsE l = 0) {a b : List UInt8} {x : Roa} (hx : roadO l a b = some x) : (0 ≤ x.car ∧ x.car ≤ 1000000) ∧ 0 ≤ x.ride ∧ x.ride ≤ 1000000 := by
 unfold roadO at hx
 have := roadX_bd l a b
 split at hx
 · cases hx
   exact rd_bd h (by omega)
 · cases hx
def rideO (l : List Roa) (a b : List UInt8) : Option Int := if a = b then some 0 else (roadO l a b).map (·.ride)
def makeO (l : List Roa) (a : List UInt8) (m : Mov) : Option Int := (rideO l a m.a).bind fun n => (roadO l m.a m.b).map fun r => n + r.car
abbrev RPt := Option (List UInt8 × Int)
def stepR (l : List Roa) (m : List Mov) (st : RPt) (k : Int) : RPt := st.bind fun p => (makeO l p.1 (m.getD k.toNat mv0)).map fun n => ((m.getD k.toNat mv0).b, p.2 + n)
def partR (l : List Roa) (start : List UInt8) (m : List Mov) (o : List Int) : RPt := o.foldl (stepR l m) (some (start, 0))
def roundO (l : List Roa) (start : List UInt8) (m : List Mov) (o : List Int) : Option Int := (partR l start m o).bind fun p => (rideO l p.1 start).map fun n => p.2 + n
abbrev RSt := List Int × Int
def rs (l : List Roa) (start : List UInt8) (m : List Mov) : Nat → List Int → RSt → RSt
 | 0, o, st => match roundO l start m o with
   | some n => if 0 ≤ st.2 ∧ st.2 ≤ n then st else (o, n)
   | none => st
 | d + 1, o, st => (List.range m.length).foldl (fun (st : RSt) (k : Nat) => if o.contains (k : Int) then st else rs l start m d (o ++ [(k : Int)]) st) st
theorem z113 (l : List Roa) (hl : l.length ≤ 2^40) (a b : List UInt8) : FSpec Tryz.prog 221 [.d (roas l), .d (.str a), .d (.str b)] [] (fun y r => y = .tup [.agg ((rdF ((roadO l a b).getD rd0)).map .d), .d (.bool (roadO l a b).isSome)] ∧ r = []) := by
 refine spec_of hT (C := []) Tryz.func221 rfl Tryz.call221 rfl rfl rfl ?_
 conv => whnf
 refine LoopX.rule hT (C := []) (ι := Nat) (fun i => i ≤ l.length ∧ ∀ j, j < i → onRd l a b j = false) (fun i => mkSt [(1, .d (.str a)), (2, .d (.str b)), (6, .ptr 6 0), (10, .d (roas l)), (11, .d (.int .i64 l.length)), (12, .d (.int .i64 i))] [(6, .cells 153 ((rdF rd0).map .d))]) (fun i => l.length - i) 0 ⟨by omega, by omega⟩ (by (refine Entails.mk' [(6, 6)] rfl rfl ?_ ?_ <;> repeat' (first | exact True.intro | exact lr | exact rr | exact SV.le_int (by omega) | exact SV.le_any _ | refine And.intro ?_ ?_)); done) ?_
 rintro i ⟨p1, p2⟩
 have e1 : (i : Int).toNat = i := Int.toNat_natCast i
 conv => whnf
 repeat' (first | (refine br_intro ?_ ?_ <;> intro hb <;> (try simp only [brs] at hb) <;> conv => whnf) | omega | (refine And.intro ?_ ?_; ((try dsimp only); first | omega | (refine szA rfl ?_; omega) | (refine szB rfl ?_; omega) | (unfold inI64; omega) | exact rfl | (simp only [List.toList_toArray, List.length_cons, List.length_nil]; omega) | (simp only [lns] at *; omega) | decide | (unfold inI64; decide)); conv => whnf) | decide | assumption)
 all_goals first
  | exact ⟨i + 1, ⟨by omega, all_step p2 (by clear p2; unfold onRd; grind)⟩, by omega, (by (refine Entails.mk' [(6, 6)] rfl rfl ?_ ?_ <;> repeat' (first | exact True.intro | exact lr | exact rr | exact SV.le_int (by omega) | exact SV.le_any _ | refine And.intro ?_ ?_)); done)⟩
  | (have h1 : roadX l a b = i := ixF_hit (by omega) p2 (by clear p2; unfold onRd; grind)
     have h2 : roadO l a b = some (l.getD i rd0) := by unfold roadO; rw [if_pos (by omega), h1]; rfl
     refine .ret _ ?_
     (conv => whnf)
     refine ⟨_, ⟨?_, rfl⟩, trivial⟩
     conv => lhs; whnf
     rw [h2]; rfl)
  | (have : i = l.length := by omega
     subst this
     have h1 : roadX l a b = -1 := ixF_none p2
     have h2 : roadO l a b = none := by unfold roadO; rw [if_neg (by omega)]
     refine .ret _ ?_
     (conv => whnf)
     refine ⟨_, ⟨?_, rfl⟩, trivial⟩
     conv => lhs; whnf
     rw [h2]; rfl)
end Go.Proofs.YtgeakdcbpjmkbaaGreatDoor
namespace Go.Proofs
open Go.Shelf
def Tryz.lays106_ren : Go.Shelf.Ren := ⟨fun | 106 => 118 | 213 => 186 | 265 => 234 | n => n, fun | 9 => 9 | 3 => 3 | n => n, fun | n => n⟩
theorem Tryz.lays106 : Go.Proofs.Lays.n106 Tryz.prog Tryz.lays106_ren := {
 mixed := by kernel_rfl
 f106 := Tryz.func118.trans (congrArg some (by kernel_rfl))
 f213 := Tryz.func186.trans (congrArg some (by kernel_rfl))
 f265 := Tryz.func234.trans (congrArg some (by kernel_rfl))
 t3 := Tryz.underlying3
 a3 := Tryz.isAgg3
 z3 := Tryz.sizeOf3
 v3 := Tryz.zeroValue3
 t9 := Tryz.underlying9
 a9 := Tryz.isAgg9
 z9 := Tryz.sizeOf9
 v9 := Tryz.zeroValue9 }
end Go.Proofs
set_option maxRecDepth 20000
namespace Go.Proofs.YtgeakdcbpjmkbaaGreatDoor
open Go Go.Eng Go.RowKit
theorem cmpB_S : ∀ (a b : List UInt8), Lib.compareBytes a b = cmpS a b := by
 intro a
 induction a with
 | nil => intro b; cases b <;> simp [Lib.compareBytes, cmpS, Op.bytesLess]
 | cons x a ih =>
   intro b
   cases b with
   | nil => simp [Lib.compareBytes, cmpS, Op.bytesLess]
   | cons y b =>
     have := ih b
     unfold cmpS at this ⊢
     simp only [Lib.compareBytes, Op.bytesLess]
     grind
theorem s190 (a b : List UInt8) : FSpec Tryz.prog 118 [.d (.str a), .d (.str b)] [] (fun x r => x = .d (.int .i64 (cmpS a b)) ∧ r = []) := by
 refine FSpec.ofBelow Tryz.call118 (fun G β w vs _ hl hd => ?_)
 match vs, hl with
 | [u, v], _ =>
   have hu := hd 0 _ _ rfl rfl
   have hv := hd 1 _ _ rfl rfl
   cases hu with | d _ _ hu => cases hu with | str _ =>
   cases hv with | d _ _ hv => cases hv with | str _ =>
   refine ⟨.int .i64 (Lib.compareBytes a b), fun G β => ?_, (Go.Proofs.Any.strings_Compare Go.Proofs.Tryz.lays106 ⟨a.toArray⟩ ⟨b.toArray⟩ w).mono ?_⟩
   · rw [← cmpB_S]; exact .d _ _ (.int _ _)
   · rintro e w' ⟨he, rfl⟩
     exact ⟨he, Below.refl _ _⟩
def oXMvA123_10 : List (Nat × List Nat) := [(0, []), (1, []), (2, []), (3, []), (4, [3]), (5, [3]), (6, []), (7, []), (8, []), (9, [3, 4, 5, 6, 7, 8]), (10, [3, 4, 5, 6, 7, 8, 9]), (11, [3, 4, 5, 6, 7, 8, 9]), (12, [3, 4, 5, 6, 7, 8]), (13, [3, 4, 5, 6, 7, 8]), (14, [3, 4, 5, 6, 7, 8]), (15, [3, 4, 5, 6, 7, 8, 9, 10, 11, 12, 13, 14]), (16, [3, 4, 5, 6, 7, 8, 9, 10, 11, 12, 13, 14]), (17, [3, 4, 5, 6, 7, 8, 9, 10, 11, 12, 13, 14, 15, 16]), (18, [3, 4, 5, 6, 7, 8, 9, 10, 11, 12, 13, 14, 15, 16]), (19, []), (20, []), (21, []), (22, [])]
def oXMvA35_10 : List (Nat × List Nat) := [(0, []), (1, []), (2, []), (3, []), (4, [3]), (5, [3]), (6, []), (7, []), (8, []), (9, [3, 4, 5, 6, 7, 8]), (10, [3, 4, 5, 6, 7, 8, 9]), (11, [3, 4, 5, 6, 7, 8, 9]), (12, [3, 4, 5, 6, 7, 8]), (13, [3, 4, 5, 6, 7, 8]), (14, [3, 4, 5, 6, 7, 8]), (15, [3, 4, 5, 6, 7, 8, 9, 10, 11, 12, 13, 14]), (16, [3, 4, 5, 6, 7, 8, 9, 10, 11, 12, 13, 14]), (17, [3, 4, 5, 6, 7, 8, 9, 10, 11, 12, 13, 14, 15, 16]), (18, [3, 4, 5, 6, 7, 8, 9, 10, 11, 12, 13, 14, 15, 16]), (19, []), (20, []), (21, []), (22, [])]
def oXMvA113_10 : List (Nat × List Nat) := [(0, []), (1, []), (2, []), (3, []), (4, [3]), (5, [3]), (6, []), (7, []), (8, []), (9, [3, 4, 5, 6, 7, 8]), (10, [3, 4, 5, 6, 7, 8, 9]), (11, [3, 4, 5, 6, 7, 8, 9]), (12, [3, 4, 5, 6, 7, 8]), (13, [3, 4, 5, 6, 7, 8]), (14, [3, 4, 5, 6, 7, 8]), (15, [3, 4, 5, 6, 7, 8, 9, 10, 11, 12, 13, 14]), (16, [3, 4, 5, 6, 7, 8, 9, 10, 11, 12, 13, 14]), (17, [3, 4, 5, 6, 7, 8, 9, 10, 11, 12, 13, 14, 15, 16]), (18, [3, 4, 5, 6, 7, 8, 9, 10, 11, 12, 13, 14, 15, 16]), (19, []), (20, []), (21, []), (22, [])]
def mvE (l : List Mov) (i : Nat) : Int :=
 let x := l.getD i mv0
 if isKeyB x.a = false ∨ isKeyB x.b = false then 5 else if x.a = x.b then 14 else if 0 < i ∧ 0 ≤ endsC (l.getD (i - 1) mv0).a (l.getD (i - 1) mv0).b x.a x.b then 7 else if ¬ (1 ≤ x.many ∧ x.many ≤ 20) then 1 else 0
def mvsE (l : List Mov) : Int := if 2500 < l.length then 2 else firstAt (mvE l) l.length
def mvK (x : Mov) : Prop := x.a.length ≤ 2^40 ∧ x.b.length ≤ 2^40
def mvOk (l : List Mov) : Prop := l.length ≤ 2^40 ∧ ∀ x ∈ l, mvK x
theorem z116 (l : List Mov) (hk : mvOk l) : FSpec Tryz.prog 123 [.d (movs l)] [] (fun x r => x = .d (.int .i64 (mvsE l)) ∧ r = []) := by
 refine spec_of hT (C := []) Tryz.func123 rfl Tryz.call123 rfl rfl rfl ?_
 conv => whnf
 refine br_intro (fun h0 => ?_) (fun h0 => ?_)
 · simp at h0
   conv => whnf
   refine .ret _ ?_
   conv => whnf
   refine ⟨[], ⟨?_, rfl⟩, trivial⟩
   conv => lhs; whnf
   unfold mvsE; rw [if_pos (by omega)]
 simp at h0
 conv => whnf
 refine LoopX.rule hT (C := []) (ι := Nat) (fun i => i ≤ l.length ∧ ∀ j, j < i → mvE l j = 0) (fun i => mkSt [(0, .d (movs l)), (8, .d (movs l)), (9, .d (.int .i64 l.length)), (10, .d (.int .i64 i))] []) (fun i => l.length - i) 0 ⟨by omega, by omega⟩ (by (refine Entails.mk' [] rfl rfl ?_ ?_ <;> repeat' (first | exact True.intro | exact lr | exact rr | exact SV.le_int (by omega) | exact SV.le_any _ | refine And.intro ?_ ?_)); done) ?_
 rintro i ⟨p1, p2⟩
 have hx : (i : Int) < l.length → mvK (l.getD (i : Int).toNat mv0) := fun hi => hk.2 _ (getD_mem (by omega))
 have e1 : (i : Int).toNat = i := Int.toNat_natCast i
 have hbad : ∀ e : Int, i < l.length → e ≠ 0 → mvE l i = e → mvsE l = e := fun e h h1 h2 => by
  unfold mvsE; rw [if_neg (by omega)]
  exact firstAt_eq h p2 h1 h2
 conv => whnf
 repeat' (first | (refine CallX.exact (s108 _ (hx (by omega)).1) rfl rfl ?_; rotate_right; conv => whnf) | (refine CallX.exact (s108 _ (hx (by omega)).2) rfl rfl ?_; rotate_right; conv => whnf) | (refine CallX.exact (s204 _ _ _ _) rfl rfl ?_; rotate_right; conv => whnf) | (refine CallX.exact (s119 _ _ _) rfl rfl ?_; rotate_right; conv => whnf) | (refine br_intro ?_ ?_ <;> intro hb <;> (try simp only [brs] at hb) <;> conv => whnf) | (refine RegX.rule (id := 10) hT rfl [] oXMvA123_10 (by decide +kernel) ?_; conv => whnf) | omega | (refine And.intro ?_ ?_; ((try dsimp only); first | omega | (refine szA rfl ?_; omega) | (refine szB rfl ?_; omega) | (unfold inI64; omega) | exact rfl | (simp only [List.toList_toArray, List.length_cons, List.length_nil]; omega) | (simp only [lns] at *; omega) | decide | (unfold inI64; decide)); conv => whnf) | decide | assumption)
 all_goals first
  | (refine ⟨i + 1, ⟨by omega, first_step p2 (by clear p2 hbad hk hx; simp only [e1, toNat_pred] at *; unfold mvE ; grind)⟩, by omega, (by (refine Entails.mk' [] rfl rfl ?_ ?_ <;> repeat' (first | exact True.intro | exact lr | exact rr | exact SV.le_int (by omega) | exact SV.le_any _ | refine And.intro ?_ ?_)); done)⟩)
  | (refine .ret _ ?_
     conv => whnf
     refine ⟨[], ⟨?_, rfl⟩, trivial⟩
     conv => lhs; whnf
     congr 2
     first
      | exact (hbad _ (by omega) (by decide) (by clear p2 hbad hk hx; simp only [e1, toNat_pred] at *; unfold mvE ; grind)).symm
      | (have : i = l.length := by omega
         subst this
         unfold mvsE; rw [if_neg (by omega), firstAt_zero p2]))
def cmpSL : List (List UInt8) → List (List UInt8) → Int
 | [], [] => 0
 | [], _ :: _ => -1
 | _ :: _, [] => 1
 | x :: xs, y :: ys => if cmpS x y ≠ 0 then cmpS x y else cmpSL xs ys
theorem z204 (l m : List (List UInt8)) (hl : l.length ≤ 2^40) (hm : m.length ≤ 2^40) : FSpec Tryz.prog 162 [.d (strs l), .d (strs m)] [] (fun x r => x = .d (.int .i64 (cmpSL l m)) ∧ r = []) := by
 refine spec_of hT (C := []) Tryz.func162 rfl Tryz.call162 rfl rfl rfl ?_
 conv => whnf
 refine LoopX.rule hT (C := []) (ι := Nat) (fun i => i ≤ l.length ∧ i ≤ m.length ∧ cmpSL l m = cmpSL (l.drop i) (m.drop i)) (fun i => mkSt [(0, .d (strs l)), (1, .d (strs m)), (9, .d (strs l)), (10, .d (.int .i64 l.length)), (11, .d (.int .i64 i))] []) (fun i => l.length - i) 0 ⟨by omega, by omega, by simp⟩ (by (refine Entails.mk' [] rfl rfl ?_ ?_ <;> repeat' (first | exact True.intro | exact lr | exact rr | exact SV.le_int (by omega) | exact SV.le_any _ | refine And.intro ?_ ?_)); done) ?_
 rintro i ⟨p1, p2, p3⟩
 have hd : i < l.length → l.drop i = l.getD i [] :: l.drop (i + 1) := fun hi => by rw [List.drop_eq_getElem_cons hi, List.getD_eq_getElem?_getD, List.getElem?_eq_getElem hi]; rfl
 have hd2 : i < m.length → m.drop i = m.getD i [] :: m.drop (i + 1) := fun hi => by rw [List.drop_eq_getElem_cons hi, List.getD_eq_getElem?_getD, List.getElem?_eq_getElem hi]; rfl
 have e1 : (i : Int).toNat = i := Int.toNat_natCast i
 conv => whnf
 repeat' (first | (refine CallX.exact (s184 _ _) rfl rfl ?_; rotate_right; conv => whnf) | (refine br_intro ?_ ?_ <;> intro hb <;> (try simp only [brs] at hb) <;> conv => whnf) | omega | (refine And.intro ?_ ?_; ((try dsimp only); first | omega | (refine szA rfl ?_; omega) | (refine szB rfl ?_; omega) | (unfold inI64; omega) | exact rfl | (simp only [List.toList_toArray, List.length_cons, List.length_nil]; omega) | (simp only [lns] at *; omega) | decide | (unfold inI64; decide)); conv => whnf) | decide | assumption)
 · refine .ret _ ?_
   conv => whnf
   refine ⟨[], ⟨?_, rfl⟩, trivial⟩
   conv => lhs; whnf
   congr 2
   rw [p3, hd (by omega), List.drop_eq_nil_iff.2 (by omega : m.length ≤ i)]; rfl
 · refine .ret _ ?_
   conv => whnf
   refine ⟨[], ⟨?_, rfl⟩, trivial⟩
   conv => lhs; whnf
   congr 2
   rw [p3, hd (by omega), hd2 (by omega), cmpSL, if_pos (by simpa using hb)]; simp only [e1]
 · refine ⟨i + 1, ⟨by omega, by omega, ?_⟩, by omega, (by (refine Entails.mk' [] rfl rfl ?_ ?_ <;> repeat' (first | exact True.intro | exact lr | exact rr | exact SV.le_int (by omega) | exact SV.le_any _ | refine And.intro ?_ ?_)); done)⟩
   rw [p3, hd (by omega), hd2 (by omega), cmpSL, if_neg (by simpa using hb)]
 · refine .ret _ ?_
   conv => whnf
   refine ⟨[], ⟨?_, rfl⟩, trivial⟩
   conv => lhs; whnf
   congr 2
   have hm : i < m.length := by omega
   rw [p3, hd2 hm, List.drop_eq_nil_iff.2 (by omega : l.length ≤ i)]; rfl
 · refine .ret _ ?_
   conv => whnf
   refine ⟨[], ⟨?_, rfl⟩, trivial⟩
   conv => lhs; whnf
   congr 2
   rw [p3, List.drop_eq_nil_iff.2 (by omega : m.length ≤ i), List.drop_eq_nil_iff.2 (by omega : l.length ≤ i)]; rfl
theorem z108 (a b c d : List UInt8) : FSpec Tryz.prog 124 [.d (.str a), .d (.str b), .d (.str c), .d (.str d)] [] (fun x r => x = .d (.int .i64 (endsC a b c d)) ∧ r = []) := by
 have h := z204 [a, b] [c, d] (by simp) (by simp)
 rw [show cmpSL [a, b] [c, d] = endsC a b c d from by unfold endsC; simp only [cmpSL, firstE]; by_cases h1 : cmpS a c = 0 <;> by_cases h2 : cmpS b d = 0 <;> simp [h1, h2]] at h
 refine spec_of hT (C := []) Tryz.func124 rfl Tryz.call124 rfl rfl rfl ?_
 conv => whnf
 repeat' (first | (refine CallX.pure h ⟨SV.le_lit (by rfl) (by rfl), SV.le_lit (by rfl) (by rfl), trivial⟩ rfl ?_; conv => whnf) | (refine br_intro ?_ ?_ <;> intro hb <;> (try simp only [brs] at hb) <;> conv => whnf) | omega | (refine And.intro ?_ ?_; ((try dsimp only); first | omega | (refine szA rfl ?_; omega) | (refine szB rfl ?_; omega) | (unfold inI64; omega) | exact rfl | (simp only [List.toList_toArray, List.length_cons, List.length_nil]; omega) | (simp only [lns] at *; omega) | decide | (unfold inI64; decide)); conv => whnf) | decide | assumption)
 refine .ret _ ?_
 conv => whnf
 refine ⟨[], ⟨?_, rfl⟩, trivial⟩
 conv => lhs; whnf
theorem z25 (l : List Mov) (hk : mvOk l) : FSpec Tryz.prog 35 [.d (movs l)] [] (fun x r => x = .d (.int .i64 (mvsE l)) ∧ r = []) := by
 refine spec_of hT (C := []) Tryz.func35 rfl Tryz.call35 rfl rfl rfl ?_
 conv => whnf
 refine br_intro (fun h0 => ?_) (fun h0 => ?_)
 · simp at h0
   conv => whnf
   refine .ret _ ?_
   conv => whnf
   refine ⟨[], ⟨?_, rfl⟩, trivial⟩
   conv => lhs; whnf
   unfold mvsE; rw [if_pos (by omega)]
 simp at h0
 conv => whnf
 refine LoopX.rule hT (C := []) (ι := Nat) (fun i => i ≤ l.length ∧ ∀ j, j < i → mvE l j = 0) (fun i => mkSt [(0, .d (movs l)), (8, .d (movs l)), (9, .d (.int .i64 l.length)), (10, .d (.int .i64 i))] []) (fun i => l.length - i) 0 ⟨by omega, by omega⟩ (by (refine Entails.mk' [] rfl rfl ?_ ?_ <;> repeat' (first | exact True.intro | exact lr | exact rr | exact SV.le_int (by omega) | exact SV.le_any _ | refine And.intro ?_ ?_)); done) ?_
 rintro i ⟨p1, p2⟩
 have hx : (i : Int) < l.length → mvK (l.getD (i : Int).toNat mv0) := fun hi => hk.2 _ (getD_mem (by omega))
 have e1 : (i : Int).toNat = i := Int.toNat_natCast i
 have hbad : ∀ e : Int, i < l.length → e ≠ 0 → mvE l i = e → mvsE l = e := fun e h h1 h2 => by
  unfold mvsE; rw [if_neg (by omega)]
  exact firstAt_eq h p2 h1 h2
 conv => whnf
 repeat' (first | (refine CallX.exact (s21 _ (hx (by omega)).1) rfl rfl ?_; rotate_right; conv => whnf) | (refine CallX.exact (s21 _ (hx (by omega)).2) rfl rfl ?_; rotate_right; conv => whnf) | (refine CallX.exact (z108 _ _ _ _) rfl rfl ?_; rotate_right; conv => whnf) | (refine CallX.exact (s109 _ _ _) rfl rfl ?_; rotate_right; conv => whnf) | (refine br_intro ?_ ?_ <;> intro hb <;> (try simp only [brs] at hb) <;> conv => whnf) | (refine RegX.rule (id := 10) hT rfl [] oXMvA35_10 (by decide +kernel) ?_; conv => whnf) | omega | (refine And.intro ?_ ?_; ((try dsimp only); first | omega | (refine szA rfl ?_; omega) | (refine szB rfl ?_; omega) | (unfold inI64; omega) | exact rfl | (simp only [List.toList_toArray, List.length_cons, List.length_nil]; omega) | (simp only [lns] at *; omega) | decide | (unfold inI64; decide)); conv => whnf) | decide | assumption)
 all_goals first
  | (refine ⟨i + 1, ⟨by omega, first_step p2 (by clear p2 hbad hk hx; simp only [e1, toNat_pred] at *; unfold mvE ; grind)⟩, by omega, (by (refine Entails.mk' [] rfl rfl ?_ ?_ <;> repeat' (first | exact True.intro | exact lr | exact rr | exact SV.le_int (by omega) | exact SV.le_any _ | refine And.intro ?_ ?_)); done)⟩)
  | (refine .ret _ ?_
     conv => whnf
     refine ⟨[], ⟨?_, rfl⟩, trivial⟩
     conv => lhs; whnf
     congr 2
     first
      | exact (hbad _ (by omega) (by decide) (by clear p2 hbad hk hx; simp only [e1, toNat_pred] at *; unfold mvE ; grind)).symm
      | (have : i = l.length := by omega
         subst this
         unfold mvsE; rw [if_neg (by omega), firstAt_zero p2]))
theorem z21 (l : List Roa) (hk : rdOk l) : FSpec Tryz.prog 113 [.d (roas l)] [] (fun x r => x = .d (.int .i64 (rdsE l)) ∧ r = []) := by
 refine spec_of hT (C := []) Tryz.func113 rfl Tryz.call113 rfl rfl rfl ?_
 conv => whnf
 refine br_intro (fun h0 => ?_) (fun h0 => ?_)
 · simp at h0
   conv => whnf
   refine .ret _ ?_
   conv => whnf
   refine ⟨[], ⟨?_, rfl⟩, trivial⟩
   conv => lhs; whnf
   unfold rdsE; rw [if_pos (by omega)]
 simp at h0
 conv => whnf
 refine LoopX.rule hT (C := []) (ι := Nat) (fun i => i ≤ l.length ∧ ∀ j, j < i → rdE l j = 0) (fun i => mkSt [(0, .d (roas l)), (8, .d (roas l)), (9, .d (.int .i64 l.length)), (10, .d (.int .i64 i))] []) (fun i => l.length - i) 0 ⟨by omega, by omega⟩ (by (refine Entails.mk' [] rfl rfl ?_ ?_ <;> repeat' (first | exact True.intro | exact lr | exact rr | exact SV.le_int (by omega) | exact SV.le_any _ | refine And.intro ?_ ?_)); done) ?_
 rintro i ⟨p1, p2⟩
 have hx : (i : Int) < l.length → rdK (l.getD (i : Int).toNat rd0) := fun hi => hk.2 _ (getD_mem (by omega))
 have e1 : (i : Int).toNat = i := Int.toNat_natCast i
 have hbad : ∀ e : Int, i < l.length → e ≠ 0 → rdE l i = e → rdsE l = e := fun e h h1 h2 => by
  unfold rdsE; rw [if_neg (by omega)]
  exact firstAt_eq h p2 h1 h2
 conv => whnf
 repeat' (first | (refine CallX.exact (s21 _ (hx (by omega)).1) rfl rfl ?_; rotate_right; conv => whnf) | (refine CallX.exact (s21 _ (hx (by omega)).2) rfl rfl ?_; rotate_right; conv => whnf) | (refine CallX.exact (z108 _ _ _ _) rfl rfl ?_; rotate_right; conv => whnf) | (refine CallX.exact (s109 _ _ _) rfl rfl ?_; rotate_right; conv => whnf) | (refine br_intro ?_ ?_ <;> intro hb <;> (try simp only [brs] at hb) <;> conv => whnf) | (refine RegX.rule (id := 10) hT rfl [] oXMvA113_10 (by decide +kernel) ?_; conv => whnf) | omega | (refine And.intro ?_ ?_; ((try dsimp only); first | omega | (refine szA rfl ?_; omega) | (refine szB rfl ?_; omega) | (unfold inI64; omega) | exact rfl | (simp only [List.toList_toArray, List.length_cons, List.length_nil]; omega) | (simp only [lns] at *; omega) | decide | (unfold inI64; decide)); conv => whnf) | decide | assumption)
 all_goals first
  | (refine ⟨i + 1, ⟨by omega, first_step p2 (by clear p2 hbad hk hx; simp only [e1, toNat_pred] at *; unfold rdE ; grind)⟩, by omega, (by (refine Entails.mk' [] rfl rfl ?_ ?_ <;> repeat' (first | exact True.intro | exact lr | exact rr | exact SV.le_int (by omega) | exact SV.le_any _ | refine And.intro ?_ ?_)); done)⟩)
  | (refine .ret _ ?_
     conv => whnf
     refine ⟨[], ⟨?_, rfl⟩, trivial⟩
     conv => lhs; whnf
     congr 2
     first
      | exact (hbad _ (by omega) (by decide) (by clear p2 hbad hk hx; simp only [e1, toNat_pred] at *; unfold rdE ; grind)).symm
      | (have : i = l.length := by omega
         subst this
         unfold rdsE; rw [if_neg (by omega), firstAt_zero p2]))
theorem z20 (l : List Ned) (hk : ndOk l) : FSpec Tryz.prog 112 [.d (neds l)] [] (fun x r => x = .d (.int .i64 (ndsE l)) ∧ r = []) := by
 refine spec_of hT (C := []) Tryz.func112 rfl Tryz.call112 rfl rfl rfl ?_
 conv => whnf
 refine br_intro (fun h0 => ?_) (fun h0 => ?_)
 · simp at h0
   conv => whnf
   refine .ret _ ?_
   conv => whnf
   refine ⟨[], ⟨?_, rfl⟩, trivial⟩
   conv => lhs; whnf
   unfold ndsE; rw [if_pos (by omega)]
 simp at h0
 conv => whnf
 refine LoopX.rule hT (C := []) (ι := Nat) (fun i => i ≤ l.length ∧ ∀ j, j < i → ndE l j = 0) (fun i => mkSt [(3, .d (.str (if i = 0 then [] else (l.getD (i - 1) nd0).st))), (9, .d (neds l)), (10, .d (.int .i64 l.length)), (11, .d (.int .i64 i))] []) (fun i => l.length - i) 0 ⟨by omega, by omega⟩ (by (refine Entails.mk' [] rfl rfl ?_ ?_ <;> repeat' (first | exact True.intro | exact lr | exact rr | exact SV.le_int (by omega) | exact SV.le_any _ | refine And.intro ?_ ?_)); done) ?_
 rintro i ⟨p1, p2⟩
 have hx : (i : Int) < l.length → ndK (l.getD (i : Int).toNat nd0) := fun hi => hk.2 _ (getD_mem (by omega))
 have e1 : (i : Int).toNat = i := Int.toNat_natCast i
 have hbad : ∀ e : Int, i < l.length → e ≠ 0 → ndE l i = e → ndsE l = e := fun e h h1 h2 => by
  unfold ndsE; rw [if_neg (by omega)]
  exact firstAt_eq h p2 h1 h2
 conv => whnf
 repeat' (first | (refine CallX.exact (s21 _ (hx (by omega))) rfl rfl ?_; rotate_right; conv => whnf) | (refine CallX.exact (s109 _ _ _) rfl rfl ?_; rotate_right; conv => whnf) | (refine br_intro ?_ ?_ <;> intro hb <;> (try simp only [brs] at hb) <;> conv => whnf) | omega | (refine And.intro ?_ ?_; ((try dsimp only); first | omega | (refine szA rfl ?_; omega) | (refine szB rfl ?_; omega) | (unfold inI64; omega) | exact rfl | (simp only [List.toList_toArray, List.length_cons, List.length_nil]; omega) | (simp only [lns] at *; omega) | decide | (unfold inI64; decide)); conv => whnf) | decide | assumption)
 all_goals first
  | (refine ⟨i + 1, ⟨by omega, first_step p2 (by clear p2 hbad hk hx; simp only [e1] at *; unfold ndE strLe; grind)⟩, by omega, Entails.mk' [] rfl rfl ⟨(by rw [show (if i + 1 = 0 then ([] : List UInt8) else (l.getD (i + 1 - 1) nd0).st) = (l.getD (i : Int).toNat nd0).st from by rw [if_neg (by omega), e1, Nat.add_sub_cancel]]; exact lr), lr, lr, lr, trivial⟩ trivial⟩)
  | (refine .ret _ ?_
     conv => whnf
     refine ⟨[], ⟨?_, rfl⟩, trivial⟩
     conv => lhs; whnf
     congr 2
     first
      | exact (hbad _ (by omega) (by decide) (by clear p2 hbad hk hx; simp only [e1] at *; unfold ndE strLe; grind [isKey_nil, less_nil])).symm
      | (have : i = l.length := by omega
         subst this
         unfold ndsE; rw [if_neg (by omega), firstAt_zero p2]))
end Go.Proofs.YtgeakdcbpjmkbaaGreatDoor
namespace Go.Proofs
open Go.Shelf
def Tryz.lays144_ren : Go.Shelf.Ren := ⟨fun | 144 => 127 | 143 => 189 | 219 => 235 | 217 => 275 | 225 => 276 | 224 => 277 | 267 => 278 | 266 => 300 | 314 => 301 | n => n, fun | 9 => 9 | 4 => 4 | 3 => 3 | 5 => 5 | 46 => 230 | 146 => 288 | 51 => 279 | n => n, fun | 1 => 0 | n => n⟩
theorem Tryz.lays144 : Go.Proofs.Lays.n144 Tryz.prog Tryz.lays144_ren := {
 mixed := by kernel_rfl
 f143 := Tryz.func189.trans (congrArg some (by kernel_rfl))
 f144 := Tryz.func127.trans (congrArg some (by kernel_rfl))
 f217 := Tryz.func275.trans (congrArg some (by kernel_rfl))
 f219 := Tryz.func235.trans (congrArg some (by kernel_rfl))
 f224 := Tryz.func277.trans (congrArg some (by kernel_rfl))
 f225 := Tryz.func276.trans (congrArg some (by kernel_rfl))
 f266 := Tryz.func300.trans (congrArg some (by kernel_rfl))
 f267 := Tryz.func278.trans (congrArg some (by kernel_rfl))
 f314 := Tryz.func301.trans (congrArg some (by kernel_rfl))
 t3 := Tryz.underlying3
 a3 := Tryz.isAgg3
 z3 := Tryz.sizeOf3
 v3 := Tryz.zeroValue3
 t4 := Tryz.underlying4
 a4 := Tryz.isAgg4
 z4 := Tryz.sizeOf4
 v4 := Tryz.zeroValue4
 t5 := Tryz.underlying5
 a5 := Tryz.isAgg5
 z5 := Tryz.sizeOf5
 v5 := Tryz.zeroValue5
 t9 := Tryz.underlying9
 a9 := Tryz.isAgg9
 z9 := Tryz.sizeOf9
 v9 := Tryz.zeroValue9
 t46 := Tryz.underlying230
 a46 := Tryz.isAgg230
 z46 := Tryz.sizeOf230
 v46 := Tryz.zeroValue230
 t51 := Tryz.underlying279
 a51 := Tryz.isAgg279
 z51 := Tryz.sizeOf279
 v51 := Tryz.zeroValue279
 t146 := Tryz.underlying288
 a146 := Tryz.isAgg288
 z146 := Tryz.sizeOf288
 v146 := Tryz.zeroValue288
 g1 := by kernel_rfl }
end Go.Proofs
set_option maxRecDepth 20000
namespace Go.Proofs.YtgeakdcbpjmkbaaGreatDoor
open Go Go.Eng Go.Shelf
def oXTmA128_5 : List (Nat × List Nat) := [(0, []), (1, [0]), (2, [0]), (3, [0]), (4, [0, 1, 2, 3]), (5, [0, 1, 2, 3]), (6, [0, 1, 2, 3]), (7, [0, 1, 2, 3, 4, 5, 6]), (8, [0]), (9, [0]), (10, []), (11, [])]
def oXTmA130_5 : List (Nat × List Nat) := [(0, []), (1, [0]), (2, [0]), (3, [0]), (4, [0, 1, 2, 3]), (5, [0, 1, 2, 3]), (6, [0, 1, 2, 3]), (7, [0, 1, 2, 3, 4, 5, 6]), (8, [0]), (9, [0]), (10, []), (11, [])]
def tkMov (nf : List UInt8 → Int) (line : List UInt8) (l : List Mov) : Bool × List Mov :=
 bif wrdsOk (Lib.split line [32]) && decide ((Lib.split line [32]).length = 3) then
  (numOk ((Lib.split line [32]).getD 2 []), l ++ [⟨(Lib.split line [32]).getD 0 [], (Lib.split line [32]).getD 1 [], nf ((Lib.split line [32]).getD 2 [])⟩]) else (false, l)
def numR (s : List UInt8) : Int := bif badNum s then 0 else numN s
theorem lz128 (line : List UInt8) (l : List Mov) (h1 : line.length ≤ 2^20) (h2 : l.length ≤ 2^21) :
 FSpec Tryz.prog 128 [.d (.str line), .ptr 1000005 0] [(1000009, KX), (1000005, capC 58 1000003), (1000003, seqB 67 3 mvF mv0 l)] (fun x r => x = .d (.bool (tkMov numN line l).1) ∧ r = [(1000009, KX), (1000005, capC 58 46), (46, seqB 67 3 mvF mv0 (tkMov numN line l).2)]) := by
 have hsl := split_len line [32] (by decide)
 have hmem : ∀ i, ((Lib.split line [32]).getD i []).length ≤ 2^40 := fun i => by
  rcases Nat.lt_or_ge i (Lib.split line [32]).length with q | q
  · have := split_mem (getD_mem (x := []) q); omega
  · rw [List.getD_eq_getElem?_getD, List.getElem?_eq_none q]; simp
 have hN := lz129 ((Lib.split line [32]).getD 2 []) (hmem _)
 unfold tkMov
 generalize hW : Lib.split line [32] = W at hsl hmem hN
 have hWz := lz96 line (by omega)
 rw [hW] at hWz
 refine spec_of hT (C := []) Tryz.func128 rfl Tryz.call128 rfl rfl rfl ?_
 conv => whnf
 repeat' (first | (refine CallX.kn hWz rfl rfl rfl rfl ?_; conv => whnf) | (refine CallX.kn hN rfl rfl rfl rfl ?_; conv => whnf) | (refine br_intro ?_ ?_ <;> intro hb <;> (try simp only [brs] at hb) <;> conv => whnf) | (refine RegX.rule (id := 5) hT rfl [] oXTmA128_5 (by decide +kernel) ?_; conv => whnf) | omega | (refine And.intro ?_ ?_; ((try dsimp only); first | omega | (refine szA rfl ?_; omega) | (refine szB rfl ?_; omega) | (unfold inI64; omega) | exact rfl | (simp only [List.toList_toArray, List.length_cons, List.length_nil]; omega) | (simp only [lns] at *; omega) | decide | (unfold inI64; decide)); conv => whnf) | decide | assumption)
 · rw [hb, Bool.false_and, cond_false]
   refine .ent _ (mkSt [(3, .d (.bool false))] [(1000009, KX), (1000005, capC 58 46), (46, seqB 67 3 mvF mv0 l)]) (by (refine Entails.mk' [(1000009, 1000009), (1000005, 1000005), (46, 1000003)] rfl rfl ?_ ?_ <;> repeat' (first | exact True.intro | exact lr | exact rr | exact SV.le_int (by omega) | exact SV.le_any _ | refine And.intro ?_ ?_)); done) ?_
   refine .ret _ ?_
   conv => whnf
   exact ⟨[(1000009, KX), (1000005, capC 58 46), (46, seqB 67 3 mvF mv0 l)], ⟨rfl, rfl⟩, rr, rr, rr, trivial⟩
 · have hb' : decide (W.length = 3) = false := by simp; omega
   rw [hb', Bool.and_false, cond_false]
   refine .ent _ (mkSt [(3, .d (.bool false))] [(1000009, KX), (1000005, capC 58 46), (46, seqB 67 3 mvF mv0 l)]) (by (refine Entails.mk' [(1000009, 1000009), (1000005, 1000005), (46, 1000003)] rfl rfl ?_ ?_ <;> repeat' (first | exact True.intro | exact lr | exact rr | exact SV.le_int (by omega) | exact SV.le_any _ | refine And.intro ?_ ?_)); done) ?_
   refine .ret _ ?_
   conv => whnf
   exact ⟨[(1000009, KX), (1000005, capC 58 46), (46, seqB 67 3 mvF mv0 l)], ⟨rfl, rfl⟩, rr, rr, rr, trivial⟩
 · rename_i hb0
   have hb' : decide (W.length = 3) = true := by simp; omega
   rw [hb', hb0, Bool.and_true, cond_true]
   refine .ent _ (mkSt [(3, .d (.bool (numOk (W.getD 2 []))))] [(1000009, KX), (1000005, capC 58 46), (46, seqB 67 3 mvF mv0 (l ++ [⟨W.getD 0 [], W.getD 1 [], numN (W.getD 2 [])⟩]))]) (by (refine Entails.mk' [(1000009, 1000009), (1000005, 1000005), (46, 36)] rfl rfl ?_ ?_ <;> repeat' (first | exact True.intro | exact lr | exact rr | (exact Res.le_snocF rfl) | exact SV.le_int (by omega) | exact SV.le_any _ | refine And.intro ?_ ?_)); done) ?_
   refine .ret _ ?_
   conv => whnf
   exact ⟨[(1000009, KX), (1000005, capC 58 46), (46, seqB 67 3 mvF mv0 _)], ⟨rfl, rfl⟩, rr, rr, rr, trivial⟩
theorem lz130 (line : List UInt8) (l : List Mov) (h1 : line.length ≤ 2^20) (h2 : l.length ≤ 2^21) :
 FSpec Tryz.prog 130 [.d (.str line), .ptr 1000005 0] [(1000009, KX), (1000005, capC 58 1000003), (1000003, seqB 67 3 mvF mv0 l)] (fun x r => x = .d (.bool (tkMov numR line l).1) ∧ r = [(1000009, KX), (1000005, capC 58 46), (46, seqB 67 3 mvF mv0 (tkMov numR line l).2)]) := by
 have hsl := split_len line [32] (by decide)
 have hmem : ∀ i, ((Lib.split line [32]).getD i []).length ≤ 2^40 := fun i => by
  rcases Nat.lt_or_ge i (Lib.split line [32]).length with q | q
  · have := split_mem (getD_mem (x := []) q); omega
  · rw [List.getD_eq_getElem?_getD, List.getElem?_eq_none q]; simp
 have hN := lz131 ((Lib.split line [32]).getD 2 []) (hmem _)
 unfold tkMov
 generalize hW : Lib.split line [32] = W at hsl hmem hN
 have hWz := lz98 line (by omega)
 rw [hW] at hWz
 refine spec_of hT (C := []) Tryz.func130 rfl Tryz.call130 rfl rfl rfl ?_
 conv => whnf
 repeat' (first | (refine CallX.kn hWz rfl rfl rfl rfl ?_; conv => whnf) | (refine CallX.kn hN rfl rfl rfl rfl ?_; conv => whnf) | (refine br_intro ?_ ?_ <;> intro hb <;> (try simp only [brs] at hb) <;> conv => whnf) | (refine RegX.rule (id := 5) hT rfl [] oXTmA130_5 (by decide +kernel) ?_; conv => whnf) | omega | (refine And.intro ?_ ?_; ((try dsimp only); first | omega | (refine szA rfl ?_; omega) | (refine szB rfl ?_; omega) | (unfold inI64; omega) | exact rfl | (simp only [List.toList_toArray, List.length_cons, List.length_nil]; omega) | (simp only [lns] at *; omega) | decide | (unfold inI64; decide)); conv => whnf) | decide | assumption)
 · rw [hb, Bool.false_and, cond_false]
   refine .ent _ (mkSt [(3, .d (.bool false))] [(1000009, KX), (1000005, capC 58 46), (46, seqB 67 3 mvF mv0 l)]) (by (refine Entails.mk' [(1000009, 1000009), (1000005, 1000005), (46, 1000003)] rfl rfl ?_ ?_ <;> repeat' (first | exact True.intro | exact lr | exact rr | exact SV.le_int (by omega) | exact SV.le_any _ | refine And.intro ?_ ?_)); done) ?_
   refine .ret _ ?_
   conv => whnf
   exact ⟨[(1000009, KX), (1000005, capC 58 46), (46, seqB 67 3 mvF mv0 l)], ⟨rfl, rfl⟩, rr, rr, rr, trivial⟩
 · have hb' : decide (W.length = 3) = false := by simp; omega
   rw [hb', Bool.and_false, cond_false]
   refine .ent _ (mkSt [(3, .d (.bool false))] [(1000009, KX), (1000005, capC 58 46), (46, seqB 67 3 mvF mv0 l)]) (by (refine Entails.mk' [(1000009, 1000009), (1000005, 1000005), (46, 1000003)] rfl rfl ?_ ?_ <;> repeat' (first | exact True.intro | exact lr | exact rr | exact SV.le_int (by omega) | exact SV.le_any _ | refine And.intro ?_ ?_)); done) ?_
   refine .ret _ ?_
   conv => whnf
   exact ⟨[(1000009, KX), (1000005, capC 58 46), (46, seqB 67 3 mvF mv0 l)], ⟨rfl, rfl⟩, rr, rr, rr, trivial⟩
 · rename_i hb0
   have hb' : decide (W.length = 3) = true := by simp; omega
   rw [hb', hb0, Bool.and_true, cond_true]
   refine .ent _ (mkSt [(3, .d (.bool (numOk (W.getD 2 []))))] [(1000009, KX), (1000005, capC 58 46), (46, seqB 67 3 mvF mv0 (l ++ [⟨W.getD 0 [], W.getD 1 [], numR (W.getD 2 [])⟩]))]) (by (refine Entails.mk' [(1000009, 1000009), (1000005, 1000005), (46, 37)] rfl rfl ?_ ?_ <;> repeat' (first | exact True.intro | exact lr | exact rr | (exact Res.le_snocF rfl) | exact SV.le_int (by omega) | exact SV.le_any _ | refine And.intro ?_ ?_)); done) ?_
   refine .ret _ ?_
   conv => whnf
   exact ⟨[(1000009, KX), (1000005, capC 58 46), (46, seqB 67 3 mvF mv0 _)], ⟨rfl, rfl⟩, rr, rr, rr, trivial⟩
theorem tkMov_len (nf : List UInt8 → Int) (line : List UInt8) (l : List Mov) : (tkMov nf line l).2.length ≤ l.length + 1 := by
 unfold tkMov
 generalize (wrdsOk (Lib.split line [32]) && decide ((Lib.split line [32]).length = 3)) = c
 cases c <;> simp
theorem tkMov_ok (nf : List UInt8 → Int) (line : List UInt8) (l : List Mov) (h1 : line.length ≤ 2^40) (h : ∀ p ∈ l, mvK p) : ∀ p ∈ (tkMov nf line l).2, mvK p := by
 have hmem : ∀ i, ((Lib.split line [32]).getD i []).length ≤ 2^40 := fun i => by
  rcases Nat.lt_or_ge i (Lib.split line [32]).length with q | q
  · have := split_mem (getD_mem (x := []) q); omega
  · rw [List.getD_eq_getElem?_getD, List.getElem?_eq_none q]; simp
 unfold tkMov
 generalize (wrdsOk (Lib.split line [32]) && decide ((Lib.split line [32]).length = 3)) = c
 cases c with
 | false => exact h
 | true =>
   intro p hp
   rcases List.mem_append.1 hp with q | q
   · exact h p q
   · simp at q; subst q; exact ⟨hmem 0, hmem 1⟩
theorem mvOk_rd (nf : List UInt8 → Int) (text : List UInt8) (ht : text.length ≤ 2^20) : mvOk (lnsF (tkMov nf) (text.length + 1) 0 text []).2 :=
 ⟨by have := lnsF_len (tkMov_len nf) (text.length + 1) 0 text []; simp only [List.length_nil] at this; omega, lnsF_all (N := 2^40) (fun line l h1 h => tkMov_ok nf line l h1 h) _ _ _ _ (by omega) (by simp)⟩
theorem tk128 : Taker 128 58 67 3 mvF mv0 (tkMov numN) := ⟨tkMov_len _, lz128⟩
theorem tk130 : Taker 130 58 67 3 mvF mv0 (tkMov numR) := ⟨tkMov_len _, lz130⟩
theorem lnsF_agree {α : Type} {t1 t2 : List UInt8 → List α → Bool × List α} (h : ∀ line l, (t1 line l).1 = (t2 line l).1 ∧ ((t1 line l).1 = true → (t1 line l).2 = (t2 line l).2)) :
 ∀ (n a : Nat) (t : List UInt8) (l : List α), (lnsF t1 n a t l).1 = (lnsF t2 n a t l).1 ∧ ((lnsF t1 n a t l).1.2 = true → (lnsF t1 n a t l).2 = (lnsF t2 n a t l).2) := by
 intro n
 induction n with
 | zero => intro a t l; exact ⟨rfl, fun _ => rfl⟩
 | succ n ih =>
   intro a t l
   obtain ⟨e1, e2⟩ := h (Lib.cut t [10]).1 l
   unfold lnsF
   split
   · exact ⟨rfl, fun _ => rfl⟩
   · split
     · exact ⟨rfl, fun _ => rfl⟩
     · rw [← e1]
       split
       · exact ⟨rfl, fun q => by cases q⟩
       · rename_i hq
         rw [← e2 (by simpa using hq)]
         exact ih _ _ _
theorem redF_agree {α : Type} {t1 t2 : List UInt8 → List α → Bool × List α} (h : ∀ line l, (t1 line l).1 = (t2 line l).1 ∧ ((t1 line l).1 = true → (t1 line l).2 = (t2 line l).2)) (fe : List α → Int) (text : List UInt8) : redF t1 fe text = redF t2 fe text := by
 obtain ⟨e1, e2⟩ := lnsF_agree h (text.length + 1) 0 text []
 unfold redF
 rw [← e1]
 cases hq : (lnsF t1 (text.length + 1) 0 text []).1.2 with
 | false => rfl
 | true => rw [← e2 hq]
theorem tkMov_agree (line : List UInt8) (l : List Mov) : (tkMov numN line l).1 = (tkMov numR line l).1 ∧ ((tkMov numN line l).1 = true → (tkMov numN line l).2 = (tkMov numR line l).2) := by
 unfold tkMov
 generalize (wrdsOk (Lib.split line [32]) && decide ((Lib.split line [32]).length = 3)) = c
 cases c with
 | false => exact ⟨rfl, fun _ => rfl⟩
 | true => exact ⟨rfl, fun q => by simp only [cond_true] at q ⊢; rw [show numR ((Lib.split line [32]).getD 2 []) = _ from numR_ok q]⟩
theorem lz38 (text : List UInt8) (ht : text.length ≤ 2^20) : FSpec Tryz.prog 38 [.d (.str text)] kx (fun x r => x = .tup [.d (seqD 3 mvF mv0 (redF (tkMov numN) mvsE text).1), .d (.int .i64 (redF (tkMov numN) mvsE text).2.1), .d (.int .i64 (redF (tkMov numN) mvsE text).2.2)] ∧ r = kx) := by
 have hL := lnsNil (by decide) (lz75 tk128 text ht [] (by simp))
 have hlen := lnsF_len (tk := (tkMov numN)) (tk128).1 (text.length + 1) 0 text []
 have hok := mvOk_rd numN text ht
 unfold redF
 generalize lnsF (tkMov numN) (text.length + 1) 0 text [] = R at hL hlen hok ⊢
 obtain ⟨⟨ra, rb⟩, rl⟩ := R
 refine spec_of hT (C := []) Tryz.func38 rfl Tryz.call38 rfl rfl rfl ?_
 conv => whnf
 repeat' (first | (refine CallX.of hL [(1000005, 5), (1000009, 1000009), (40, 41)] rfl ⟨lr, lr, trivial⟩ ⟨rr, rr, trivial⟩ rfl rfl ?_; rintro x rout ⟨rfl, rfl⟩; refine ⟨rfl, ?_⟩; conv => whnf) | (refine CallX.freeze _ _ _ _ 41 67 3 _ _ rfl rfl ?_; refine CallX.pure (z116 rl hok) ⟨lr, trivial⟩ rfl ?_; conv => whnf) | (refine br_intro ?_ ?_ <;> intro hb <;> (try simp only [brs] at hb) <;> conv => whnf) | omega | (refine And.intro ?_ ?_; ((try dsimp only); first | omega | (refine szA rfl ?_; omega) | (refine szB rfl ?_; omega) | (unfold inI64; omega) | exact rfl | (simp only [List.toList_toArray, List.length_cons, List.length_nil]; omega) | (simp only [lns] at *; omega) | decide | (unfold inI64; decide)); conv => whnf) | decide | assumption)
 · have q : decide (200000 < text.length) = true := by simp; omega
   rw [q, cond_true]
   refine .weak _ ?_
   conv => whnf
   exact ⟨.tup [.d (seqD 3 mvF mv0 []), .d (.int .i64 0), .d (.int .i64 2)], kx, SV.le_tup ⟨SV.le_nilS, lr, lr, trivial⟩, ⟨rfl, rfl⟩, rr, trivial⟩
 · have q : decide (200000 < text.length) = false := by simp; omega
   simp only [q, hb, cond_false]
   refine .weak _ ?_
   conv => whnf
   exact ⟨.tup [.d (seqD 3 mvF mv0 []), .d (.int .i64 ra), .d (.int .i64 9)], kx, SV.le_tup ⟨SV.le_nilS, lr, lr, trivial⟩, ⟨rfl, rfl⟩, rr, trivial⟩
 · rename_i hb0 hb1
   have q : decide (200000 < text.length) = false := by simp; omega
   have q2 : decide (mvsE rl = 0) = false := by simp [hb]
   simp only [q, q2, hb1, cond_false, cond_true]
   refine .weak _ ?_
   conv => whnf
   exact ⟨.tup [.d (seqD 3 mvF mv0 []), .d (.int .i64 0), .d (.int .i64 (mvsE rl))], kx, SV.le_tup ⟨SV.le_nilS, lr, lr, trivial⟩, ⟨rfl, rfl⟩, rr, trivial⟩
 · rename_i hb0 hb1
   have q : decide (200000 < text.length) = false := by simp; omega
   have q2 : decide (mvsE rl = 0) = true := by simp [hb]
   simp only [q, q2, hb1, cond_false, cond_true]
   refine .ret _ ?_
   conv => whnf
   refine ⟨kx, ⟨congrArg SV.tup ?_, rfl⟩, rr, trivial⟩
   repeat' (refine cons_eq ?_ ?_)
   all_goals (conv => lhs; whnf)
   all_goals try (with_reducible rfl)
   all_goals rfl
theorem lz39 (text : List UInt8) (ht : text.length ≤ 2^20) : FSpec Tryz.prog 39 [.d (.str text)] kx (fun x r => x = .tup [.d (seqD 3 mvF mv0 (redF (tkMov numR) mvsE text).1), .d (.int .i64 (redF (tkMov numR) mvsE text).2.1), .d (.int .i64 (redF (tkMov numR) mvsE text).2.2)] ∧ r = kx) := by
 have hL := lnsNil (by decide) (lz80 tk130 text ht [] (by simp))
 have hlen := lnsF_len (tk := (tkMov numR)) (tk130).1 (text.length + 1) 0 text []
 have hok := mvOk_rd numR text ht
 unfold redF
 generalize lnsF (tkMov numR) (text.length + 1) 0 text [] = R at hL hlen hok ⊢
 obtain ⟨⟨ra, rb⟩, rl⟩ := R
 refine spec_of hT (C := []) Tryz.func39 rfl Tryz.call39 rfl rfl rfl ?_
 conv => whnf
 repeat' (first | (refine CallX.of hL [(1000005, 5), (1000009, 1000009), (40, 41)] rfl ⟨lr, lr, trivial⟩ ⟨rr, rr, trivial⟩ rfl rfl ?_; rintro x rout ⟨rfl, rfl⟩; refine ⟨rfl, ?_⟩; conv => whnf) | (refine CallX.freeze _ _ _ _ 41 67 3 _ _ rfl rfl ?_; refine CallX.pure (z25 rl hok) ⟨lr, trivial⟩ rfl ?_; conv => whnf) | (refine br_intro ?_ ?_ <;> intro hb <;> (try simp only [brs] at hb) <;> conv => whnf) | omega | (refine And.intro ?_ ?_; ((try dsimp only); first | omega | (refine szA rfl ?_; omega) | (refine szB rfl ?_; omega) | (unfold inI64; omega) | exact rfl | (simp only [List.toList_toArray, List.length_cons, List.length_nil]; omega) | (simp only [lns] at *; omega) | decide | (unfold inI64; decide)); conv => whnf) | decide | assumption)
 · have q : decide (200000 < text.length) = true := by simp; omega
   rw [q, cond_true]
   refine .weak _ ?_
   conv => whnf
   exact ⟨.tup [.d (seqD 3 mvF mv0 []), .d (.int .i64 0), .d (.int .i64 2)], kx, SV.le_tup ⟨SV.le_nilS, lr, lr, trivial⟩, ⟨rfl, rfl⟩, rr, trivial⟩
 · have q : decide (200000 < text.length) = false := by simp; omega
   simp only [q, hb, cond_false]
   refine .weak _ ?_
   conv => whnf
   exact ⟨.tup [.d (seqD 3 mvF mv0 []), .d (.int .i64 ra), .d (.int .i64 9)], kx, SV.le_tup ⟨SV.le_nilS, lr, lr, trivial⟩, ⟨rfl, rfl⟩, rr, trivial⟩
 · rename_i hb0 hb1
   have q : decide (200000 < text.length) = false := by simp; omega
   have q2 : decide (mvsE rl = 0) = false := by simp [hb]
   simp only [q, q2, hb1, cond_false, cond_true]
   refine .weak _ ?_
   conv => whnf
   exact ⟨.tup [.d (seqD 3 mvF mv0 []), .d (.int .i64 0), .d (.int .i64 (mvsE rl))], kx, SV.le_tup ⟨SV.le_nilS, lr, lr, trivial⟩, ⟨rfl, rfl⟩, rr, trivial⟩
 · rename_i hb0 hb1
   have q : decide (200000 < text.length) = false := by simp; omega
   have q2 : decide (mvsE rl = 0) = true := by simp [hb]
   simp only [q, q2, hb1, cond_false, cond_true]
   refine .ret _ ?_
   conv => whnf
   refine ⟨kx, ⟨congrArg SV.tup ?_, rfl⟩, rr, trivial⟩
   repeat' (refine cons_eq ?_ ?_)
   all_goals (conv => lhs; whnf)
   all_goals try (with_reducible rfl)
   all_goals rfl
end Go.Proofs.YtgeakdcbpjmkbaaGreatDoor
set_option maxRecDepth 20000
namespace Go.Proofs.YtgeakdcbpjmkbaaGreatDoor
open Go Go.Eng Go.Shelf Go.RowKit
def oXTmB36_5 : List (Nat × List Nat) := [(0, []), (1, [0]), (2, [0]), (3, [0]), (4, [0, 1, 2, 3]), (5, [0, 1, 2, 3]), (6, [0]), (7, [0]), (8, [0, 1, 2, 3, 4, 5, 6, 7]), (9, [0, 1, 2, 3, 4, 5, 6, 7]), (10, [0, 1, 2, 3, 4, 5, 6, 7]), (11, [0]), (12, [0]), (13, []), (14, [])]
theorem txS {α : Type} {pf : α → List Part} {l : List α} {N : Nat} (h : (txF pf l).length ≤ N) (i : Nat) : (txF pf (l.take i)).length ≤ N := by
 have e : txF pf l = txF pf (l.take i) ++ txF pf (l.drop i) := by
  unfold txF
  rw [← List.flatten_append, ← List.map_append, List.take_append_drop]
 rw [e, List.length_append] at h
 omega
theorem lz67 (s : List UInt8) (h : s.length ≤ 200000) : FSpec Tryz.prog 67 [.d (.str s)] [] (fun x r => x = .tup [.d (.str s), .d (.int .i64 0)] ∧ r = []) := by
 refine spec_of hT (C := []) Tryz.func67 rfl Tryz.call67 rfl rfl rfl ?_
 conv => whnf
 repeat' (first | (refine br_intro ?_ ?_ <;> intro hb <;> (try simp only [brs] at hb) <;> conv => whnf) | omega | (refine And.intro ?_ ?_; ((try dsimp only); first | omega | (refine szA rfl ?_; omega) | (refine szB rfl ?_; omega) | (unfold inI64; omega) | exact rfl | (simp only [List.toList_toArray, List.length_cons, List.length_nil]; omega) | (simp only [lns] at *; omega) | decide | (unfold inI64; decide)); conv => whnf) | decide | assumption)
 refine .ret _ ?_
 conv => whnf
 refine ⟨[], ⟨?_, rfl⟩, trivial⟩
 conv => lhs; whnf
 all_goals rfl
def movP (p : Mov) : List Part := [.inr p.a, .inr p.b, .inl p.many]
def mov1 (p : Mov) : Prop := (p.a.length ≤ 2^10 ∧ p.b.length ≤ 2^10) ∧ (-2^60 ≤ p.many ∧ p.many ≤ 2^60)
theorem mov1_ln {p : Mov} (h : mov1 p) : lnOk (movP p) := by
 obtain ⟨⟨h1, h2⟩, h3, h4⟩ := h
 refine ⟨by simp [movP], fun q hq => ?_⟩
 simp only [movP, List.mem_cons, List.not_mem_nil, or_false] at hq
 have e1 := itoa_len h3 h4
 rcases hq with rfl | rfl | rfl <;> simp only [partS] <;> omega
theorem mov1_ok {p : Mov} (h : mov1 p) : ∀ q ∈ movP p, partOk q := by
 obtain ⟨_, h3, h4⟩ := h
 intro q hq
 simp only [movP, List.mem_cons, List.not_mem_nil, or_false] at hq
 rcases hq with rfl | rfl | rfl <;> simp only [partOk] <;> first | trivial | omega
theorem mov1_0 : mov1 mv0 := by simp [mov1, mv0]
theorem lnB_mov (p : Mov) : lnB (movP p) = p.a ++ [32] ++ p.b ++ [32] ++ Lib.itoa p.many ++ [10] := by
 unfold lnB movP
 simp [partS, Lib.join_cons, Lib.joinTail]
theorem lz34 (l : List Mov) (hk : mvOk l) (hl : l.length ≤ 2^15 ∧ ∀ p ∈ l, mov1 p) (hsz : (txF movP l).length ≤ 200000) : FSpec Tryz.prog 34 [.d (seqD 3 mvF mv0 l)] kx (fun x r => x = .tup [.d (.str (if mvsE l = 0 then txF movP l else [])), .d (.int .i64 (mvsE l))] ∧ r = kx) := by
 have hq : ∀ i, mov1 (l.getD i mv0) := fun i => by
  rcases Nat.lt_or_ge i l.length with q | q
  · exact hl.2 _ (getD_mem q)
  · rw [List.getD_eq_getElem?_getD, List.getElem?_eq_none q]; exact mov1_0
 have hJ := fun i => lnOk_len (mov1_ln (hq i))
 have hC := fun i => zWJoin (movP (l.getD i mv0)) (by simp [movP]) (mov1_ok (hq i)) (by have := hJ i; omega)
 have hT' := fun i => txF_len (pf := movP) (l := l.take i) (fun p hp => mov1_ln (hl.2 p (List.mem_of_mem_take hp)))
 have hlen := hl.1
 refine spec_of hT (C := []) Tryz.func34 rfl Tryz.call34 rfl rfl rfl ?_
 conv => whnf
 repeat' (first | (refine CallX.exact (z116 l hk) rfl rfl ?_; rotate_right; conv => whnf) | (refine br_intro ?_ ?_ <;> intro hb <;> (try simp only [brs] at hb) <;> conv => whnf) | omega | (refine And.intro ?_ ?_; ((try dsimp only); first | omega | (refine szA rfl ?_; omega) | (refine szB rfl ?_; omega) | (unfold inI64; omega) | exact rfl | (simp only [List.toList_toArray, List.length_cons, List.length_nil]; omega) | (simp only [lns] at *; omega) | decide | (unfold inI64; decide)); conv => whnf) | decide | assumption)
 · refine .ret _ ?_
   conv => whnf
   refine ⟨kx, ⟨congrArg SV.tup ?_, rfl⟩, rr, trivial⟩
   repeat' (refine cons_eq ?_ ?_)
   all_goals (conv => lhs; whnf)
   all_goals try (with_reducible rfl)
   · rw [if_neg hb]
 have h0 := hb
 rw [h0, if_pos rfl]
 rcases Nat.eq_zero_or_pos l.length with h00 | h00
 · refine LoopX.unroll hT (C := []) (fun _ _ h => h) (fun _ h => h) ?_
   conv => whnf
   repeat' (first | (refine CallX.of zStrN [(1000001, 5)] rfl ⟨lr, trivial⟩ ⟨rr, trivial⟩ rfl rfl ?_; rintro x rout ⟨rfl, rfl⟩; refine ⟨rfl, ?_⟩; conv => whnf) | (refine CallX.exact (lz67 _ (by simp [txS hsz])) rfl rfl ?_; rotate_right; conv => whnf) | (refine br_intro ?_ ?_ <;> intro hb <;> (try simp only [brs] at hb) <;> conv => whnf) | omega | (refine And.intro ?_ ?_; ((try dsimp only); first | omega | (refine szA rfl ?_; omega) | (refine szB rfl ?_; omega) | (unfold inI64; omega) | exact rfl | (simp only [List.toList_toArray, List.length_cons, List.length_nil]; omega) | (simp only [lns] at *; omega) | decide | (unfold inI64; decide)); conv => whnf) | decide | assumption)
   have : l = [] := List.eq_nil_of_length_eq_zero h00
   subst this
   refine .ret _ ?_
   conv => whnf
   refine ⟨kx, ⟨congrArg SV.tup ?_, rfl⟩, rr, trivial⟩
   repeat' (refine cons_eq ?_ ?_)
   all_goals (conv => lhs; whnf)
   all_goals try (with_reducible rfl)
   all_goals rfl
 have hJ0 := hJ 0
 refine LoopX.unroll hT (C := []) (fun _ _ h => h) (fun _ h => h) ?_
 conv => whnf
 repeat' (first | (refine CallX.look (hC 0) [(1000009, 1000009)] rfl ⟨SV.le_lit rfl rfl, trivial⟩ ⟨⟨_, rfl, rfl⟩, trivial⟩ rfl rfl rfl ?_; conv => whnf) | (refine CallX.of (zWrN (lnB (movP (l.getD 0 mv0))) (by unfold lnB; have := hJ 0; simp only [List.length_append, List.length_singleton]; omega)) [(1000001, 5), (14, 40)] rfl ⟨lr, lr, trivial⟩ ⟨rr, trivial⟩ rfl rfl ?_; rintro x rout ⟨rfl, rfl⟩; refine ⟨rfl, ?_⟩; conv => whnf) | (refine br_intro ?_ ?_ <;> intro hb <;> (try simp only [brs] at hb) <;> conv => whnf) | omega | (refine And.intro ?_ ?_; ((try dsimp only); first | omega | (refine szA rfl ?_; omega) | (refine szB rfl ?_; omega) | (unfold inI64; omega) | exact rfl | (simp only [List.toList_toArray, List.length_cons, List.length_nil]; omega) | (simp only [lns] at *; omega) | decide | (unfold inI64; decide)); conv => whnf) | decide | assumption)
 have he1 : lnB (movP (l.getD 0 mv0)) = txF movP (l.take 1) := by rw [txF_snoc (d := mv0) h00]; simp [txF]
 refine LoopX.rule hT (C := []) (ι := Nat) (fun i => i ≤ l.length) (fun i => mkSt [(5, .ptr 5 0), (13, .d (seqD 3 mvF mv0 l)), (14, .d (.int .i64 l.length)), (15, .d (.int .i64 i))] [(1000009, KX), (5, .cells 98 [.ptr 5 0, .buf 40]), (40, bytB (txF movP (l.take i)))]) (fun i => l.length - i) 1 h00 ?_ ?_
 · rw [← he1]
   exact (by (refine Entails.mk' [(1000009, 1000009), (5, 5), (40, 40)] rfl rfl ?_ ?_ <;> repeat' (first | exact True.intro | exact lr | exact rr | exact SV.le_int (by omega) | exact SV.le_any _ | refine And.intro ?_ ?_)); done)
 intro i hi
 have hJi := hJ i
 have hTi := hT' i
 have hTl : (l.take i).length = i := by simp; omega
 rw [hTl] at hTi
 conv => whnf
 repeat' (first | (refine CallX.look (hC i) [(1000009, 1000009)] rfl ⟨SV.le_lit rfl rfl, trivial⟩ ⟨⟨_, rfl, rfl⟩, trivial⟩ rfl rfl rfl ?_; conv => whnf) | (refine CallX.of (zWrB (txF movP (l.take i)) (lnB (movP (l.getD i mv0))) (by unfold lnB; simp only [List.length_append, List.length_singleton]; omega)) [(1000001, 5), (1000002, 40), (14, 41)] rfl ⟨lr, lr, trivial⟩ ⟨rr, rr, trivial⟩ rfl rfl ?_; rintro x rout ⟨rfl, rfl⟩; refine ⟨rfl, ?_⟩; conv => whnf) | (refine CallX.of (zStrB (txF movP (l.take i)) (.ptr 1000001 0)) [(1000001, 5), (1000002, 40)] rfl ⟨lr, trivial⟩ ⟨rr, rr, trivial⟩ rfl rfl ?_; rintro x rout ⟨rfl, rfl⟩; refine ⟨rfl, ?_⟩; conv => whnf) | (refine CallX.exact (lz67 _ (by simp [txS hsz])) rfl rfl ?_; rotate_right; conv => whnf) | (refine br_intro ?_ ?_ <;> intro hb <;> (try simp only [brs] at hb) <;> conv => whnf) | omega | (refine And.intro ?_ ?_; ((try dsimp only); first | omega | (refine szA rfl ?_; omega) | (refine szB rfl ?_; omega) | (unfold inI64; omega) | exact rfl | (simp only [List.toList_toArray, List.length_cons, List.length_nil]; omega) | (simp only [lns] at *; omega) | decide | (unfold inI64; decide)); conv => whnf) | decide | assumption)
 · have hlt : i < l.length := by omega
   refine ⟨i + 1, by omega, by omega, ?_⟩
   rw [txF_snoc (d := mv0) hlt]
   exact (by (refine Entails.mk' [(1000009, 1000009), (5, 5), (40, 41)] rfl rfl ?_ ?_ <;> repeat' (first | exact True.intro | exact lr | exact rr | exact SV.le_int (by omega) | exact SV.le_any _ | refine And.intro ?_ ?_)); done)
 · have : i = l.length := by omega
   subst this
   refine .ret _ ?_
   conv => whnf
   refine ⟨kx, ⟨congrArg SV.tup ?_, rfl⟩, rr, trivial⟩
   repeat' (refine cons_eq ?_ ?_)
   all_goals (conv => lhs; whnf)
   all_goals try (with_reducible rfl)
   · rw [List.take_length]
theorem lz36 (l : List Mov) (hl : l.length ≤ 2^15 ∧ ∀ p ∈ l, mov1 p) : FSpec Tryz.prog 36 [.d (movs l)] kx (fun x r => x = .d (.str (txF movP l)) ∧ r = kx) := by
 have hq : ∀ i, mov1 (l.getD i mv0) := fun i => by
  rcases Nat.lt_or_ge i l.length with q | q
  · exact hl.2 _ (getD_mem q)
  · rw [List.getD_eq_getElem?_getD, List.getElem?_eq_none q]; exact mov1_0
 have hT' := fun i => txF_len (pf := movP) (l := l.take i) (fun p hp => mov1_ln (hl.2 p (List.mem_of_mem_take hp)))
 have hlen := hl.1
 refine spec_of hT (C := []) Tryz.func36 rfl Tryz.call36 rfl rfl rfl ?_
 conv => whnf
 refine LoopX.rule hT (C := []) (ι := Nat) (fun i => i ≤ l.length) (fun i => mkSt [(3, .d (.str (txF movP (l.take i)))), (6, .d (movs l)), (7, .d (.int .i64 l.length)), (8, .d (.int .i64 i))] [(1000009, KX)]) (fun i => l.length - i) 0 (by simp) (by (refine Entails.mk' [(1000009, 1000009)] rfl rfl ?_ ?_ <;> repeat' (first | exact True.intro | exact lr | exact rr | exact SV.le_int (by omega) | exact SV.le_any _ | refine And.intro ?_ ?_)); done) ?_
 intro i hi
 have e1 : (i : Int).toNat = i := Int.toNat_natCast i
 have hTi := hT' i
 have hTl : (l.take i).length = i := by simp; omega
 rw [hTl] at hTi
 obtain ⟨⟨b1, b2⟩, b3, b4⟩ := hq i
 have hL := itoa_len b3 b4
 have c1 := zItoa (l.getD i mv0).many (by omega) (by omega)
 conv => whnf
 repeat' (first | (refine CallX.kn c1 rfl rfl rfl rfl ?_; conv => whnf) | (refine And.intro (by simp only [e1, List.length_append, List.toList_toArray, List.length_cons, List.length_nil]; omega) ?_; conv => whnf) | (refine And.intro (by simp only [e1, List.length_append, List.toList_toArray, List.length_cons, List.length_nil]; omega) ?_; conv => whnf) | (refine And.intro (by simp only [e1, List.length_append, List.toList_toArray, List.length_cons, List.length_nil]; omega) ?_; conv => whnf) | (refine And.intro (by simp only [e1, List.length_append, List.toList_toArray, List.length_cons, List.length_nil]; omega) ?_; conv => whnf) | (refine And.intro (by simp only [e1, List.length_append, List.toList_toArray, List.length_cons, List.length_nil]; omega) ?_; conv => whnf) | (refine And.intro (by simp only [e1, List.length_append, List.toList_toArray, List.length_cons, List.length_nil]; omega) ?_; conv => whnf) | (refine br_intro ?_ ?_ <;> intro hb <;> (try simp only [brs] at hb) <;> conv => whnf) | (refine RegX.rule (id := 5) hT rfl [] oXTmB36_5 (by decide +kernel) ?_; conv => whnf) | omega | (refine And.intro ?_ ?_; ((try dsimp only); first | omega | (refine szA rfl ?_; omega) | (refine szB rfl ?_; omega) | (unfold inI64; omega) | exact rfl | (simp only [List.toList_toArray, List.length_cons, List.length_nil]; omega) | (simp only [lns] at *; omega) | decide | (unfold inI64; decide)); conv => whnf) | decide | assumption)
 · have hlt : i < l.length := by omega
   refine ⟨i + 1, by omega, by omega, ?_⟩
   rw [txF_snoc (d := mv0) hlt, lnB_mov]
   exact (by (refine Entails.mk' [(1000009, 1000009)] rfl rfl ?_ ?_ <;> repeat' (first | exact True.intro | exact lr | exact rr | exact SV.le_int (by omega) | exact SV.le_any _ | refine And.intro ?_ ?_)); done)
 · have : i = l.length := by omega
   subst this
   refine .ret _ ?_
   conv => whnf
   refine ⟨kx, ⟨?_, rfl⟩, rr, trivial⟩
   conv => lhs; whnf
   rw [List.take_length]
theorem lz127 (s : List UInt8) (c : UInt8) : FSpec Tryz.prog 127 [.d (.str s), .d (.str [c])] [] (fun x r => x = .d (.bool (decide (0 ≤ Lib.indexByte s c))) ∧ r = []) := by
 refine FSpec.ofBelow Tryz.call127 (fun G β w vs _ hvl hd => ?_)
 match vs, hvl with
 | [u, v], _ =>
   have h0 := hd 0 _ u rfl rfl
   have h1 := hd 1 _ v rfl rfl
   cases h0 with | d _ _ h0 => cases h0 with | str _ =>
   cases h1 with | d _ _ h1 => cases h1 with | str _ =>
   refine ⟨.bool (decide (0 ≤ Lib.indexByte s c)), fun _ _ => .d _ _ (.bool _), ?_⟩
   have hcon := Any.strings_Contains_one Tryz.lays144 ⟨s.toArray⟩ c w
   have e : Tryz.lays144_ren.f 144 = 127 := rfl
   rw [e] at hcon
   refine hcon.mono ?_
   rintro e' w' ⟨rfl, rfl⟩
   exact ⟨rfl, Below.refl _ _⟩
def su (F : Nat → Int) : Nat → Int
 | 0 => 0
 | n + 1 => su F n + F n
theorem su_congr {F H : Nat → Int} : ∀ {n : Nat}, (∀ k, k < n → F k = H k) → su F n = su H n
 | 0, _ => rfl
 | n + 1, h => by rw [su, su, su_congr (fun k hk => h k (by omega)), h n (by omega)]
theorem su_le {F H : Nat → Int} : ∀ {n : Nat}, (∀ k, k < n → F k ≤ H k) → su F n ≤ su H n
 | 0, _ => Int.le_refl _
 | n + 1, h => by
   have h1 := su_le (n := n) (fun k hk => h k (by omega))
   have h2 := h n (by omega)
   rw [su, su]; omega
theorem su_add (F H : Nat → Int) : ∀ n, su (fun k => F k + H k) n = su F n + su H n
 | 0 => rfl
 | n + 1 => by rw [su, su, su, su_add F H n]; omega
theorem su_sub (F H : Nat → Int) : ∀ n, su (fun k => F k - H k) n = su F n - su H n
 | 0 => rfl
 | n + 1 => by rw [su, su, su, su_sub F H n]; omega
theorem su_mul (a : Int) (F : Nat → Int) : ∀ n, su (fun k => a * F k) n = a * su F n
 | 0 => by simp [su]
 | n + 1 => by rw [su, su, su_mul a F n, Int.mul_add]
theorem su_zero {F : Nat → Int} {n : Nat} (h : ∀ k, k < n → F k = 0) : su F n = 0 := by
 have : ∀ m, su (fun _ => 0) m = 0 := fun m => by
  induction m with
  | zero => rfl
  | succ m ih => rw [su, ih]; rfl
 rw [su_congr (H := fun _ => 0) h, this]
theorem su_nn {F : Nat → Int} {n : Nat} (h : ∀ k, k < n → 0 ≤ F k) : 0 ≤ su F n := by
 have := su_le (F := fun _ => 0) (H := F) (n := n) h
 rwa [su_zero (fun _ _ => rfl)] at this
theorem su_one {a n : Nat} {x : Int} (h : a < n) : su (fun v => if a = v then x else 0) n = x := by
 induction n with
 | zero => omega
 | succ n ih =>
   rw [su]
   by_cases q : a = n
   · subst q
     rw [if_pos rfl, su_zero (fun k hk => if_neg (by omega))]; omega
   · rw [if_neg q, ih (by omega)]; omega
theorem su_swap (F : Nat → Nat → Int) (n : Nat) : ∀ m, su (fun k => su (fun v => F k v) n) m = su (fun v => su (fun k => F k v) m) n
 | 0 => by rw [su]; exact (su_zero fun _ _ => rfl).symm
 | m + 1 => by rw [su, su_swap F n m, ← su_add]; rfl
structure Nw where
 K : Nat
 N : Nat
 fr : Nat → Nat
 to : Nat → Nat
 c : Nat → Int
structure Nw.Ok (G : Nw) : Prop where
 fr : ∀ k, k < G.K → G.fr k < G.N
 to : ∀ k, k < G.K → G.to k < G.N
 c0 : ∀ k, k < G.K → 0 ≤ G.c k
def Nw.net (G : Nw) (f : Nat → Int) (v : Nat) : Int := su (fun k => (if G.fr k = v then f k else 0) - (if G.to k = v then f k else 0)) G.K
def Nw.cost (G : Nw) (f : Nat → Int) : Int := su (fun k => f k * G.c k) G.K
theorem Nw.net_sub (G : Nw) (f g : Nat → Int) (v : Nat) : G.net (fun k => g k - f k) v = G.net g v - G.net f v := by
 unfold Nw.net
 rw [← su_sub]
 refine su_congr fun k _ => ?_
 by_cases a : G.fr k = v <;> by_cases b : G.to k = v <;> simp [a, b] <;> omega
theorem Nw.dual {G : Nw} (h : G.Ok) (d : Nat → Int) (p : Nat → Int) : su (fun k => d k * (p (G.to k) - p (G.fr k))) G.K = - su (fun v => p v * G.net d v) G.N := by
 have e : ∀ v, p v * G.net d v = su (fun k => (if G.fr k = v then p v * d k else 0) - (if G.to k = v then p v * d k else 0)) G.K := fun v => by
  unfold Nw.net
  rw [← su_mul]
  refine su_congr fun k _ => ?_
  by_cases a : G.fr k = v <;> by_cases b : G.to k = v <;> simp [a, b, Int.mul_sub, Int.mul_neg]
 rw [su_congr (fun v _ => e v), su_swap (fun v k => (if G.fr k = v then p v * d k else 0) - (if G.to k = v then p v * d k else 0))]
 have e2 : su (fun k => d k * (p (G.to k) - p (G.fr k))) G.K = su (fun k => 0 - (p (G.fr k) * d k - p (G.to k) * d k)) G.K := su_congr fun k _ => by
  rw [Int.mul_sub, Int.mul_comm (d k), Int.mul_comm (d k)]; omega
 rw [e2, su_sub, su_zero (fun _ _ => rfl), Int.zero_sub]
 congr 1
 refine su_congr fun k hk => ?_
 rw [su_sub]
 have f1 : su (fun v => if G.fr k = v then p v * d k else 0) G.N = p (G.fr k) * d k := by
  rw [su_congr (H := fun v => if G.fr k = v then p (G.fr k) * d k else 0) (fun v _ => by by_cases q : G.fr k = v <;> simp [q])]
  exact su_one (h.fr k hk)
 have f2 : su (fun v => if G.to k = v then p v * d k else 0) G.N = p (G.to k) * d k := by
  rw [su_congr (H := fun v => if G.to k = v then p (G.to k) * d k else 0) (fun v _ => by by_cases q : G.to k = v <;> simp [q])]
  exact su_one (h.to k hk)
 rw [f1, f2]
def Nw.Fills (G : Nw) (have_ want : Nat → Int) (g : Nat → Int) : Prop := (∀ k, k < G.K → 0 ≤ g k) ∧ ∀ v, v < G.N → - want v ≤ G.net g v ∧ G.net g v ≤ have_ v - want v
structure Nw.St (G : Nw) (have_ want f left lack : Nat → Int) : Prop where
 f0 : ∀ k, k < G.K → 0 ≤ f k
 left0 : ∀ v, v < G.N → 0 ≤ left v ∧ left v ≤ have_ v
 lack0 : ∀ v, v < G.N → 0 ≤ lack v ∧ lack v ≤ want v
 net : ∀ v, v < G.N → G.net f v = (have_ v - left v) - (want v - lack v)
structure Nw.Pot (G : Nw) (have_ f left p : Nat → Int) : Prop where
 p0 : ∀ v, v < G.N → 0 ≤ p v
 ar : ∀ k, k < G.K → p (G.to k) ≤ p (G.fr k) + G.c k
 tight : ∀ k, k < G.K → 0 < f k → p (G.fr k) + G.c k ≤ p (G.to k)
 left : ∀ v, v < G.N → 0 < left v → p v ≤ 0
theorem Nw.cost_sub (G : Nw) (f g : Nat → Int) : G.cost g - G.cost f = su (fun k => (g k - f k) * G.c k) G.K := by
 unfold Nw.cost
 rw [← su_sub]
 exact su_congr fun k _ => by rw [Int.sub_mul]
theorem Nw.opt {G : Nw} (h : G.Ok) {have_ want f left lack p : Nat → Int} (hs : G.St have_ want f left lack) (hp : G.Pot have_ f left p) (hl : ∀ v, v < G.N → lack v = 0) : G.Fills have_ want f ∧ ∀ g, G.Fills have_ want g → G.cost f ≤ G.cost g := by
 refine ⟨⟨hs.f0, fun v hv => ?_⟩, fun g hg => ?_⟩
 · have := hs.net v hv
   have := hs.left0 v hv
   have := hl v hv
   omega
 · have h1 : su (fun k => (g k - f k) * (p (G.to k) - p (G.fr k))) G.K ≤ su (fun k => (g k - f k) * G.c k) G.K := su_le fun k hk => by
    rcases Int.lt_trichotomy (g k) (f k) with q | q | q
    · have g0 := hg.1 k hk
      have t := hp.tight k hk (by omega)
      have a := hp.ar k hk
      rw [show p (G.to k) - p (G.fr k) = G.c k by omega]; exact Int.le_refl _
    · rw [q]; simp
    · have a := hp.ar k hk
      exact Int.mul_le_mul_of_nonneg_left (by omega) (by omega)
   rw [Nw.dual h (fun k => g k - f k) p, ← G.cost_sub f g] at h1
   have h2 : su (fun v => p v * G.net (fun k => g k - f k) v) G.N ≤ 0 := by
    have := su_le (n := G.N) (F := fun v => p v * G.net (fun k => g k - f k) v) (H := fun _ => 0) (fun v hv => by
     rw [G.net_sub f g v]
     have n1 := hs.net v hv
     have n2 := hg.2 v hv
     have n3 := hl v hv
     have n4 := hs.left0 v hv
     have n5 := hp.p0 v hv
     rcases Int.lt_or_le 0 (left v) with q | q
     · have := hp.left v hv q
       rw [show p v = 0 by omega]; simp
     · exact Int.mul_nonpos_of_nonneg_of_nonpos n5 (by omega))
    rwa [su_zero (fun _ _ => rfl)] at this
   omega
def farD : Int := 1125899906842624
def upd {α : Type} (f : Nat → α) (a : Nat) (x : α) : Nat → α := fun v => if v = a then x else f v
theorem upd_self {α : Type} {f : Nat → α} {a : Nat} {x : α} : upd f a x a = x := if_pos rfl
theorem upd_ne {α : Type} {f : Nat → α} {a v : Nat} {x : α} (h : v ≠ a) : upd f a x v = f v := if_neg h
def Nw.hd (G : Nw) (e : Nat × Bool) : Nat := if e.2 = true then G.fr e.1 else G.to e.1
def Nw.tl (G : Nw) (e : Nat × Bool) : Nat := if e.2 = true then G.to e.1 else G.fr e.1
def Nw.cc (G : Nw) (e : Nat × Bool) : Int := if e.2 = true then - G.c e.1 else G.c e.1
def Nw.Re (G : Nw) (f : Nat → Int) (e : Nat × Bool) : Prop := e.1 < G.K ∧ (e.2 = true → 0 < f e.1)
theorem Nw.hd_lt {G : Nw} (h : G.Ok) {e : Nat × Bool} (he : e.1 < G.K) : G.hd e < G.N ∧ G.tl e < G.N := by
 unfold Nw.hd Nw.tl
 have := h.fr _ he
 have := h.to _ he
 cases e.2 <;> simp <;> omega
inductive Nw.Ch (G : Nw) (b : Nat → Option (Nat × Bool)) (Q : Nat × Bool → Prop) : Nat → Nat → Nat → Prop
 | root (v : Nat) (h : b v = none) : Nw.Ch G b Q v 0 v
 | step (v n r : Nat) (e : Nat × Bool) (h : b v = some e) (hq : Q e) (hc : Nw.Ch G b Q (G.tl e) n r) : Nw.Ch G b Q v (n + 1) r
theorem Nw.Ch.uniq {G : Nw} {b : Nat → Option (Nat × Bool)} {Q Q' : Nat × Bool → Prop} {v n r : Nat} (h : G.Ch b Q v n r) : ∀ {m s : Nat}, G.Ch b Q' v m s → n = m ∧ r = s := by
 induction h with
 | root v hv =>
   intro m s h2
   cases h2 with
   | root _ _ => exact ⟨rfl, rfl⟩
   | step _ _ _ e he _ _ => rw [hv] at he; cases he
 | step v n r e he _ _ ih =>
   intro m s h2
   cases h2 with
   | root _ hv => rw [hv] at he; cases he
   | step _ n' _ e' he' _ hc' =>
     rw [he] at he'; cases he'
     obtain ⟨rfl, rfl⟩ := ih hc'
     exact ⟨rfl, rfl⟩
structure Nw.Wy (G : Nw) (f left p dist : Nat → Int) (b : Nat → Option (Nat × Bool)) : Prop where
 d1 : ∀ v, v < G.N → dist v ≤ farD ∧ (dist v < farD → p v ≤ dist v)
 src : ∀ v, v < G.N → 0 < left v → dist v = 0 ∧ b v = none
 root : ∀ v, v < G.N → b v = none → dist v < farD → 0 < left v
 st : ∀ v e, v < G.N → b v = some e → G.Re f e ∧ G.hd e = v ∧ dist (G.tl e) < farD ∧ dist (G.tl e) + G.cc e ≤ dist v ∧ dist v < farD
 rt : ∀ v, v < G.N → dist v < farD → ∃ n r, G.Ch b (fun _ => True) v n r
theorem Nw.Wy.nn {G : Nw} {have_ f left p dist : Nat → Int} {b : Nat → Option (Nat × Bool)} (h : G.Wy f left p dist b) (hp : G.Pot have_ f left p) {v : Nat} (hv : v < G.N) : 0 ≤ dist v ∧ dist v ≤ farD := by
 have h1 := h.d1 v hv
 have h2 := hp.p0 v hv
 refine ⟨?_, h1.1⟩
 rcases Int.lt_or_le (dist v) farD with q | q
 · have := h1.2 q; omega
 · unfold farD at q; omega
def Nw.Fin (G : Nw) (f dist : Nat → Int) : Prop := ∀ e, G.Re f e → dist (G.tl e) < farD → dist (G.hd e) ≤ dist (G.tl e) + G.cc e
theorem Nw.Wy.tight {G : Nw} {f left p dist : Nat → Int} {b : Nat → Option (Nat × Bool)} (hw : G.Wy f left p dist b) (hf : G.Fin f dist) {v : Nat} {e : Nat × Bool} (hv : v < G.N) (he : b v = some e) : dist v = dist (G.tl e) + G.cc e := by
 obtain ⟨s1, s2, s3, s4, s5⟩ := hw.st v e hv he
 have := hf e s1 s3
 rw [s2] at this
 omega
def Nw.cnt (G : Nw) (dist : Nat → Int) : Int := su (fun v => if dist v < farD then 1 else 0) G.N
def Nw.Bd (G : Nw) (C : Int) (dist : Nat → Int) : Prop := ∀ v, v < G.N → dist v < farD → dist v ≤ C * G.cnt dist
theorem Nw.cnt_bd (G : Nw) (dist : Nat → Int) : 0 ≤ G.cnt dist ∧ G.cnt dist ≤ G.N := by
 have h1 : 0 ≤ G.cnt dist := su_nn fun v _ => by split <;> omega
 have h2 : ∀ n, su (fun v => if dist v < farD then 1 else 0) n ≤ (n : Int) := fun n => by
  induction n with
  | zero => exact Int.le_refl _
  | succ n ih => rw [su]; split <;> (push_cast; omega)
 exact ⟨h1, h2 _⟩
theorem Nw.reach {G : Nw} (hG : G.Ok) {C : Int} {f dist : Nat → Int} (hb : G.Bd C dist) (hC : 0 ≤ C) (hN : C * G.N + C < farD) (hc : ∀ k, k < G.K → G.c k ≤ C) (hf : G.Fin f dist) {k : Nat} (hk : k < G.K) (h1 : dist (G.fr k) < farD) : dist (G.to k) < farD ∧ dist (G.to k) ≤ dist (G.fr k) + G.c k := by
 have h2 : dist (G.to k) ≤ dist (G.fr k) + G.c k := hf (k, false) ⟨hk, by simp⟩ h1
 have h3 := hb _ (hG.fr k hk) h1
 have h4 := hc k hk
 have h5 : C * G.cnt dist ≤ C * G.N := Int.mul_le_mul_of_nonneg_left (G.cnt_bd dist).2 hC
 omega
theorem Nw.net_upd (G : Nw) (g : Nat → Int) {k : Nat} (hk : k < G.K) (x : Int) (v : Nat) : G.net (upd g k x) v = G.net g v + (if G.fr k = v then x - g k else 0) - (if G.to k = v then x - g k else 0) := by
 have h := G.net_sub g (upd g k x) v
 have e : G.net (fun i => upd g k x i - g i) v = (if G.fr k = v then x - g k else 0) - (if G.to k = v then x - g k else 0) := by
  unfold Nw.net
  rw [su_congr (H := fun i => if k = i then ((if G.fr k = v then x - g k else 0) - (if G.to k = v then x - g k else 0)) else 0) (fun i _ => ?_), su_one hk]
  by_cases q : i = k
  · rw [if_pos q.symm, q]; simp only [upd_self]
  · rw [if_neg (show ¬ k = i from fun z => q z.symm)]; simp [upd_ne q]
 omega
theorem ite_sw {a v : Nat} {x y : Int} (h : x = y) : (if a = v then x else 0) = (if v = a then y else 0) := by
 subst h
 by_cases q : a = v
 · rw [if_pos q, if_pos q.symm]
 · rw [if_neg q, if_neg (fun z => q z.symm)]
theorem Nw.cost_upd (G : Nw) (g : Nat → Int) {k : Nat} (hk : k < G.K) (x : Int) : G.cost (upd g k x) = G.cost g + (x - g k) * G.c k := by
 have h := G.cost_sub g (upd g k x)
 have e : su (fun i => (upd g k x i - g i) * G.c i) G.K = (x - g k) * G.c k := by
  rw [su_congr (H := fun i => if k = i then (x - g k) * G.c k else 0) (fun i _ => ?_), su_one hk]
  by_cases q : i = k
  · rw [if_pos q.symm, q, upd_self]
  · rw [if_neg (show ¬ k = i from fun z => q z.symm), upd_ne q]; simp
 omega
structure Nw.Bot (G : Nw) (f dist : Nat → Int) (b : Nat → Option (Nat × Bool)) (t : Nat) (lk : Int) (a : Nat) (m : Int) : Prop where
 ch : ∀ m' n' r, m' ≤ m → G.Ch b (fun e => e.2 = true → m' ≤ f e.1) a n' r → ∃ n, G.Ch b (fun e => e.2 = true → m' ≤ f e.1) t n r
 aN : a < G.N
 dn : dist a < farD
 m1 : 1 ≤ m ∧ m ≤ lk
theorem Nw.Bot.step {G : Nw} (hG : G.Ok) {f left p dist : Nat → Int} {b : Nat → Option (Nat × Bool)} (hw : G.Wy f left p dist b) {t a : Nat} {lk m : Int} (h : G.Bot f dist b t lk a m) {e : Nat × Bool} (he : b a = some e) :
 G.Bot f dist b t lk (G.tl e) (if e.2 = true then min m (f e.1) else m) := by
 obtain ⟨s1, s2, s3, s4, s5⟩ := hw.st a e h.aN he
 have hm := h.m1
 have hq := s1.2
 refine ⟨fun m' n' r hm' hc => ?_, (Nw.hd_lt hG s1.1).2, s3, ?_⟩
 · refine h.ch m' (n' + 1) r ?_ (.step a n' r e he (fun w => ?_) hc)
   · split at hm' <;> omega
   · rw [if_pos w] at hm'; omega
 · cases w : e.2
   · simp; omega
   · have := hq w
     simp; omega
theorem Nw.Bot.done {G : Nw} {f dist : Nat → Int} {b : Nat → Option (Nat × Bool)} {t a : Nat} {lk m : Int} (h : G.Bot f dist b t lk a m) (ha : b a = none) {m' : Int} (hm : m' ≤ m) : ∃ n, G.Ch b (fun e => e.2 = true → m' ≤ f e.1) t n a :=
 h.ch m' 0 a hm (.root a ha)
structure Nw.Aug (G : Nw) (f dist : Nat → Int) (b : Nat → Option (Nat × Bool)) (t : Nat) (m : Int) (g : Nat → Int) (a n r : Nat) : Prop where
 ch : G.Ch b (fun e => e.2 = true → m ≤ f e.1) a n r
 aN : a < G.N
 dn : dist a < farD
 fl : ∀ k, k < G.K → f k ≤ g k ∨ ∃ j s, G.Ch b (fun _ => True) (G.fr k) j s ∧ n < j ∧ f k ≤ g k + m ∧ m ≤ f k
 net : ∀ v, G.net g v = G.net f v - (if v = t then m else 0) + (if v = a then m else 0)
 cost : G.cost g = G.cost f + m * (dist t - dist a)
 pos : ∀ k, k < G.K → 0 < g k → 0 < f k ∨ (dist (G.fr k) < farD ∧ dist (G.to k) = dist (G.fr k) + G.c k)
theorem Nw.Ch.weak {G : Nw} {b : Nat → Option (Nat × Bool)} {Q : Nat × Bool → Prop} {v n r : Nat} (h : G.Ch b Q v n r) : G.Ch b (fun _ => True) v n r := by
 induction h with
 | root v hv => exact .root v hv
 | step v n r e he _ _ ih => exact .step v n r e he trivial ih
theorem Nw.Aug.step {G : Nw} (hG : G.Ok) {f left p dist : Nat → Int} {b : Nat → Option (Nat × Bool)} (hw : G.Wy f left p dist b) (hf : G.Fin f dist) {t a n r : Nat} {m : Int} (hm : 0 ≤ m) {g : Nat → Int} (h : G.Aug f dist b t m g a n r) {e : Nat × Bool} (he : b a = some e) :
 ∃ n', n = n' + 1 ∧ G.Aug f dist b t m (upd g e.1 (if e.2 = true then g e.1 - m else g e.1 + m)) (G.tl e) n' r := by
 have hch := h.ch
 cases hch with
 | root _ hv => rw [hv] at he; cases he
 | step _ n' _ e' he' hq hc =>
   rw [he] at he'; cases he'
   obtain ⟨s1, s2, s3, s4, s5⟩ := hw.st a e h.aN he
   have htg := hw.tight hf h.aN he
   have hch := h.ch
   refine ⟨n', rfl, hc, (Nw.hd_lt hG s1.1).2, s3, fun k hk => ?_, fun v => ?_, ?_, fun k hk hg => ?_⟩
   · rcases h.fl k hk with w | ⟨j, s, w1, w2, w3, w4⟩
     · by_cases q : k = e.1
       · rw [q, upd_self]
         rw [q] at w
         cases z : e.2
         · left; simp; omega
         · right
           have hz : G.hd e = G.fr e.1 := by unfold Nw.hd; rw [z]; rfl
           rw [s2] at hz
           refine ⟨n' + 1, r, ?_, by omega, by simp; omega, hq z⟩
           rw [← hz]
           exact hch.weak
       · rw [upd_ne q]; exact .inl w
     · right
       refine ⟨j, s, w1, by omega, ?_, w4⟩
       by_cases q : k = e.1
       · rw [q, upd_self]
         rw [q] at w1 w3
         cases z : e.2
         · simp; omega
         · exfalso
           have hz : G.hd e = G.fr e.1 := by unfold Nw.hd; rw [z]; rfl
           rw [s2] at hz
           rw [← hz] at w1
           have := hch.weak.uniq w1
           omega
       · rw [upd_ne q]; exact w3
   · rw [G.net_upd g s1.1, h.net v]
     have hhd : G.hd e = a := s2
     unfold Nw.hd at hhd
     unfold Nw.tl
     cases z : e.2 <;> rw [z] at hhd <;> simp only [if_true, if_false, Bool.false_eq_true] at hhd ⊢
     · have c1 : (if G.to e.1 = v then g e.1 + m - g e.1 else 0) = (if v = a then m else 0) := by rw [hhd]; exact ite_sw (by omega)
       have c2 : (if G.fr e.1 = v then g e.1 + m - g e.1 else 0) = (if v = G.fr e.1 then m else 0) := ite_sw (by omega)
       rw [c1, c2]; omega
     · have c1 : (if G.fr e.1 = v then g e.1 - m - g e.1 else 0) = (if v = a then - m else 0) := by rw [hhd]; exact ite_sw (by omega)
       have c2 : (if G.to e.1 = v then g e.1 - m - g e.1 else 0) = (if v = G.to e.1 then - m else 0) := ite_sw (by omega)
       rw [c1, c2]
       by_cases q : v = a <;> by_cases w : v = G.to e.1 <;> simp only [q, w, if_true, if_false] <;> (try split) <;> omega
   · rw [G.cost_upd g s1.1, h.cost]
     have e1 : (if e.2 = true then g e.1 - m else g e.1 + m) - g e.1 = if e.2 = true then - m else m := by split <;> omega
     rw [e1, htg]
     unfold Nw.cc
     cases z : e.2
     · simp only [if_false, Bool.false_eq_true]
       rw [show dist t - dist (G.tl e) = (dist t - (dist (G.tl e) + G.c e.1)) + G.c e.1 by omega, Int.mul_add]; omega
     · simp only [if_true]
       have e2 : m * (dist t - dist (G.tl e)) = m * (dist t - (dist (G.tl e) + - G.c e.1)) - m * G.c e.1 := by rw [← Int.mul_sub]; congr 1; omega
       rw [e2, Int.neg_mul]; omega
   · by_cases q : k = e.1
     · rw [q, upd_self] at hg
       rw [q]
       cases z : e.2
       · right
         have hz : G.hd e = G.to e.1 := by unfold Nw.hd; rw [z]; rfl
         have ht : G.tl e = G.fr e.1 := by unfold Nw.tl; rw [z]; rfl
         have hcc : G.cc e = G.c e.1 := by unfold Nw.cc; rw [z]; rfl
         rw [← hz, ← ht, s2]
         rw [hcc] at htg
         exact ⟨s3, htg⟩
       · exact .inl (s1.2 z)
     · rw [upd_ne q] at hg
       exact h.pos k hk hg
def nxP (p dist : Nat → Int) (v : Nat) : Int := if dist v < farD then dist v else p v + farD
theorem Nw.next {G : Nw} (hG : G.Ok) {C : Int} (hC : 0 ≤ C) (hN : C * G.N + C < farD) (hcC : ∀ k, k < G.K → G.c k ≤ C) {have_ want f left lack p dist : Nat → Int} {b : Nat → Option (Nat × Bool)} (hs : G.St have_ want f left lack) (hp : G.Pot have_ f left p) (hw : G.Wy f left p dist b) (hb : G.Bd C dist) (hf : G.Fin f dist)
 {t r n : Nat} {m : Int} {g : Nat → Int} (ht : t < G.N) (hm1 : 1 ≤ m) (hml : m ≤ lack t) (hmr : m ≤ left r) (ha : G.Aug f dist b t m g r n r) (hr : b r = none) :
 G.St have_ want g (upd left r (left r - m)) (upd lack t (lack t - m)) ∧ G.Pot have_ g (upd left r (left r - m)) (nxP p dist) ∧ G.cost g = G.cost f + m * dist t := by
 have hrl := hw.root r ha.aN hr ha.dn
 have hr0 := (hw.src r ha.aN hrl).1
 refine ⟨⟨fun k hk => ?_, fun v hv => ?_, fun v hv => ?_, fun v hv => ?_⟩, ⟨fun v hv => ?_, fun k hk => ?_, fun k hk hg => ?_, fun v hv hl => ?_⟩, ?_⟩
 · have := hs.f0 k hk
   rcases ha.fl k hk with w | ⟨_, _, _, _, w3, w4⟩ <;> omega
 · have := hs.left0 v hv
   unfold upd
   split
   · rename_i q; rw [q] at this ⊢; omega
   · exact this
 · have := hs.lack0 v hv
   unfold upd
   split
   · rename_i q; rw [q] at this ⊢; omega
   · exact this
 · rw [ha.net v, hs.net v hv]
   unfold upd
   by_cases q : v = r <;> by_cases w : v = t
   · rw [if_pos q, if_pos w, if_pos q, if_pos w, ← q, ← w]; omega
   · rw [if_pos q, if_neg w, if_pos q, if_neg w, ← q]; omega
   · rw [if_neg q, if_pos w, if_neg q, if_pos w, ← w]; omega
   · rw [if_neg q, if_neg w, if_neg q, if_neg w]; omega
 · have := hw.nn hp hv
   have := hp.p0 v hv
   unfold nxP
   split
   · omega
   · unfold farD; omega
 · have hfr := hG.fr k hk
   have hto := hG.to k hk
   have h1 := hp.ar k hk
   have h2 := hp.p0 _ hfr
   have h3 := hG.c0 k hk
   unfold nxP
   by_cases q : dist (G.fr k) < farD
   · have := Nw.reach hG hb hC hN hcC hf hk q
     rw [if_pos q, if_pos this.1]; exact this.2
   · rw [if_neg q]
     split <;> omega
 · have hfr := hG.fr k hk
   have hto := hG.to k hk
   unfold nxP
   rcases ha.pos k hk hg with w | w
   · have h1 := hp.tight k hk w
     by_cases q : dist (G.to k) < farD
     · have h2 : dist (G.fr k) ≤ dist (G.to k) + - G.c k := hf (k, true) ⟨hk, fun _ => w⟩ q
       have h3 := hG.c0 k hk
       rw [if_pos q, if_pos (by omega)]; omega
     · rw [if_neg q]
       by_cases q2 : dist (G.fr k) < farD
       · exact absurd (Nw.reach hG hb hC hN hcC hf hk q2).1 q
       · rw [if_neg q2]; omega
   · have h2 := (Nw.reach hG hb hC hN hcC hf hk w.1).1
     rw [if_pos w.1, if_pos h2]; omega
 · have hv2 : 0 < left v := by
    unfold upd at hl
    split at hl
    · rename_i q; rw [q]; omega
    · exact hl
   have := (hw.src v hv hv2).1
   unfold nxP
   rw [this, if_pos (by unfold farD; omega)]; exact Int.le_refl _
 · rw [ha.cost, hr0, Int.sub_zero]
structure Nw.Op (G : Nw) (R : Nat × Bool → Prop) (p : Nat → Int) : Prop where
 lt : ∀ e, R e → e.1 < G.K
 le : ∀ e, R e → p (G.hd e) ≤ p (G.tl e) + G.cc e
structure Nw.Pw (G : Nw) (R : Nat × Bool → Prop) (p : Nat → Int) (P : Int) (dist : Nat → Int) (b : Nat → Option (Nat × Bool)) : Prop where
 low : ∀ v, v < G.N → p v - P ≤ dist v ∧ dist v ≤ 0
 root : ∀ v, v < G.N → b v = none → dist v = 0
 st : ∀ v e, v < G.N → b v = some e → R e ∧ G.hd e = v ∧ dist (G.tl e) + G.cc e ≤ dist v
 rt : ∀ v, v < G.N → ∃ n r, G.Ch b (fun _ => True) v n r
structure Nw.Prc (G : Nw) (have_ f gone y : Nat → Int) : Prop where
 ar : ∀ k, k < G.K → y (G.to k) ≤ y (G.fr k) + G.c k
 tight : ∀ k, k < G.K → 0 < f k → y (G.to k) = y (G.fr k) + G.c k
 lo : ∀ v, v < G.N → 0 < have_ v → gone v < have_ v → y v ≤ 0
 hi : ∀ v, v < G.N → 0 < have_ v → 0 < gone v → 0 ≤ y v
structure Nw.Bip (G : Nw) (B : Nat → Bool) : Prop where
 fr : ∀ k, k < G.K → G.fr k < G.N ∧ B (G.fr k) = true
 to : ∀ k, k < G.K → G.to k < G.N ∧ B (G.to k) = false
structure Nw.Fl (G : Nw) (B : Nat → Bool) (h w g : Nat → Int) : Prop where
 g0 : ∀ k, k < G.K → 0 ≤ g k
 src : ∀ v, v < G.N → B v = true → G.net g v ≤ h v
 dst : ∀ v, v < G.N → B v = false → G.net g v = - w v
theorem Nw.Bip.net_src {G : Nw} {B : Nat → Bool} (hb : G.Bip B) {g : Nat → Int} (h0 : ∀ k, k < G.K → 0 ≤ g k) {v : Nat} (hv : B v = true) : 0 ≤ G.net g v := by
 refine su_nn fun k hk => ?_
 have := (hb.to k hk).2
 have h1 : ¬ G.to k = v := fun q => by rw [q, hv] at this; cases this
 have := h0 k hk
 rw [if_neg h1]
 split <;> omega
theorem Nw.Bip.net_dst {G : Nw} {B : Nat → Bool} (hb : G.Bip B) {g : Nat → Int} (h0 : ∀ k, k < G.K → 0 ≤ g k) {v : Nat} (hv : B v = false) : G.net g v ≤ 0 := by
 have h : G.net g v ≤ su (fun _ => 0) G.K := su_le fun k hk => by
  have := (hb.fr k hk).2
  have h1 : ¬ G.fr k = v := fun q => by rw [q, hv] at this; cases this
  have := h0 k hk
  simp only [if_neg h1]
  split <;> omega
 rwa [su_zero (fun _ _ => rfl)] at h
theorem Nw.Bip.fl {G : Nw} {B : Nat → Bool} (hb : G.Bip B) {h w : Nat → Int} (hh : ∀ v, v < G.N → B v = false → h v = 0) (hw : ∀ v, v < G.N → B v = true → w v = 0) (g : Nat → Int) : G.Fills h w g ↔ G.Fl B h w g := by
 constructor
 · rintro ⟨h0, h1⟩
   refine ⟨h0, fun v hv q => ?_, fun v hv q => ?_⟩
   · have := h1 v hv; have := hw v hv q; omega
   · have := h1 v hv; have := hh v hv q; omega
 · intro hg
   refine ⟨hg.g0, fun v hv => ?_⟩
   cases q : B v
   · have := hg.dst v hv q; have := hh v hv q; omega
   · have := hg.src v hv q; have := hw v hv q; have := hb.net_src hg.g0 q; omega
def Nw.sh (G : Nw) (a : Nat) : Nw := ⟨G.K - a, G.N, fun k => G.fr (a + k), fun k => G.to (a + k), fun k => G.c (a + k)⟩
theorem Nw.Bip.sh {G : Nw} {B : Nat → Bool} (h : G.Bip B) (a : Nat) : (G.sh a).Bip B :=
 ⟨fun k hk => h.fr (a + k) (by have hk : k < G.K - a := hk; omega), fun k hk => h.to (a + k) (by have hk : k < G.K - a := hk; omega)⟩
def vcons (u : Int) (x : Nat → Int) : Nat → Int
 | 0 => u
 | k + 1 => x k
def vtl (x : Nat → Int) : Nat → Int := fun k => x (k + 1)
theorem su_cons (F : Nat → Int) : ∀ n, su F (n + 1) = F 0 + su (fun k => F (k + 1)) n
 | 0 => by simp [su]
 | n + 1 => by rw [su, su_cons F n, su]; omega
theorem Nw.net_cons {G : Nw} {a : Nat} (ha : a < G.K) (x : Nat → Int) (v : Nat) : (G.sh a).net x v = (if G.fr a = v then x 0 else 0) - (if G.to a = v then x 0 else 0) + (G.sh (a + 1)).net (vtl x) v := by
 unfold Nw.net
 have e : (G.sh a).K = (G.sh (a + 1)).K + 1 := by show G.K - a = G.K - (a + 1) + 1; omega
 rw [e, su_cons]
 congr 1
 refine su_congr fun k _ => ?_
 show (if G.fr (a + (k + 1)) = v then x (k + 1) else 0) - (if G.to (a + (k + 1)) = v then x (k + 1) else 0) = (if G.fr (a + 1 + k) = v then x (k + 1) else 0) - (if G.to (a + 1 + k) = v then x (k + 1) else 0)
 rw [show a + (k + 1) = a + 1 + k by omega]
theorem Nw.cost_cons {G : Nw} {a : Nat} (ha : a < G.K) (x : Nat → Int) : (G.sh a).cost x = x 0 * G.c a + (G.sh (a + 1)).cost (vtl x) := by
 unfold Nw.cost
 have e : (G.sh a).K = (G.sh (a + 1)).K + 1 := by show G.K - a = G.K - (a + 1) + 1; omega
 rw [e, su_cons]
 congr 1
 refine su_congr fun k _ => ?_
 show x (k + 1) * G.c (a + (k + 1)) = x (k + 1) * G.c (a + 1 + k)
 rw [show a + (k + 1) = a + 1 + k by omega]
def les (h : Nat → Int) (v : Nat) (u : Int) : Nat → Int := upd h v (h v - u)
theorem les_at (h : Nat → Int) (v i : Nat) (u : Int) : les h v u i = h i - (if v = i then u else 0) := by
 unfold les upd
 by_cases q : i = v
 · rw [if_pos q, if_pos q.symm, q]
 · rw [if_neg q, if_neg (fun z => q z.symm)]; omega
theorem Nw.fl_cons {G : Nw} {B : Nat → Bool} (hb : G.Bip B) {a : Nat} (ha : a < G.K) {h w x : Nat → Int} : (G.sh a).Fl B h w x ↔ 0 ≤ x 0 ∧ (G.sh (a + 1)).Fl B (les h (G.fr a) (x 0)) (les w (G.to a) (x 0)) (vtl x) := by
 have hf := hb.fr a ha
 have ht := hb.to a ha
 constructor
 · intro hx
   refine ⟨hx.g0 0 (by show 0 < G.K - a; omega), fun k hk => hx.g0 (k + 1) (by have hk : k < G.K - (a + 1) := hk; show k + 1 < G.K - a; omega), fun v hv q => ?_, fun v hv q => ?_⟩
   · have h1 := hx.src v hv q
     rw [Nw.net_cons ha] at h1
     have : ¬ G.to a = v := fun z => by rw [z, q] at ht; cases ht.2
     rw [if_neg this] at h1
     rw [les_at]; omega
   · have h1 := hx.dst v hv q
     rw [Nw.net_cons ha] at h1
     have : ¬ G.fr a = v := fun z => by rw [z, q] at hf; cases hf.2
     rw [if_neg this] at h1
     rw [les_at]; omega
 · rintro ⟨h0, hx⟩
   refine ⟨fun k hk => ?_, fun v hv q => ?_, fun v hv q => ?_⟩
   · cases k with
     | zero => exact h0
     | succ k => exact hx.g0 k (by have hk : k + 1 < G.K - a := hk; show k < G.K - (a + 1); omega)
   · have h1 := hx.src v hv q
     rw [les_at] at h1
     rw [Nw.net_cons ha]
     have : ¬ G.to a = v := fun z => by rw [z, q] at ht; cases ht.2
     rw [if_neg this]; omega
   · have h1 := hx.dst v hv q
     rw [les_at] at h1
     rw [Nw.net_cons ha]
     have : ¬ G.fr a = v := fun z => by rw [z, q] at hf; cases hf.2
     rw [if_neg this]; omega
theorem Nw.Fl.first {G : Nw} {B : Nat → Bool} (hb : G.Bip B) {a : Nat} (ha : a < G.K) {h w x : Nat → Int} (hx : (G.sh a).Fl B h w x) : 0 ≤ x 0 ∧ x 0 ≤ h (G.fr a) ∧ x 0 ≤ w (G.to a) := by
 obtain ⟨h0, hx2⟩ := (Nw.fl_cons hb ha).1 hx
 have hf := hb.fr a ha
 have ht := hb.to a ha
 have h1 := hx2.src _ hf.1 hf.2
 have h2 := hx2.dst _ ht.1 ht.2
 have h3 := (hb.sh (a + 1)).net_src hx2.g0 hf.2
 have h4 := (hb.sh (a + 1)).net_dst hx2.g0 ht.2
 rw [les_at, if_pos rfl] at h1 h2
 omega
def Nw.IsOpt (G : Nw) (B : Nat → Bool) (h w : Nat → Int) (c : Int) : Prop := (∃ g, G.Fl B h w g ∧ G.cost g = c) ∧ ∀ g, G.Fl B h w g → c ≤ G.cost g
def Bef (n : Nat) (x y : Nat → Int) : Prop := ∃ k, k < n ∧ (∀ j, j < k → x j = y j) ∧ 1 ≤ x k ∧ (y k = 0 ∨ x k < y k)
structure Nw.Best (G : Nw) (B : Nat → Bool) (h w : Nat → Int) (c : Int) (x : Nat → Int) : Prop where
 fl : G.Fl B h w x
 cost : G.cost x = c
 le : ∀ y, G.Fl B h w y → c ≤ G.cost y
 bef : ∀ y, G.Fl B h w y → G.cost y = c → (∀ k, k < G.K → y k = x k) ∨ Bef G.K x y
theorem Nw.best_end {G : Nw} {B : Nat → Bool} {h w : Nat → Int} {c : Int} (h1 : (G.sh G.K).IsOpt B h w c) (x : Nat → Int) : (G.sh G.K).Best B h w c x := by
 have hK : (G.sh G.K).K = 0 := by show G.K - G.K = 0; omega
 obtain ⟨⟨g, hg, hgc⟩, hle⟩ := h1
 have hn : ∀ (y : Nat → Int) v, (G.sh G.K).net y v = 0 := fun y v => by unfold Nw.net; rw [hK]; rfl
 have hc : ∀ y : Nat → Int, (G.sh G.K).cost y = 0 := fun y => by unfold Nw.cost; rw [hK]; rfl
 refine ⟨⟨fun k hk => by omega, fun v hv q => ?_, fun v hv q => ?_⟩, ?_, hle, fun y _ _ => .inl fun k hk => by omega⟩
 · have := hg.src v hv q; rw [hn] at this ⊢; exact this
 · have := hg.dst v hv q; rw [hn] at this ⊢; exact this
 · rw [hc] at hgc ⊢; exact hgc
theorem vtl_cons (u : Int) (x : Nat → Int) : vtl (vcons u x) = x := rfl
def cmpF {α : Type} (c : α → α → Int) : List α → List α → Int
 | [], [] => 0
 | [], _ :: _ => -1
 | _ :: _, [] => 1
 | a :: l, b :: m => if c a b = 0 then cmpF c l m else c a b
structure COrd {α : Type} (c : α → α → Int) : Prop where
 eq : ∀ a b, c a b = 0 ↔ a = b
 sw : ∀ a b, c a b < 0 ↔ 0 < c b a
 tr : ∀ a b d, c a b < 0 → c b d < 0 → c a d < 0
theorem COrd.refl {α : Type} {c : α → α → Int} (h : COrd c) (a : α) : c a a = 0 := (h.eq a a).2 rfl
theorem COrd.list {α : Type} {c : α → α → Int} (h : COrd c) : COrd (cmpF c) := by
 refine ⟨?_, ?_, ?_⟩
 · intro a
   induction a with
   | nil => intro b; cases b <;> simp [cmpF]
   | cons x a ih =>
     intro b
     cases b with
     | nil => simp [cmpF]
     | cons y b =>
       rw [cmpF]
       by_cases q : c x y = 0
       · rw [if_pos q, ih]
         have := (h.eq x y).1 q
         subst this
         simp
       · rw [if_neg q]
         have : ¬ x = y := fun z => q ((h.eq x y).2 z)
         simp [q, this]
 · intro a
   induction a with
   | nil => intro b; cases b <;> simp [cmpF]
   | cons x a ih =>
     intro b
     cases b with
     | nil => simp [cmpF]
     | cons y b =>
       rw [cmpF, cmpF]
       by_cases q : c x y = 0
       · have := (h.eq x y).1 q
         subst this
         rw [if_pos q, if_pos q]; exact ih b
       · have : ¬ c y x = 0 := fun z => q ((h.eq x y).2 ((h.eq y x).1 z).symm)
         rw [if_neg q, if_neg this]; exact h.sw x y
 · intro a
   induction a with
   | nil =>
     intro b d
     cases b with
     | nil => simp [cmpF]
     | cons y b => cases d <;> simp [cmpF]
   | cons x a ih =>
     intro b d
     cases b with
     | nil => simp [cmpF]
     | cons y b =>
       cases d with
       | nil =>
         intro _ h2
         simp [cmpF] at h2
       | cons z d =>
         rw [cmpF, cmpF, cmpF]
         by_cases q : c x y = 0
         · have := (h.eq x y).1 q
           subst this
           rw [if_pos q]
           by_cases w : c x z = 0
           · rw [if_pos w, if_pos w]; exact ih b d
           · rw [if_neg w, if_neg w]; exact fun _ h2 => h2
         · rw [if_neg q]
           by_cases w : c y z = 0
           · have := (h.eq y z).1 w
             subst this
             rw [if_pos w, if_neg q]; exact fun h1 _ => h1
           · rw [if_neg w]
             intro h1 h2
             have h3 := h.tr x y z h1 h2
             rw [if_neg (by omega)]; exact h3
theorem cmpF_app {α : Type} {c : α → α → Int} (h : COrd c) : ∀ (a b s t : List α), (∀ m, m ≠ [] → a ≠ b ++ m) → (∀ m, m ≠ [] → b ≠ a ++ m) → a ≠ b → cmpF c (a ++ s) (b ++ t) = cmpF c a b := by
 intro a
 induction a with
 | nil =>
   intro b s t _ h2 h3
   cases b with
   | nil => exact absurd rfl h3
   | cons y b => exact absurd rfl (h2 (y :: b) (by simp))
 | cons x a ih =>
   intro b s t h1 h2 h3
   cases b with
   | nil => exact absurd rfl (h1 (x :: a) (by simp))
   | cons y b =>
     rw [List.cons_append, List.cons_append, cmpF, cmpF]
     by_cases q : c x y = 0
     · have := (h.eq x y).1 q
       subst this
       rw [if_pos q, if_pos q]
       exact ih b s t (fun m hm e => h1 m hm (by rw [e]; rfl)) (fun m hm e => h2 m hm (by rw [e]; rfl)) (fun e => h3 (by rw [e]))
     · rw [if_neg q, if_neg q]
structure Pla (μ : Type) where
 l : List μ
 cost : Int
def Pla.app {μ : Type} (p : Pla μ) (s : List μ) (d : Int) : Pla μ := ⟨p.l ++ s, p.cost + d⟩
theorem Pla.app_nil {μ : Type} (p : Pla μ) : p.app [] 0 = p := by unfold Pla.app; rw [List.append_nil, Int.add_zero]
theorem Pla.app_app {μ : Type} (p : Pla μ) (s t : List μ) (d e : Int) : (p.app s d).app t e = p.app (s ++ t) (d + e) := by unfold Pla.app; simp [Int.add_assoc]
def lessP {μ : Type} (c : μ → μ → Int) (p q : Pla μ) : Bool := if p.cost ≠ q.cost then decide (p.cost < q.cost) else decide (cmpF c p.l q.l < 0)
theorem lessP_iff {μ : Type} {c : μ → μ → Int} {p q : Pla μ} : lessP c p q = true ↔ p.cost < q.cost ∨ p.cost = q.cost ∧ cmpF c p.l q.l < 0 := by
 unfold lessP
 by_cases h : p.cost = q.cost
 · rw [if_neg (by simpa using h), decide_eq_true_eq]; constructor
   · exact fun z => .inr ⟨h, z⟩
   · rintro (z | z)
     · omega
     · exact z.2
 · rw [if_pos h, decide_eq_true_eq]; constructor
   · exact fun z => .inl z
   · rintro (z | z)
     · exact z
     · exact absurd z.1 h
theorem lessP_tr {μ : Type} {c : μ → μ → Int} (h : COrd c) {p q r : Pla μ} (h1 : lessP c p q = true) (h2 : lessP c q r = true) : lessP c p r = true := by
 rw [lessP_iff] at *
 rcases h1 with a | ⟨a, a2⟩ <;> rcases h2 with b | ⟨b, b2⟩
 · left; omega
 · left; omega
 · left; omega
 · right; exact ⟨by omega, h.list.tr _ _ _ a2 b2⟩
theorem lessP_irr {μ : Type} {c : μ → μ → Int} (h : COrd c) (p : Pla μ) : lessP c p p = false := by
 rw [Bool.eq_false_iff]; intro z
 rw [lessP_iff] at z
 have := h.list.refl p.l
 omega
theorem lessP_tot {μ : Type} {c : μ → μ → Int} (h : COrd c) (p q : Pla μ) : lessP c p q = true ∨ p = q ∨ lessP c q p = true := by
 rw [lessP_iff, lessP_iff]
 rcases Int.lt_trichotomy p.cost q.cost with a | a | a
 · exact .inl (.inl a)
 · rcases Int.lt_trichotomy (cmpF c p.l q.l) 0 with b | b | b
   · exact .inl (.inr ⟨a, b⟩)
   · right; left
     have := (h.list.eq p.l q.l).1 b
     cases p; cases q; simp_all
   · exact .inr (.inr (.inr ⟨a.symm, (h.list.sw q.l p.l).2 b⟩))
 · exact .inr (.inr (.inl a))
theorem lessP_nle {μ : Type} {c : μ → μ → Int} (h : COrd c) {p q r : Pla μ} (h1 : lessP c q p = false) (h2 : lessP c r q = false) : lessP c r p = false := by
 rw [Bool.eq_false_iff] at *
 intro z
 rcases lessP_tot h q r with a | a | a
 · exact h1 (lessP_tr h a z)
 · subst a; exact h1 z
 · exact h2 a
abbrev PMap (μ : Type) := List UInt8 → Option (Pla μ)
def MinOf {μ : Type} (c : μ → μ → Int) (M : PMap μ) (S : List UInt8 → Pla μ → Prop) : Prop :=
 ∀ σ, match M σ with
  | none => ∀ p, ¬ S σ p
  | some q => S σ q ∧ ∀ p, S σ p → lessP c p q = false
theorem MinOf.congr {μ : Type} {c : μ → μ → Int} {M : PMap μ} {S S' : List UInt8 → Pla μ → Prop} (h : MinOf c M S) (hs : ∀ σ p, S σ p ↔ S' σ p) : MinOf c M S' := by
 intro σ
 have := h σ
 cases q : M σ with
 | none => rw [q] at this; exact fun p hp => this p ((hs σ p).2 hp)
 | some r => rw [q] at this; exact ⟨(hs σ r).1 this.1, fun p hp => this.2 p ((hs σ p).2 hp)⟩
def insM {μ : Type} (c : μ → μ → Int) (M : PMap μ) (σ : List UInt8) (p : Pla μ) : PMap μ := fun τ => if τ = σ then (match M σ with
 | none => some p
 | some old => if lessP c p old = true then some p else some old) else M τ
theorem MinOf.ins {μ : Type} {c : μ → μ → Int} (hc : COrd c) {M : PMap μ} {S : List UInt8 → Pla μ → Prop} (h : MinOf c M S) (σ : List UInt8) (p : Pla μ) : MinOf c (insM c M σ p) (fun τ q => S τ q ∨ (τ = σ ∧ q = p)) := by
 intro τ
 have h1 := h τ
 unfold insM
 by_cases e : τ = σ
 · subst e
   simp only [if_true]
   cases q : M τ with
   | none =>
     rw [q] at h1
     refine ⟨.inr (by simp), fun r hr => ?_⟩
     rcases hr with hr | ⟨_, rfl⟩
     · exact absurd hr (h1 r)
     · exact lessP_irr hc _
   | some old =>
     rw [q] at h1
     obtain ⟨h2, h3⟩ := h1
     by_cases w : lessP c p old = true
     · simp only [if_pos w]
       refine ⟨.inr (by simp), fun r hr => ?_⟩
       rcases hr with hr | ⟨_, rfl⟩
       · rw [Bool.eq_false_iff]; intro z
         have := h3 r hr
         rw [lessP_tr hc z w] at this; cases this
       · exact lessP_irr hc _
     · simp only [if_neg w]
       refine ⟨.inl h2, fun r hr => ?_⟩
       rcases hr with hr | ⟨_, rfl⟩
       · exact h3 r hr
       · simpa using w
 · simp only [if_neg e]
   cases q : M τ with
   | none =>
     rw [q] at h1
     intro r hr
     rcases hr with hr | hr
     · exact h1 r hr
     · exact e hr.1
   | some old =>
     rw [q] at h1
     refine ⟨.inl h1.1, fun r hr => ?_⟩
     rcases hr with hr | hr
     · exact h1.2 r hr
     · exact absurd hr.1 e
structure Stn (μ : Type) where
 way : Nat → Option Int
 mv : Nat → Int → μ
 many : Int
def stL (st : List UInt8) (k : Nat) (n : Int) : List UInt8 := st.set k (UInt8.ofNat ((st.getD k 0).toNat - n.toNat))
def rep {α : Type} (F : Int → α → α) : Nat → α → α
 | 0, x => x
 | n + 1, x => F ((n : Int) + 1) (rep F n x)
def sendM {μ : Type} (c : μ → μ → Int) (s : Stn μ) : Nat → Nat → List UInt8 → Int → Pla μ → PMap μ → PMap μ
 | 0, _, st, _, p, M => insM c M st p
 | d + 1, k, st, left, p, M => match s.way k with
   | none => sendM c s d (k + 1) st left p M
   | some car => rep (fun n M => sendM c s d (k + 1) (stL st k n) (left - n) (p.app [s.mv k n] (n * car)) M) (min left (st.getD k 0).toNat).toNat (sendM c s d (k + 1) st left p M)
inductive Cd {μ : Type} (s : Stn μ) : Nat → Nat → List UInt8 → Int → List UInt8 → List μ → Int → Prop
 | fin (k : Nat) (st : List UInt8) (left : Int) : Cd s 0 k st left st [] 0
 | skip (d k : Nat) (st : List UInt8) (left : Int) (st' : List UInt8) (suf : List μ) (dc : Int) (h : Cd s d (k + 1) st left st' suf dc) : Cd s (d + 1) k st left st' suf dc
 | some (d k : Nat) (st : List UInt8) (left : Int) (st' : List UInt8) (suf : List μ) (dc n car : Int) (hw : s.way k = some car) (h1 : 1 ≤ n) (h2 : n ≤ left) (h3 : n ≤ (st.getD k 0).toNat) (h : Cd s d (k + 1) (stL st k n) (left - n) st' suf dc) : Cd s (d + 1) k st left st' (s.mv k n :: suf) (n * car + dc)
theorem send_min {μ : Type} {c : μ → μ → Int} (hc : COrd c) (s : Stn μ) : ∀ (d k : Nat) (st : List UInt8) (left : Int) (p : Pla μ) (M : PMap μ) (S : List UInt8 → Pla μ → Prop), MinOf c M S → MinOf c (sendM c s d k st left p M) (fun σ q => S σ q ∨ ∃ suf dc, Cd s d k st left σ suf dc ∧ q = p.app suf dc) := by
 intro d
 induction d with
 | zero =>
   intro k st left p M S h
   rw [sendM]
   refine (h.ins hc st p).congr fun σ q => ?_
   constructor
   · rintro (z | ⟨rfl, rfl⟩)
     · exact .inl z
     · exact .inr ⟨[], 0, .fin k σ left, q.app_nil.symm⟩
   · rintro (z | ⟨suf, dc, hd, rfl⟩)
     · exact .inl z
     · cases hd
       exact .inr ⟨rfl, p.app_nil⟩
 | succ d ih =>
   intro k st left p M S h
   rw [sendM]
   have h1 := ih (k + 1) st left p M S h
   cases hw : s.way k with
   | none =>
     refine h1.congr fun σ q => ?_
     constructor
     · rintro (z | ⟨suf, dc, hd, rfl⟩)
       · exact .inl z
       · exact .inr ⟨suf, dc, .skip d k st left σ suf dc hd, rfl⟩
     · rintro (z | ⟨suf, dc, hd, rfl⟩)
       · exact .inl z
       · cases hd with
         | skip _ _ _ _ _ _ _ hd => exact .inr ⟨suf, dc, hd, rfl⟩
         | some _ _ _ _ _ suf dc n car hw' _ _ _ _ => rw [hw] at hw'; cases hw'
   | some car =>
     have key : ∀ m : Nat, (m : Int) ≤ left → m ≤ (st.getD k 0).toNat → MinOf c (rep (fun n M => sendM c s d (k + 1) (stL st k n) (left - n) (p.app [s.mv k n] (n * car)) M) m (sendM c s d (k + 1) st left p M))
      (fun σ q => (S σ q ∨ ∃ suf dc, Cd s d (k + 1) st left σ suf dc ∧ q = p.app suf dc) ∨ ∃ n suf dc, (1 ≤ n ∧ n ≤ (m : Int)) ∧ Cd s d (k + 1) (stL st k n) (left - n) σ suf dc ∧ q = p.app (s.mv k n :: suf) (n * car + dc)) := by
      intro m
      induction m with
      | zero =>
        intro _ _
        refine h1.congr fun σ q => ?_
        constructor
        · exact fun z => .inl z
        · rintro (z | ⟨n, _, _, z, _⟩)
          · exact z
          · exfalso; omega
      | succ m ihm =>
        intro hm1 hm2
        have h2 := ih (k + 1) (stL st k ((m : Int) + 1)) (left - ((m : Int) + 1)) (p.app [s.mv k ((m : Int) + 1)] (((m : Int) + 1) * car)) _ _ (ihm (by omega) (by omega))
        refine h2.congr fun σ q => ?_
        constructor
        · rintro ((z | ⟨n, suf, dc, z, z2⟩) | ⟨suf, dc, hd, rfl⟩)
          · exact .inl z
          · exact .inr ⟨n, suf, dc, ⟨z.1, by push_cast; omega⟩, z2⟩
          · exact .inr ⟨(m : Int) + 1, suf, dc, ⟨by omega, by push_cast; omega⟩, hd, by rw [Pla.app_app]; rfl⟩
        · rintro (z | ⟨n, suf, dc, z, hd, rfl⟩)
          · exact .inl (.inl z)
          · by_cases w : n = (m : Int) + 1
            · subst w
              exact .inr ⟨suf, dc, hd, by rw [Pla.app_app]; rfl⟩
            · exact .inl (.inr ⟨n, suf, dc, ⟨z.1, by have := z.2; push_cast at this; omega⟩, hd, rfl⟩)
     by_cases hl : 0 ≤ left
     · refine (key (min left (st.getD k 0).toNat).toNat (by omega) (by omega)).congr fun σ q => ?_
       constructor
       · rintro ((z | ⟨suf, dc, hd, rfl⟩) | ⟨n, suf, dc, z, hd, rfl⟩)
         · exact .inl z
         · exact .inr ⟨suf, dc, .skip d k st left σ suf dc hd, rfl⟩
         · exact .inr ⟨_, _, .some d k st left σ suf dc n car hw z.1 (by omega) (by omega) hd, rfl⟩
       · rintro (z | ⟨suf, dc, hd, rfl⟩)
         · exact .inl (.inl z)
         · cases hd with
           | skip _ _ _ _ _ _ _ hd => exact .inl (.inr ⟨suf, dc, hd, rfl⟩)
           | some _ _ _ _ _ suf dc n car' hw' g1 g2 g3 hd =>
             rw [hw] at hw'; cases hw'
             exact .inr ⟨n, suf, dc, ⟨g1, by omega⟩, hd, rfl⟩
     · have e0 : (min left (st.getD k 0).toNat).toNat = 0 := by omega
       simp only [e0]
       refine h1.congr fun σ q => ?_
       constructor
       · rintro (z | ⟨suf, dc, hd, rfl⟩)
         · exact .inl z
         · exact .inr ⟨suf, dc, .skip d k st left σ suf dc hd, rfl⟩
       · rintro (z | ⟨suf, dc, hd, rfl⟩)
         · exact .inl z
         · cases hd with
           | skip _ _ _ _ _ _ _ hd => exact .inr ⟨suf, dc, hd, rfl⟩
           | some _ _ _ _ _ suf dc n car' hw' g1 g2 g3 hd => exfalso; omega
def runPM {μ : Type} (c : μ → μ → Int) (s : Stn μ) (J : Nat) (E : List (List UInt8 × Pla μ)) (M : PMap μ) : PMap μ := E.foldl (fun M e => sendM c s J 0 e.1 s.many e.2 M) M
theorem runPM_min {μ : Type} {c : μ → μ → Int} (hc : COrd c) (s : Stn μ) (J : Nat) : ∀ (E : List (List UInt8 × Pla μ)) (M : PMap μ) (S : List UInt8 → Pla μ → Prop), MinOf c M S → MinOf c (runPM c s J E M) (fun σ q => S σ q ∨ ∃ e ∈ E, ∃ suf dc, Cd s J 0 e.1 s.many σ suf dc ∧ q = e.2.app suf dc) := by
 intro E
 induction E with
 | nil =>
   intro M S h
   refine h.congr fun σ q => ?_
   constructor
   · exact fun z => .inl z
   · rintro (z | ⟨e, he, _⟩)
     · exact z
     · cases he
 | cons e E ih =>
   intro M S h
   have h1 := ih _ _ (send_min hc s J 0 e.1 s.many e.2 M S h)
   refine h1.congr fun σ q => ?_
   constructor
   · rintro ((z | ⟨suf, dc, z⟩) | ⟨e', he', z⟩)
     · exact .inl z
     · exact .inr ⟨e, List.mem_cons_self .., suf, dc, z⟩
     · exact .inr ⟨e', List.mem_cons_of_mem _ he', z⟩
   · rintro (z | ⟨e', he', z⟩)
     · exact .inl (.inl z)
     · rcases List.mem_cons.1 he' with rfl | w
       · exact .inl (.inr z)
       · exact .inr ⟨e', w, z⟩
def Full {μ : Type} (J : Nat) (σ0 : List UInt8) : List (Stn μ) → List UInt8 → Pla μ → Prop
 | [], σ, p => σ = σ0 ∧ p = ⟨[], 0⟩
 | s :: L, σ', p' => ∃ σ p suf dc, Full J σ0 L σ p ∧ Cd s J 0 σ s.many σ' suf dc ∧ p' = p.app suf dc
def totL {μ : Type} (num : μ → Int) (l : List μ) : Int := (l.map num).sum
def totS (st : List UInt8) : Int := (st.map fun b => (b.toNat : Int)).sum
theorem totS_set : ∀ {st : List UInt8} {k : Nat} {n : Int}, 1 ≤ n → n ≤ (st.getD k 0).toNat → totS (stL st k n) = totS st - n
 | [], k, n, h1, h2 => by simp at h2; omega
 | b :: st, 0, n, h1, h2 => by
   simp only [List.getD_cons_zero] at h2
   have hb := b.toNat_lt
   have e : (UInt8.ofNat (b.toNat - n.toNat)).toNat = b.toNat - n.toNat := by
    rw [UInt8.toNat_ofNat']; exact Nat.mod_eq_of_lt (by omega)
   unfold stL totS
   simp only [List.set_cons_zero, List.map_cons, List.sum_cons, List.getD_cons_zero, e]
   omega
 | b :: st, k + 1, n, h1, h2 => by
   simp only [List.getD_cons_succ] at h2
   have := totS_set h1 h2
   unfold stL totS at *
   simp only [List.set_cons_succ, List.map_cons, List.sum_cons, List.getD_cons_succ]
   omega
theorem cd_tot {μ : Type} {num : μ → Int} {s : Stn μ} (hn : ∀ k n, num (s.mv k n) = n) {d k : Nat} {st st' : List UInt8} {left dc : Int} {suf : List μ} (h : Cd s d k st left st' suf dc) : totL num suf + totS st' = totS st ∧ ∀ m ∈ suf, 1 ≤ num m := by
 induction h with
 | fin => exact ⟨by simp [totL], by simp⟩
 | skip _ _ _ _ _ _ _ _ ih => exact ih
 | some d k st left st' suf dc n car hw h1 h2 h3 h ih =>
   have e := totS_set h1 h3
   refine ⟨?_, fun m hm => ?_⟩
   · have := ih.1
     unfold totL at *
     rw [List.map_cons, List.sum_cons, hn]
     omega
   · rcases List.mem_cons.1 hm with rfl | q
     · rw [hn]; exact h1
     · exact ih.2 m q
theorem totL_app {μ : Type} (num : μ → Int) (a b : List μ) : totL num (a ++ b) = totL num a + totL num b := by unfold totL; rw [List.map_append, List.sum_append]
theorem full_tot {μ : Type} {num : μ → Int} {J : Nat} {σ0 : List UInt8} : ∀ {L : List (Stn μ)}, (∀ s ∈ L, ∀ k n, num (s.mv k n) = n) → ∀ {σ p}, Full J σ0 L σ p → totL num p.l + totS σ = totS σ0 ∧ ∀ m ∈ p.l, 1 ≤ num m
 | [], _, σ, p, h => by obtain ⟨rfl, rfl⟩ := h; exact ⟨by simp [totL], by simp⟩
 | s :: L, hn, σ', p', ⟨σ, p, suf, dc, h1, h2, e⟩ => by
   subst e
   have i1 := full_tot (fun s hs => hn s (List.mem_cons_of_mem _ hs)) h1
   have i2 := cd_tot (hn s (List.mem_cons_self ..)) h2
   refine ⟨?_, fun m hm => ?_⟩
   · show totL num (p.l ++ suf) + _ = _
     rw [totL_app]
     have := i1.1
     have := i2.1
     omega
   · rcases List.mem_append.1 hm with q | q
     · exact i1.2 m q
     · exact i2.2 m q
theorem tot_pos {μ : Type} {num : μ → Int} : ∀ {l : List μ}, l ≠ [] → (∀ m ∈ l, 1 ≤ num m) → 1 ≤ totL num l
 | [], h, _ => absurd rfl h
 | [m], _, h => by have := h m (by simp); unfold totL; simpa using this
 | m :: x :: l, _, h => by
   have h1 := h m (by simp)
   have h2 := tot_pos (l := x :: l) (by simp) (fun y hy => h y (List.mem_cons_of_mem _ hy))
   unfold totL at *
   rw [List.map_cons, List.sum_cons]
   omega
theorem app_mono {μ : Type} {c : μ → μ → Int} (hc : COrd c) {num : μ → Int} {p q : Pla μ} (hp : ∀ m ∈ p.l, 1 ≤ num m) (hq : ∀ m ∈ q.l, 1 ≤ num m) (ht : totL num p.l = totL num q.l) (h : lessP c q p = false) (s : List μ) (d : Int) : lessP c (q.app s d) (p.app s d) = false := by
 rw [Bool.eq_false_iff] at *
 intro z
 apply h
 rw [lessP_iff] at *
 rcases z with z | ⟨z1, z2⟩
 · left
   have z : q.cost + d < p.cost + d := z
   omega
 · right
   have z1 : q.cost + d = p.cost + d := z1
   refine ⟨by omega, ?_⟩
   have z2 : cmpF c (q.l ++ s) (p.l ++ s) < 0 := z2
   by_cases e : q.l = p.l
   · rw [e, hc.list.refl] at z2; omega
   · rw [cmpF_app hc q.l p.l s s ?_ ?_ e] at z2
     · exact z2
     · intro m hm e2
       rw [e2, totL_app] at ht
       have := tot_pos hm (fun x hx => hq x (by rw [e2]; exact List.mem_append_right _ hx))
       omega
     · intro m hm e2
       rw [e2, totL_app] at ht
       have := tot_pos hm (fun x hx => hp x (by rw [e2]; exact List.mem_append_right _ hx))
       omega
theorem now_init {μ : Type} (c : μ → μ → Int) (hc : COrd c) (J : Nat) (σ0 : List UInt8) : MinOf c (fun τ => if τ = σ0 then some ⟨[], 0⟩ else none) (Full (μ := μ) J σ0 []) := by
 intro σ
 by_cases q : σ = σ0
 · simp only [if_pos q]
   refine ⟨⟨q, rfl⟩, fun p hp => ?_⟩
   obtain ⟨_, rfl⟩ := hp
   exact lessP_irr hc _
 · simp only [if_neg q]
   intro p hp
   exact q hp.1
theorem now_step {μ : Type} {c : μ → μ → Int} (hc : COrd c) {num : μ → Int} {J : Nat} {σ0 : List UInt8} {L : List (Stn μ)} (hn : ∀ s ∈ L, ∀ k n, num (s.mv k n) = n) (s : Stn μ) {now : PMap μ} (h : MinOf c now (Full J σ0 L)) {E : List (List UInt8 × Pla μ)} (hE : ∀ σ p, (σ, p) ∈ E ↔ now σ = some p) :
 MinOf c (runPM c s J E (fun _ => none)) (Full J σ0 (s :: L)) := by
 have h1 := runPM_min hc s J E (fun _ => none) (fun _ _ => False) (fun σ p z => z)
 intro σ'
 have h2 := h1 σ'
 have hlow : ∀ σ p suf dc, Full J σ0 L σ p → Cd s J 0 σ s.many σ' suf dc → ∃ r, (σ, r) ∈ E ∧ lessP c (p.app suf dc) (r.app suf dc) = false := by
  intro σ p suf dc hf hd
  have h3 := h σ
  cases q : now σ with
  | none => rw [q] at h3; exact absurd hf (h3 p)
  | some r =>
    rw [q] at h3
    have t1 := full_tot hn hf
    have t2 := full_tot hn h3.1
    exact ⟨r, (hE σ r).2 q, app_mono hc t2.2 t1.2 (by omega) (h3.2 p hf) suf dc⟩
 cases q : runPM c s J E (fun _ => none) σ' with
 | none =>
   rw [q] at h2
   rintro p' ⟨σ, p, suf, dc, hf, hd, rfl⟩
   obtain ⟨r, hr, _⟩ := hlow σ p suf dc hf hd
   exact h2 (r.app suf dc) (.inr ⟨_, hr, suf, dc, hd, rfl⟩)
 | some r' =>
   rw [q] at h2
   obtain ⟨h3, h4⟩ := h2
   refine ⟨?_, ?_⟩
   · rcases h3 with z | ⟨⟨σ, r⟩, he, suf, dc, hd, rfl⟩
     · exact z.elim
     · have h5 := h σ
       rw [(hE σ r).1 he] at h5
       exact ⟨σ, r, suf, dc, h5.1, hd, rfl⟩
   · rintro p' ⟨σ, p, suf, dc, hf, hd, rfl⟩
     obtain ⟨r, hr, hl⟩ := hlow σ p suf dc hf hd
     exact lessP_nle hc (h4 _ (.inr ⟨_, hr, suf, dc, hd, rfl⟩)) hl
def lsV {μ : Type} (m : Nat → Int → μ) : Nat → Nat → (Nat → Int) → List μ
 | 0, _, _ => []
 | n + 1, a, x => (if 0 < x 0 then [m a (x 0)] else []) ++ lsV m n (a + 1) (vtl x)
theorem lsV_head {μ : Type} (m : Nat → Int → μ) : ∀ n a x, lsV m n a x = [] ∨ ∃ b v l, (a ≤ b ∧ b < a + n) ∧ lsV m n a x = m b v :: l
 | 0, _, _ => .inl rfl
 | n + 1, a, x => by
   rw [lsV]
   by_cases q : 0 < x 0
   · rw [if_pos q]; exact .inr ⟨a, x 0, _, ⟨Nat.le_refl _, by omega⟩, rfl⟩
   · rw [if_neg q, List.nil_append]
     rcases lsV_head m n (a + 1) (vtl x) with h | ⟨b, v, l, h1, h2⟩
     · exact .inl h
     · exact .inr ⟨b, v, l, ⟨by omega, by omega⟩, h2⟩
theorem lsV_tot {μ : Type} {num : μ → Int} {m : Nat → Int → μ} (hn : ∀ a v, num (m a v) = v) : ∀ n a x, (∀ k, k < n → 0 ≤ x k) → totL num (lsV m n a x) = su x n
 | 0, _, _, _ => rfl
 | n + 1, a, x, h => by
   rw [lsV, totL_app, lsV_tot hn n (a + 1) (vtl x) (fun k hk => h (k + 1) (by omega)), su_cons]
   have h0 := h 0 (by omega)
   congr 1
   by_cases q : 0 < x 0
   · rw [if_pos q]; simp [totL, hn]
   · rw [if_neg q]; simp [totL]; omega
theorem bef_ls {μ : Type} {c : μ → μ → Int} (hc : COrd c) {num : μ → Int} {m : Nat → Int → μ} (hn : ∀ a v, num (m a v) = v) (h1 : ∀ a u v, u < v → c (m a u) (m a v) < 0) {K : Nat} (h2 : ∀ a b u v, a < b → b < K → c (m a u) (m b v) < 0) :
 ∀ n a x y, a + n ≤ K → (∀ k, k < n → 0 ≤ x k) → (∀ k, k < n → 0 ≤ y k) → su x n = su y n → Bef n x y → cmpF c (lsV m n a x) (lsV m n a y) < 0
 | 0, _, _, _, _, _, _, _, h => by obtain ⟨k, hk, _⟩ := h; omega
 | n + 1, a, x, y, hK, hx, hy, hs, ⟨k, k1, k2, k3, k4⟩ => by
   rw [su_cons, su_cons] at hs
   cases k with
   | zero =>
     rw [lsV, lsV, if_pos (by omega)]
     have hx2 : 0 ≤ su (fun k => x (k + 1)) n := su_nn fun k hk => hx (k + 1) (by omega)
     rcases k4 with w | w
     · rw [if_neg (by omega), List.nil_append]
       rcases lsV_head m n (a + 1) (vtl y) with e | ⟨b, v, l, e1, e2⟩
       · exfalso
         have := lsV_tot hn n (a + 1) (vtl y) (fun k hk => hy (k + 1) (by omega))
         rw [e] at this
         have t0 : totL num [] = 0 := rfl
         rw [t0] at this
         have : su (fun k => y (k + 1)) n = 0 := this.symm
         omega
       · rw [e2]
         show (if c (m a (x 0)) (m b v) = 0 then _ else c (m a (x 0)) (m b v)) < 0
         have := h2 a b (x 0) v (by omega) (by omega)
         rw [if_neg (by omega)]; exact this
     · rw [if_pos (by omega)]
       show (if c (m a (x 0)) (m a (y 0)) = 0 then _ else c (m a (x 0)) (m a (y 0))) < 0
       have := h1 a (x 0) (y 0) w
       rw [if_neg (by omega)]; exact this
   | succ k =>
     have e0 := k2 0 (by omega)
     have ih := bef_ls hc hn h1 h2 n (a + 1) (vtl x) (vtl y) (by omega) (fun k hk => hx (k + 1) (by omega)) (fun k hk => hy (k + 1) (by omega)) (by show su (fun k => x (k + 1)) n = su (fun k => y (k + 1)) n; omega) ⟨k, by omega, fun j hj => k2 (j + 1) (by omega), k3, k4⟩
     rw [lsV, lsV, e0]
     by_cases q : 0 < y 0
     · rw [if_pos q]
       show (if c (m a (y 0)) (m a (y 0)) = 0 then cmpF c (lsV m n (a + 1) (vtl x)) (lsV m n (a + 1) (vtl y)) else _) < 0
       rw [if_pos (hc.refl _)]; exact ih
     · rw [if_neg q]; exact ih
structure Lay {μ : Type} (G : Nw) (B : Nat → Bool) (S J : Nat) (ns nw : Nat → Nat) (stn : Nat → Stn μ) (m : Nat → Int → μ) (pos : Nat → Nat → Nat) : Prop where
 pend : pos S 0 = G.K
 pnext : ∀ i, i < S → pos (i + 1) 0 = pos i J
 pnone : ∀ i k, i < S → k < J → (stn i).way k = none → pos i (k + 1) = pos i k
 psome : ∀ i k car, i < S → k < J → (stn i).way k = some car → pos i (k + 1) = pos i k + 1 ∧ pos i k < G.K ∧ G.fr (pos i k) = ns i ∧ G.to (pos i k) = nw k ∧ G.c (pos i k) = car ∧ ∀ n, m (pos i k) n = (stn i).mv k n
 ns1 : ∀ i, i < S → ns i < G.N ∧ B (ns i) = true
 ns2 : ∀ i j, i < S → j < S → ns i = ns j → i = j
 nw1 : ∀ k, k < J → nw k < G.N ∧ B (nw k) = false
 nw2 : ∀ k j, k < J → j < J → nw k = nw j → k = j
 all : ∀ v, v < G.N → B v = false → ∃ k, k < J ∧ v = nw k
def Rs {μ : Type} (stn : Nat → Stn μ) (S J : Nat) : Nat → List UInt8 → List μ → Int → Prop
 | 0, st, suf, dc => (∀ k, k < J → st.getD k 0 = 0) ∧ suf = [] ∧ dc = 0
 | r + 1, st, suf, dc => ∃ st' s1 d1 s2 d2, Cd (stn (S - (r + 1))) J 0 st (stn (S - (r + 1))).many st' s1 d1 ∧ Rs stn S J r st' s2 d2 ∧ suf = s1 ++ s2 ∧ dc = d1 + d2
structure Rel {μ : Type} (G : Nw) (B : Nat → Bool) (S J : Nat) (ns nw : Nat → Nat) (stn : Nat → Stn μ) (i : Nat) (st : List UInt8) (left : Int) (h w : Nat → Int) : Prop where
 l0 : 0 ≤ left
 hi : i < S → h (ns i) = left
 later : ∀ j, i < j → j < S → h (ns j) = (stn j).many
 other : ∀ v, v < G.N → B v = true → (∀ j, i ≤ j → j < S → v ≠ ns j) → 0 ≤ h v
 want : ∀ k, k < J → w (nw k) = (st.getD k 0).toNat
theorem stL_get {st : List UInt8} {k j : Nat} {n : Int} (h1 : 1 ≤ n) (h2 : n ≤ (st.getD k 0).toNat) : (((stL st k n).getD j 0).toNat : Int) = (st.getD j 0).toNat - (if j = k then n else 0) := by
 unfold stL
 have hb := (st.getD k 0).toNat_lt
 have hk : k < st.length := by
  rcases Nat.lt_or_ge k st.length with q | q
  · exact q
  · rw [List.getD_eq_getElem?_getD, List.getElem?_eq_none q] at h2; simp at h2; omega
 rw [List.getD_eq_getElem?_getD, List.getElem?_set]
 by_cases q : k = j
 · subst q
   rw [if_pos rfl, if_pos rfl]
   simp only [hk, if_true, Option.getD_some]
   rw [UInt8.toNat_ofNat', Nat.mod_eq_of_lt (by omega)]
   omega
 · rw [if_neg q, if_neg (fun z => q z.symm), ← List.getD_eq_getElem?_getD]; omega
theorem les_zero (h : Nat → Int) (v : Nat) : les h v 0 = h := by funext i; rw [les_at]; split <;> omega
theorem slots_end {μ : Type} {G : Nw} {B : Nat → Bool} {S J : Nat} {ns nw : Nat → Nat} {stn : Nat → Stn μ} {m : Nat → Int → μ} {pos : Nat → Nat → Nat} (Y : Lay G B S J ns nw stn m pos) {st : List UInt8} {h w : Nat → Int} (h0 : ∀ v, v < G.N → B v = true → 0 ≤ h v) (hw : ∀ k, k < J → w (nw k) = (st.getD k 0).toNat) (suf : List μ) (dc : Int) :
 Rs stn S J 0 st suf dc ↔ ∃ x, (G.sh G.K).Fl B h w x ∧ suf = lsV m (G.K - G.K) G.K x ∧ dc = (G.sh G.K).cost x := by
 have hK : (G.sh G.K).K = 0 := by show G.K - G.K = 0; omega
 have hn : ∀ (y : Nat → Int) v, (G.sh G.K).net y v = 0 := fun y v => by unfold Nw.net; rw [hK]; rfl
 have hc : ∀ y : Nat → Int, (G.sh G.K).cost y = 0 := fun y => by unfold Nw.cost; rw [hK]; rfl
 have hl : ∀ y : Nat → Int, lsV m (G.K - G.K) G.K y = [] := fun y => by rw [Nat.sub_self]; rfl
 constructor
 · rintro ⟨z1, z2, z3⟩
   refine ⟨fun _ => 0, ⟨fun k hk => by omega, fun v hv q => by rw [hn]; exact h0 v hv q, fun v hv q => ?_⟩, by rw [hl]; exact z2, by rw [hc]; exact z3⟩
   obtain ⟨k, hk, rfl⟩ := Y.all v hv q
   rw [hn, hw k hk, z1 k hk]; rfl
 · rintro ⟨x, hx, e1, e2⟩
   refine ⟨fun k hk => ?_, by rw [e1, hl], by rw [e2, hc]⟩
   have := hx.dst _ (Y.nw1 k hk).1 (Y.nw1 k hk).2
   rw [hn, hw k hk] at this
   have h2 : (st.getD k 0).toNat = 0 := by omega
   exact UInt8.toNat_inj.1 h2
theorem Rel.less {μ : Type} {G : Nw} {B : Nat → Bool} {S J : Nat} {ns nw : Nat → Nat} {stn : Nat → Stn μ} {m : Nat → Int → μ} {pos : Nat → Nat → Nat} (Y : Lay G B S J ns nw stn m pos) {i k : Nat} (hi : i < S) (hk : k < J) {st : List UInt8} {left n : Int} {h w : Nat → Int} (hr : Rel G B S J ns nw stn i st left h w) (h1 : 1 ≤ n) (h2 : n ≤ left) (h3 : n ≤ (st.getD k 0).toNat) :
 Rel G B S J ns nw stn i (stL st k n) (left - n) (les h (ns i) n) (les w (nw k) n) := by
 refine ⟨by omega, fun _ => ?_, fun j hj hj2 => ?_, fun v hv q hn => ?_, fun j hj => ?_⟩
 · rw [les_at, if_pos rfl, hr.hi hi]
 · rw [les_at, if_neg (fun z => by have := Y.ns2 i j hi hj2 z; omega), hr.later j hj hj2]; omega
 · rw [les_at, if_neg (fun z => hn i (Nat.le_refl _) hi z.symm)]
   have := hr.other v hv q hn
   omega
 · rw [les_at, stL_get h1 h3, hr.want j hj]
   by_cases q : j = k
   · subst q; rw [if_pos rfl, if_pos rfl]
   · rw [if_neg (fun z => q (Y.nw2 k j hk hj z).symm), if_neg q]
theorem slots_slot {μ : Type} {G : Nw} {B : Nat → Bool} (hb : G.Bip B) {S J : Nat} {ns nw : Nat → Nat} {stn : Nat → Stn μ} {m : Nat → Int → μ} {pos : Nat → Nat → Nat} (Y : Lay G B S J ns nw stn m pos) {i d k : Nat} (hi : i < S) (hk : k + (d + 1) = J) (R : List UInt8 → List μ → Int → Prop)
 (ih : ∀ st left h w, Rel G B S J ns nw stn i st left h w → ∀ suf dc, (∃ st' s1 d1 s2 d2, Cd (stn i) d (k + 1) st left st' s1 d1 ∧ R st' s2 d2 ∧ suf = s1 ++ s2 ∧ dc = d1 + d2) ↔ ∃ x, (G.sh (pos i (k + 1))).Fl B h w x ∧ suf = lsV m (G.K - pos i (k + 1)) (pos i (k + 1)) x ∧ dc = (G.sh (pos i (k + 1))).cost x) :
 ∀ st left h w, Rel G B S J ns nw stn i st left h w → ∀ suf dc, (∃ st' s1 d1 s2 d2, Cd (stn i) (d + 1) k st left st' s1 d1 ∧ R st' s2 d2 ∧ suf = s1 ++ s2 ∧ dc = d1 + d2) ↔ ∃ x, (G.sh (pos i k)).Fl B h w x ∧ suf = lsV m (G.K - pos i k) (pos i k) x ∧ dc = (G.sh (pos i k)).cost x := by
 intro st left h w hr suf dc
 have hkJ : k < J := by omega
 cases hw : (stn i).way k with
 | none =>
   have hp := Y.pnone i k hi hkJ hw
   rw [hp] at ih
   rw [← ih st left h w hr suf dc]
   constructor
   · rintro ⟨st', s1, d1, s2, d2, hd, z⟩
     cases hd with
     | skip _ _ _ _ _ _ _ hd => exact ⟨st', s1, d1, s2, d2, hd, z⟩
     | some _ _ _ _ _ _ _ n car hw' _ _ _ _ => rw [hw] at hw'; cases hw'
   · rintro ⟨st', s1, d1, s2, d2, hd, z⟩
     exact ⟨st', s1, d1, s2, d2, .skip d k st left st' s1 d1 hd, z⟩
 | some car =>
   obtain ⟨p1, p2, p3, p4, p5, p6⟩ := Y.psome i k car hi hkJ hw
   rw [p1] at ih
   have hKs : G.K - pos i k = (G.K - (pos i k + 1)) + 1 := by omega
   constructor
   · rintro ⟨st', s1, d1, s2, d2, hd, hR, rfl, rfl⟩
     cases hd with
     | skip _ _ _ _ _ _ _ hd =>
       obtain ⟨x, hx, e1, e2⟩ := (ih st left h w hr (s1 ++ s2) (d1 + d2)).1 ⟨st', s1, d1, s2, d2, hd, hR, rfl, rfl⟩
       refine ⟨vcons 0 x, (Nw.fl_cons hb p2).2 ⟨Int.le_refl _, ?_⟩, ?_, ?_⟩
       · show (G.sh (pos i k + 1)).Fl B (les h (G.fr (pos i k)) 0) (les w (G.to (pos i k)) 0) x
         rw [les_zero, les_zero]; exact hx
       · rw [hKs, lsV, if_neg (by show ¬ (0 : Int) < 0; omega)]; exact e1
       · rw [Nw.cost_cons p2]
         show _ = 0 * G.c (pos i k) + (G.sh (pos i k + 1)).cost x
         omega
     | some _ _ _ _ _ s1 d1 n car' hw' g1 g2 g3 hd =>
       rw [hw] at hw'; cases hw'
       obtain ⟨x, hx, e1, e2⟩ := (ih (stL st k n) (left - n) (les h (ns i) n) (les w (nw k) n) (hr.less Y hi hkJ g1 g2 g3) (s1 ++ s2) (d1 + d2)).1 ⟨st', s1, d1, s2, d2, hd, hR, rfl, rfl⟩
       refine ⟨vcons n x, (Nw.fl_cons hb p2).2 ⟨by show 0 ≤ n; omega, ?_⟩, ?_, ?_⟩
       · show (G.sh (pos i k + 1)).Fl B (les h (G.fr (pos i k)) n) (les w (G.to (pos i k)) n) x
         rw [p3, p4]; exact hx
       · rw [hKs, lsV, if_pos (by show (0 : Int) < n; omega)]
         show (stn i).mv k n :: s1 ++ s2 = [m (pos i k) n] ++ lsV m (G.K - (pos i k + 1)) (pos i k + 1) x
         rw [p6, ← e1]; rfl
       · rw [Nw.cost_cons p2]
         show _ = n * G.c (pos i k) + (G.sh (pos i k + 1)).cost x
         rw [p5]; omega
   · rintro ⟨x, hx, e1, e2⟩
     have hf := hx.first hb p2
     obtain ⟨h0, hx2⟩ := (Nw.fl_cons hb p2).1 hx
     rw [p3, p4] at hf hx2
     rw [hr.hi hi, hr.want k hkJ] at hf
     rw [hKs, lsV] at e1
     rw [Nw.cost_cons p2, p5] at e2
     by_cases q : 0 < x 0
     · obtain ⟨st', s1, d1, s2, d2, hd, hR, f1, f2⟩ := (ih (stL st k (x 0)) (left - x 0) (les h (ns i) (x 0)) (les w (nw k) (x 0)) (hr.less Y hi hkJ (by omega) (by omega) (by omega)) _ _).2 ⟨vtl x, hx2, rfl, rfl⟩
       refine ⟨st', (stn i).mv k (x 0) :: s1, x 0 * car + d1, s2, d2, .some d k st left st' s1 d1 (x 0) car hw (by omega) (by omega) (by omega) hd, hR, ?_, by omega⟩
       rw [e1, if_pos q, p6, f1]; rfl
     · have q0 : x 0 = 0 := by omega
       rw [q0, les_zero, les_zero] at hx2
       obtain ⟨st', s1, d1, s2, d2, hd, hR, f1, f2⟩ := (ih st left h w hr _ _).2 ⟨vtl x, hx2, rfl, rfl⟩
       refine ⟨st', s1, d1, s2, d2, .skip d k st left st' s1 d1 hd, hR, ?_, ?_⟩
       · rw [e1, if_neg q, List.nil_append, f1]
       · rw [e2, q0, Int.zero_mul]; omega
theorem slots {μ : Type} {G : Nw} {B : Nat → Bool} (hb : G.Bip B) {S J : Nat} {ns nw : Nat → Nat} {stn : Nat → Stn μ} {m : Nat → Int → μ} {pos : Nat → Nat → Nat} (Y : Lay G B S J ns nw stn m pos) (hm : ∀ i, i < S → 0 ≤ (stn i).many) :
 ∀ r i, i + (r + 1) = S → ∀ d k, k + d = J → ∀ st left h w, Rel G B S J ns nw stn i st left h w → ∀ suf dc,
 (∃ st' s1 d1 s2 d2, Cd (stn i) d k st left st' s1 d1 ∧ Rs stn S J r st' s2 d2 ∧ suf = s1 ++ s2 ∧ dc = d1 + d2) ↔ ∃ x, (G.sh (pos i k)).Fl B h w x ∧ suf = lsV m (G.K - pos i k) (pos i k) x ∧ dc = (G.sh (pos i k)).cost x := by
 intro r
 induction r with
 | zero =>
   intro i hi d
   induction d with
   | zero =>
     intro k hk st left h w hr suf dc
     have hkJ : k = J := by omega
     subst hkJ
     have hp : pos i k = G.K := by rw [← Y.pend, ← Y.pnext i (by omega), show i + 1 = S by omega]
     rw [hp, ← slots_end Y (st := st) (fun v hv q => ?_) hr.want suf dc]
     · constructor
       · rintro ⟨st', s1, d1, s2, d2, hd, hs, rfl, rfl⟩
         cases hd
         simpa using hs
       · intro hs
         exact ⟨st, [], 0, suf, dc, .fin k st left, hs, by simp, by simp⟩
     · by_cases z : v = ns i
       · rw [z, hr.hi (by omega)]; exact hr.l0
       · exact hr.other v hv q (fun j h1 h2 => by rw [show j = i by omega]; exact z)
   | succ d ih => exact fun k hk => slots_slot hb Y (by omega) hk (Rs stn S J 0) (ih (k + 1) (by omega))
 | succ r ihr =>
   intro i hi d
   induction d with
   | zero =>
     intro k hk st left h w hr suf dc
     have hkJ : k = J := by omega
     subst hkJ
     have hi1 : i + 1 < S := by omega
     have h1 := ihr (i + 1) (by omega) k 0 (by omega) st (stn (i + 1)).many h w ⟨hm _ hi1, fun _ => hr.later (i + 1) (by omega) hi1, fun j hj hj2 => hr.later j (by omega) hj2, fun v hv q hn => ?_, hr.want⟩ suf dc
     · rw [← Y.pnext i (by omega), ← h1]
       have e : S - (r + 1) = i + 1 := by omega
       constructor
       · rintro ⟨st', s1, d1, s2, d2, hd, hs, rfl, rfl⟩
         cases hd
         rw [Rs, e] at hs
         obtain ⟨st2, t1, e1, t2, e2, hd2, hs2, f1, f2⟩ := hs
         exact ⟨st2, t1, e1, t2, e2, hd2, hs2, by rw [f1]; rfl, by omega⟩
       · rintro ⟨st2, t1, e1, t2, e2, hd2, hs2, rfl, rfl⟩
         refine ⟨st, [], 0, t1 ++ t2, e1 + e2, .fin k st left, ?_, rfl, by omega⟩
         rw [Rs, e]
         exact ⟨st2, t1, e1, t2, e2, hd2, hs2, rfl, rfl⟩
     · by_cases z : v = ns i
       · rw [z, hr.hi (by omega)]; exact hr.l0
       · exact hr.other v hv q (fun j h1 h2 => by
          rcases Nat.lt_or_ge i j with w | w
          · exact hn j (by omega) h2
          · rw [show j = i by omega]; exact z)
   | succ d ih => exact fun k hk => slots_slot hb Y (by omega) hk (Rs stn S J (r + 1)) (ih (k + 1) (by omega))
def firstL {μ : Type} (stn : Nat → Stn μ) : Nat → List (Stn μ)
 | 0 => []
 | i + 1 => stn i :: firstL stn i
theorem firstL_mem {μ : Type} {stn : Nat → Stn μ} {s : Stn μ} : ∀ {n : Nat}, s ∈ firstL stn n → ∃ i, i < n ∧ s = stn i
 | 0, h => by cases h
 | n + 1, h => by
   rcases List.mem_cons.1 h with q | q
   · exact ⟨n, by omega, q⟩
   · obtain ⟨i, h1, h2⟩ := firstL_mem q; exact ⟨i, by omega, h2⟩
theorem rs_full {μ : Type} {stn : Nat → Stn μ} {S J : Nat} {σ0 : List UInt8} {s : List μ} {d : Int} : ∀ i, i ≤ S → (Rs stn S J S σ0 s d ↔ ∃ σ p suf dc, Full J σ0 (firstL stn i) σ p ∧ Rs stn S J (S - i) σ suf dc ∧ s = p.l ++ suf ∧ d = p.cost + dc) := by
 intro i
 induction i with
 | zero =>
   intro _
   constructor
   · intro h; exact ⟨σ0, ⟨[], 0⟩, s, d, ⟨rfl, rfl⟩, h, rfl, by show d = 0 + d; omega⟩
   · rintro ⟨σ, p, suf, dc, ⟨rfl, rfl⟩, h, e1, e2⟩
     have e1 : s = suf := e1
     have e2 : d = 0 + dc := e2
     rw [e1, e2, Int.zero_add]; exact h
 | succ i ih =>
   intro hi
   rw [ih (by omega)]
   have e1 : S - i = (S - (i + 1)) + 1 := by omega
   have e2 : S - (S - (i + 1) + 1) = i := by omega
   constructor
   · rintro ⟨σ, p, suf, dc, hf, hr, rfl, rfl⟩
     rw [e1, Rs, e2] at hr
     obtain ⟨st', s1, d1, s2, d2, hd, hr2, rfl, rfl⟩ := hr
     exact ⟨st', p.app s1 d1, s2, d2, ⟨σ, p, s1, d1, hf, hd, rfl⟩, hr2, by unfold Pla.app; simp, by unfold Pla.app; show p.cost + (d1 + d2) = p.cost + d1 + d2; omega⟩
   · rintro ⟨σ', p', suf, dc, ⟨σ, p, s1, d1, hf, hd, rfl⟩, hr, rfl, rfl⟩
     refine ⟨σ, p, s1 ++ suf, d1 + dc, hf, ?_, by unfold Pla.app; simp, by unfold Pla.app; show p.cost + d1 + dc = p.cost + (d1 + dc); omega⟩
     rw [e1, Rs, e2]
     exact ⟨σ', s1, d1, suf, dc, hd, hr, rfl, rfl⟩
theorem cd_len {μ : Type} {s : Stn μ} {d k : Nat} {st st' : List UInt8} {left dc : Int} {suf : List μ} (h : Cd s d k st left st' suf dc) : st'.length = st.length := by
 induction h with
 | fin => rfl
 | skip _ _ _ _ _ _ _ _ ih => exact ih
 | some _ _ _ _ _ _ _ _ _ _ _ _ _ _ ih => rw [ih]; unfold stL; rw [List.length_set]
theorem full_len {μ : Type} {J : Nat} {σ0 : List UInt8} : ∀ {L : List (Stn μ)} {σ p}, Full J σ0 L σ p → σ.length = σ0.length
 | [], _, _, h => by rw [h.1]
 | _ :: _, _, _, ⟨_, _, _, _, h1, h2, _⟩ => by rw [cd_len h2, full_len h1]
theorem zero_state {J : Nat} {σ : List UInt8} (h : σ.length = J) : (∀ k, k < J → σ.getD k 0 = 0) ↔ σ = List.replicate J 0 := by
 constructor
 · intro z
   refine List.ext_getElem (by simp [h]) (fun k h1 h2 => ?_)
   have := z k (by omega)
   rw [List.getD_eq_getElem?_getD, List.getElem?_eq_getElem h1] at this
   simpa using this
 · rintro rfl k hk
   simp [List.getD_eq_getElem?_getD, hk]
theorem Nw.sh_zero (G : Nw) : G.sh 0 = G := by
 cases G
 simp [Nw.sh]
theorem bef_tot : ∀ {n : Nat} {x y : Nat → Int}, (∀ k, k < n → 0 ≤ x k) → (∀ k, k < n → 0 ≤ y k) → (∀ k, k < n → y k = x k) ∨ Bef n x y ∨ Bef n y x
 | 0, _, _, _, _ => .inl fun k hk => by omega
 | n + 1, x, y, hx, hy => by
   rcases bef_tot (n := n) (fun k hk => hx k (by omega)) (fun k hk => hy k (by omega)) with h | ⟨k, h1, h2⟩ | ⟨k, h1, h2⟩
   · have a := hx n (by omega)
     have b := hy n (by omega)
     by_cases q : x n = y n
     · left; intro k hk
       rcases Nat.lt_or_ge k n with w | w
       · exact h k w
       · rw [show k = n by omega]; exact q.symm
     · right
       by_cases w : 1 ≤ x n ∧ (y n = 0 ∨ x n < y n)
       · left; exact ⟨n, by omega, fun j hj => (h j hj).symm, w⟩
       · right; exact ⟨n, by omega, fun j hj => h j hj, by omega, by omega⟩
   · exact .inr (.inl ⟨k, by omega, h2⟩)
   · exact .inr (.inr ⟨k, by omega, h2⟩)
theorem full_fl {μ : Type} {G : Nw} {B : Nat → Bool} (hb : G.Bip B) {S J : Nat} {ns nw : Nat → Nat} {stn : Nat → Stn μ} {m : Nat → Int → μ} {pos : Nat → Nat → Nat} (Y : Lay G B S J ns nw stn m pos) (hp0 : pos 0 0 = 0) (hm : ∀ i, i < S → 0 ≤ (stn i).many) {σ0 : List UInt8} (hl : σ0.length = J) {h w : Nat → Int}
 (hh : ∀ i, i < S → h (ns i) = (stn i).many) (ho : ∀ v, v < G.N → B v = true → (∀ j, j < S → v ≠ ns j) → 0 ≤ h v) (hw : ∀ k, k < J → w (nw k) = (σ0.getD k 0).toNat) (p : Pla μ) :
 Full J σ0 (firstL stn S) (List.replicate J 0) p ↔ ∃ x, G.Fl B h w x ∧ p.l = lsV m G.K 0 x ∧ p.cost = G.cost x := by
 have h1 : Rs stn S J S σ0 p.l p.cost ↔ ∃ x, G.Fl B h w x ∧ p.l = lsV m G.K 0 x ∧ p.cost = G.cost x := by
  cases S with
  | zero =>
    have hK : G.K = 0 := by rw [← Y.pend, hp0]
    have := slots_end Y (st := σ0) (fun v hv q => ho v hv q (fun j hj => by omega)) hw p.l p.cost
    rw [hK, G.sh_zero] at this
    rw [this, hK]
  | succ r =>
    have h2 := slots hb Y hm r 0 (by omega) J 0 (by omega) σ0 (stn 0).many h w ⟨hm 0 (by omega), fun _ => hh 0 (by omega), fun j _ hj => hh j hj, fun v hv q hn => ho v hv q (fun j hj => hn j (by omega) hj), hw⟩ p.l p.cost
    rw [hp0, G.sh_zero, Nat.sub_zero] at h2
    rw [← h2, Rs, show r + 1 - (r + 1) = 0 by omega]
 rw [← h1, rs_full S (Nat.le_refl _), Nat.sub_self]
 constructor
 · intro hf
   exact ⟨_, p, [], 0, hf, ⟨(zero_state (by simp)).2 rfl, rfl, rfl⟩, by simp, by simp⟩
 · rintro ⟨σ, q, suf, dc, hf, ⟨z1, rfl, rfl⟩, e1, e2⟩
   have e : σ = List.replicate J 0 := (zero_state (by rw [full_len hf, hl])).1 z1
   have : p = q := by cases p; cases q; simp at e1 e2; rw [e1, e2]
   rw [this, ← e]; exact hf
theorem planOf_best {μ : Type} {c : μ → μ → Int} (hc : COrd c) {num : μ → Int} {G : Nw} {B : Nat → Bool} (hb : G.Bip B) {S J : Nat} {ns nw : Nat → Nat} {stn : Nat → Stn μ} {m : Nat → Int → μ} {pos : Nat → Nat → Nat} (Y : Lay G B S J ns nw stn m pos) (hp0 : pos 0 0 = 0) (hm : ∀ i, i < S → 0 ≤ (stn i).many) {σ0 : List UInt8} (hl : σ0.length = J) {h w : Nat → Int}
 (hh : ∀ i, i < S → h (ns i) = (stn i).many) (ho : ∀ v, v < G.N → B v = true → (∀ j, j < S → v ≠ ns j) → 0 ≤ h v) (hw : ∀ k, k < J → w (nw k) = (σ0.getD k 0).toNat)
 (hn : ∀ a v, num (m a v) = v) (hns : ∀ i k n, num ((stn i).mv k n) = n) (h1 : ∀ a u v, u < v → c (m a u) (m a v) < 0) (h2 : ∀ a b u v, a < b → b < G.K → c (m a u) (m b v) < 0) {now : PMap μ} (hnow : MinOf c now (Full J σ0 (firstL stn S))) :
 match now (List.replicate J 0) with
 | none => ∀ x, ¬ G.Fl B h w x
 | some q => ∃ x, G.Best B h w q.cost x ∧ q.l = lsV m G.K 0 x := by
 have hf := fun p => full_fl hb Y hp0 hm hl hh ho hw p
 have h3 := hnow (List.replicate J 0)
 cases q : now (List.replicate J 0) with
 | none =>
   rw [q] at h3
   intro x hx
   exact h3 ⟨lsV m G.K 0 x, G.cost x⟩ ((hf _).2 ⟨x, hx, rfl, rfl⟩)
 | some r =>
   rw [q] at h3
   obtain ⟨h4, h5⟩ := h3
   obtain ⟨x, hx, e1, e2⟩ := (hf r).1 h4
   refine ⟨x, ⟨hx, e2.symm, fun y hy => ?_, fun y hy hyc => ?_⟩, e1⟩
   · have := h5 ⟨lsV m G.K 0 y, G.cost y⟩ ((hf _).2 ⟨y, hy, rfl, rfl⟩)
     rw [Bool.eq_false_iff] at this
     rcases Int.lt_or_le (G.cost y) r.cost with z | z
     · exact absurd (lessP_iff.2 (.inl z)) this
     · exact z
   · have hfy : Full J σ0 (firstL stn S) (List.replicate J 0) ⟨lsV m G.K 0 y, G.cost y⟩ := (hf _).2 ⟨y, hy, rfl, rfl⟩
     have hless := h5 _ hfy
     rw [Bool.eq_false_iff] at hless
     have hnn : ∀ s ∈ firstL stn S, ∀ k n, num (s.mv k n) = n := fun s hs k n => by obtain ⟨i, _, rfl⟩ := firstL_mem hs; exact hns i k n
     have t1 := (full_tot hnn h4).1
     have t2 := (full_tot hnn hfy).1
     have t2 : totL num (lsV m G.K 0 y) + _ = _ := t2
     rw [e1, lsV_tot hn G.K 0 x hx.g0] at t1
     rw [lsV_tot hn G.K 0 y hy.g0] at t2
     rcases bef_tot hx.g0 hy.g0 with z | z | z
     · exact .inl z
     · exact .inr z
     · exfalso
       apply hless
       rw [lessP_iff]
       right
       refine ⟨hyc, ?_⟩
       rw [e1]
       exact bef_ls hc hn h1 h2 G.K 0 y x (by omega) hy.g0 hx.g0 (by omega) z
theorem endsC_lt {a b c d : List UInt8} : endsC a b c d < 0 ↔ endLt a b c d := by
 refine ⟨endLt_of, fun h => ?_⟩
 unfold endsC
 simp only [firstE, cmpS]
 rcases h with h | ⟨rfl, h⟩
 · simp [h]
 · simp [h, less_irr]
theorem cmpS_sw (a b : List UInt8) : cmpS a b = - cmpS b a := by
 unfold cmpS
 by_cases e : a = b
 · subst e; simp [less_irr]
 · cases q : Op.bytesLess a b
   · have := less_tri _ _ q e
     simp [this]
   · have : Op.bytesLess b a = false := by
      cases w : Op.bytesLess b a
      · rfl
      · have := less_trans q w
        rw [less_irr] at this; cases this
     simp [this]
theorem endsC_sw (a b c d : List UInt8) : endsC a b c d = - endsC c d a b := by
 unfold endsC
 rw [cmpS_sw a c, cmpS_sw b d]
 simp only [firstE]
 grind
theorem endsC_zero {a b c d : List UInt8} : endsC a b c d = 0 ↔ a = c ∧ b = d := by
 constructor
 · intro h
   have h1 : ¬ endsC a b c d < 0 := by omega
   have h2 : ¬ endsC c d a b < 0 := by have := endsC_sw a b c d; omega
   rw [endsC_lt] at h1 h2
   unfold endLt at h1 h2
   have ha : a = c := Classical.byContradiction fun q => by
    cases w : Op.bytesLess a c
    · exact h2 (.inl (less_tri _ _ w q))
    · exact h1 (.inl w)
   subst ha
   refine ⟨rfl, Classical.byContradiction fun q => ?_⟩
   cases w : Op.bytesLess b d
   · exact h2 (.inr ⟨rfl, less_tri _ _ w q⟩)
   · exact h1 (.inr ⟨rfl, w⟩)
 · rintro ⟨rfl, rfl⟩; exact endsC_self a b
def sgnI (n : Int) : Int := if n < 0 then -1 else if 0 < n then 1 else 0
def mvC (p q : Mov) : Int := if endsC p.a p.b q.a q.b = 0 then sgnI (p.many - q.many) else endsC p.a p.b q.a q.b
theorem sgnI_lt {n : Int} : sgnI n < 0 ↔ n < 0 := by unfold sgnI; split <;> (try split) <;> omega
theorem sgnI_gt {n : Int} : 0 < sgnI n ↔ 0 < n := by unfold sgnI; split <;> (try split) <;> omega
theorem sgnI_eq {n : Int} : sgnI n = 0 ↔ n = 0 := by unfold sgnI; split <;> (try split) <;> omega
theorem mvC_ord : COrd mvC := by
 refine ⟨fun p q => ?_, fun p q => ?_, fun p q r => ?_⟩
 · unfold mvC
   by_cases h : endsC p.a p.b q.a q.b = 0
   · rw [if_pos h, sgnI_eq]
     obtain ⟨h1, h2⟩ := endsC_zero.1 h
     cases p; cases q
     simp only at h1 h2
     subst h1; subst h2
     simp only [Mov.mk.injEq, true_and]
     omega
   · rw [if_neg h]
     constructor
     · exact fun z => absurd z h
     · rintro rfl; exact absurd (endsC_self _ _) h
 · unfold mvC
   have e := endsC_sw p.a p.b q.a q.b
   by_cases h : endsC p.a p.b q.a q.b = 0
   · have h2 : endsC q.a q.b p.a p.b = 0 := by omega
     rw [if_pos h, if_pos h2, sgnI_lt, sgnI_gt]; omega
   · have h2 : ¬ endsC q.a q.b p.a p.b = 0 := by omega
     rw [if_neg h, if_neg h2]; omega
 · unfold mvC
   intro h1 h2
   by_cases a : endsC p.a p.b q.a q.b = 0
   · rw [if_pos a, sgnI_lt] at h1
     obtain ⟨e1, e2⟩ := endsC_zero.1 a
     rw [e1, e2]
     by_cases b : endsC q.a q.b r.a r.b = 0
     · rw [if_pos b, sgnI_lt] at h2
       rw [if_pos b, sgnI_lt]; omega
     · rw [if_neg b] at h2 ⊢; exact h2
   · rw [if_neg a] at h1
     by_cases b : endsC q.a q.b r.a r.b = 0
     · obtain ⟨e1, e2⟩ := endsC_zero.1 b
       rw [← e1, ← e2, if_neg a]; exact h1
     · rw [if_neg b] at h2
       have h3 := endsC_lt.2 (endLt_trans (endsC_lt.1 h1) (endsC_lt.1 h2))
       rw [if_neg (by omega)]; exact h3
theorem mvC_many {a b : List UInt8} {u v : Int} (h : u < v) : mvC ⟨a, b, u⟩ ⟨a, b, v⟩ < 0 := by
 unfold mvC; rw [if_pos (endsC_self a b), sgnI_lt]; show u - v < 0; omega
theorem mvC_ends {a b c d : List UInt8} {u v : Int} (h : endLt a b c d) : mvC ⟨a, b, u⟩ ⟨c, d, v⟩ < 0 := by
 have := endsC_lt.2 h
 unfold mvC
 rw [if_neg (by show ¬ endsC a b c d = 0; omega)]; exact this
structure Ar3 where
 fr : Nat
 to : Nat
 car : Int
def a30 : Ar3 := ⟨0, 0, 0⟩
def manyP (n : List Ned) (i : Nat) : Int := (n.getD i nd0).many
def wayO (n : List Ned) (r : List Roa) (i k : Nat) : Option Int := (roadO r (n.getD i nd0).st (n.getD k nd0).st).map (·.car)
def arRow (n : List Ned) (r : List Roa) (i : Nat) : List Ar3 := (List.range n.length).filterMap fun k => if 0 < manyP n i ∧ manyP n k < 0 then (wayO n r i k).map fun c => ⟨i, k, c⟩ else none
def arL (n : List Ned) (r : List Roa) : List Ar3 := (List.range n.length).flatMap (arRow n r)
def srcL (n : List Ned) : List Nat := (List.range n.length).filter fun i => decide (0 < manyP n i)
def dstL (n : List Ned) : List Nat := (List.range n.length).filter fun i => decide (manyP n i < 0)
def arRow2 (n : List Ned) (r : List Roa) (i : Nat) : List Ar3 := (dstL n).filterMap fun k => (wayO n r i k).map fun c => ⟨i, k, c⟩
theorem fm_filter {α β : Type} (p : α → Bool) (f : α → Option β) : ∀ l : List α, l.filterMap (fun x => if p x = true then f x else none) = (l.filter p).filterMap f
 | [] => rfl
 | x :: l => by
   rw [List.filterMap_cons, List.filter_cons]
   by_cases h : p x = true
   · rw [if_pos h, if_pos h, List.filterMap_cons, fm_filter p f l]
   · rw [if_neg h, if_neg h, fm_filter p f l]
theorem flatMap_filter {α β : Type} (p : α → Bool) (f g : α → List β) (h1 : ∀ x, p x = true → f x = g x) (h2 : ∀ x, p x = false → f x = []) : ∀ l : List α, l.flatMap f = (l.filter p).flatMap g
 | [] => rfl
 | x :: l => by
   rw [List.flatMap_cons, List.filter_cons, flatMap_filter p f g h1 h2 l]
   cases h : p x
   · rw [if_neg (by simp), h2 x h]; rfl
   · rw [if_pos rfl, h1 x h, List.flatMap_cons]
theorem arL_eq (n : List Ned) (r : List Roa) : arL n r = (srcL n).flatMap (arRow2 n r) := by
 unfold arL srcL
 refine flatMap_filter _ _ _ (fun i h => ?_) (fun i h => ?_) _
 · unfold arRow arRow2 dstL
   rw [decide_eq_true_eq] at h
   rw [← fm_filter]
   congr 1
   funext k
   by_cases q : manyP n k < 0
   · rw [if_pos ⟨h, q⟩, if_pos (by simpa using q)]
   · rw [if_neg (fun z => q z.2), if_neg (by simpa using q)]
 · unfold arRow
   rw [decide_eq_false_iff_not] at h
   rw [List.filterMap_eq_nil_iff]
   intro k _
   rw [if_neg (fun z => h z.1)]
def nwG (n : List Ned) (r : List Roa) : Nw := ⟨(arL n r).length, n.length, fun k => ((arL n r).getD k a30).fr, fun k => ((arL n r).getD k a30).to, fun k => ((arL n r).getD k a30).car⟩
def kindB (n : List Ned) (v : Nat) : Bool := !decide (manyP n v < 0)
theorem arL_mem {n : List Ned} {r : List Roa} {x : Ar3} (h : x ∈ arL n r) : (x.fr < n.length ∧ 0 < manyP n x.fr) ∧ (x.to < n.length ∧ manyP n x.to < 0) ∧ wayO n r x.fr x.to = some x.car := by
 unfold arL at h
 rw [List.mem_flatMap] at h
 obtain ⟨i, hi, h⟩ := h
 unfold arRow at h
 rw [List.mem_filterMap] at h
 obtain ⟨k, hk, h⟩ := h
 rw [List.mem_range] at hi hk
 split at h
 · rename_i q
   rw [Option.map_eq_some_iff] at h
   obtain ⟨c, hc, rfl⟩ := h
   exact ⟨⟨hi, q.1⟩, ⟨hk, q.2⟩, hc⟩
 · cases h
theorem nwG_at {n : List Ned} {r : List Roa} {k : Nat} (hk : k < (nwG n r).K) : (arL n r).getD k a30 ∈ arL n r := getD_mem hk
theorem nwG_ok {n : List Ned} {r : List Roa} (hr : rdsE r = 0) : (nwG n r).Ok ∧ ∀ k, k < (nwG n r).K → (nwG n r).c k ≤ 1000000 := by
 have hc : ∀ k, k < (nwG n r).K → 0 ≤ (nwG n r).c k ∧ (nwG n r).c k ≤ 1000000 := fun k hk => by
  have h := (arL_mem (nwG_at hk)).2.2
  unfold wayO at h
  rw [Option.map_eq_some_iff] at h
  obtain ⟨x, hx, e⟩ := h
  have := (roadO_bd hr hx).1
  show 0 ≤ ((arL n r).getD k a30).car ∧ ((arL n r).getD k a30).car ≤ 1000000
  omega
 exact ⟨⟨fun k hk => (arL_mem (nwG_at hk)).1.1, fun k hk => (arL_mem (nwG_at hk)).2.1.1, fun k hk => (hc k hk).1⟩, fun k hk => (hc k hk).2⟩
theorem nwG_bip (n : List Ned) (r : List Roa) : (nwG n r).Bip (kindB n) := by
 refine ⟨fun k hk => ⟨(arL_mem (nwG_at hk)).1.1, ?_⟩, fun k hk => ⟨(arL_mem (nwG_at hk)).2.1.1, ?_⟩⟩
 · have := (arL_mem (nwG_at hk)).1.2
   unfold kindB
   show (!decide (manyP n ((arL n r).getD k a30).fr < 0)) = true
   rw [decide_eq_false (by omega)]; rfl
 · have := (arL_mem (nwG_at hk)).2.1.2
   unfold kindB
   show (!decide (manyP n ((arL n r).getD k a30).to < 0)) = false
   rw [decide_eq_true this]; rfl
def nsN (n : List Ned) (i : Nat) : Nat := (srcL n).getD i 0
def nwN (n : List Ned) (k : Nat) : Nat := (dstL n).getD k 0
def stnN (n : List Ned) (r : List Roa) (i : Nat) : Stn Mov := ⟨fun k => wayO n r (nsN n i) (nwN n k), fun k v => ⟨(n.getD (nsN n i) nd0).st, (n.getD (nwN n k) nd0).st, v⟩, manyP n (nsN n i)⟩
def mvN (n : List Ned) (r : List Roa) (a : Nat) (v : Int) : Mov := ⟨(n.getD ((arL n r).getD a a30).fr nd0).st, (n.getD ((arL n r).getD a a30).to nd0).st, v⟩
def rowK (n : List Ned) (r : List Roa) (i k : Nat) : List Ar3 := ((dstL n).take k).filterMap fun k => (wayO n r i k).map fun c => ⟨i, k, c⟩
def posN (n : List Ned) (r : List Roa) (i k : Nat) : Nat := (((srcL n).take i).flatMap (arRow2 n r)).length + (rowK n r (nsN n i) k).length
theorem srcL_at {n : List Ned} {i : Nat} (h : i < (srcL n).length) : nsN n i < n.length ∧ 0 < manyP n (nsN n i) := by
 have : nsN n i ∈ srcL n := getD_mem h
 unfold srcL at this
 rw [List.mem_filter, List.mem_range, decide_eq_true_eq] at this
 exact this
theorem dstL_at {n : List Ned} {i : Nat} (h : i < (dstL n).length) : nwN n i < n.length ∧ manyP n (nwN n i) < 0 := by
 have : nwN n i ∈ dstL n := getD_mem h
 unfold dstL at this
 rw [List.mem_filter, List.mem_range, decide_eq_true_eq] at this
 exact this
theorem nodup_getD {l : List Nat} (h : l.Nodup) {i j : Nat} (hi : i < l.length) (hj : j < l.length) (e : l.getD i 0 = l.getD j 0) : i = j := by
 rw [List.getD_eq_getElem?_getD, List.getD_eq_getElem?_getD, List.getElem?_eq_getElem hi, List.getElem?_eq_getElem hj] at e
 simp only [Option.getD_some] at e
 have hp := List.pairwise_iff_getElem.1 h
 rcases Nat.lt_trichotomy i j with q | q | q
 · exact absurd e (hp i j hi hj q)
 · exact q
 · exact absurd e.symm (hp j i hj hi q)
theorem srcL_nodup (n : List Ned) : (srcL n).Nodup := List.Pairwise.filter _ List.nodup_range
theorem dstL_nodup (n : List Ned) : (dstL n).Nodup := List.Pairwise.filter _ List.nodup_range
theorem take_getD {α : Type} {l : List α} {i : Nat} {d : α} (h : i < l.length) : l.take (i + 1) = l.take i ++ [l.getD i d] := by
 rw [List.take_add_one, List.getD_eq_getElem?_getD, List.getElem?_eq_getElem h]; rfl
theorem split_getD {α : Type} {l : List α} {i : Nat} {d : α} (h : i < l.length) : l = l.take i ++ l.getD i d :: l.drop (i + 1) := by
 have e : l.drop i = l.getD i d :: l.drop (i + 1) := by
  rw [List.drop_eq_getElem_cons h, List.getD_eq_getElem?_getD, List.getElem?_eq_getElem h]; rfl
 rw [← e, List.take_append_drop]
theorem rowK_all (n : List Ned) (r : List Roa) (i : Nat) : rowK n r i (dstL n).length = arRow2 n r i := by
 unfold rowK arRow2; rw [List.take_length]
theorem rowK_succ {n : List Ned} {r : List Roa} {i k : Nat} (hk : k < (dstL n).length) : rowK n r i (k + 1) = rowK n r i k ++ (match wayO n r i (nwN n k) with
 | none => []
 | some c => [⟨i, nwN n k, c⟩]) := by
 unfold rowK
 rw [take_getD (d := 0) hk, List.filterMap_append]
 congr 1
 show List.filterMap _ [nwN n k] = _
 rw [List.filterMap_cons]
 cases wayO n r i (nwN n k) <;> rfl
theorem posN_at {n : List Ned} {r : List Roa} {i k : Nat} {c : Int} (hi : i < (srcL n).length) (hk : k < (dstL n).length) (hw : wayO n r (nsN n i) (nwN n k) = some c) : (arL n r)[posN n r i k]? = some ⟨nsN n i, nwN n k, c⟩ := by
 have e1 : arL n r = ((srcL n).take i).flatMap (arRow2 n r) ++ (arRow2 n r (nsN n i) ++ ((srcL n).drop (i + 1)).flatMap (arRow2 n r)) := by
  rw [arL_eq]
  conv => lhs; rw [split_getD (d := 0) hi]
  rw [List.flatMap_append, List.flatMap_cons]; rfl
 have e2 : arRow2 n r (nsN n i) = rowK n r (nsN n i) k ++ (⟨nsN n i, nwN n k, c⟩ :: ((dstL n).drop (k + 1)).filterMap fun k => (wayO n r (nsN n i) k).map fun c => ⟨nsN n i, k, c⟩) := by
  unfold arRow2 rowK
  conv => lhs; rw [split_getD (d := 0) hk]
  rw [List.filterMap_append, List.filterMap_cons]
  have hw : wayO n r (nsN n i) ((dstL n).getD k 0) = some c := hw
  rw [hw]; rfl
 rw [e1, e2]
 unfold posN
 rw [List.getElem?_append_right (by omega), Nat.add_sub_cancel_left, List.append_assoc, List.getElem?_append_right (by omega), Nat.sub_self]; rfl
theorem layN (n : List Ned) (r : List Roa) : Lay (nwG n r) (kindB n) (srcL n).length (dstL n).length (nsN n) (nwN n) (stnN n r) (mvN n r) (posN n r) := by
 refine ⟨?_, fun i hi => ?_, fun i k hi hk hw => ?_, fun i k car hi hk hw => ?_, fun i hi => ?_, fun i j hi hj e => nodup_getD (srcL_nodup n) hi hj e, fun k hk => ?_, fun k j hk hj e => nodup_getD (dstL_nodup n) hk hj e, fun v hv hb => ?_⟩
 · show posN n r (srcL n).length 0 = (arL n r).length
   unfold posN
   rw [List.take_length, ← arL_eq]; rfl
 · unfold posN
   rw [take_getD (d := 0) hi, List.flatMap_append, rowK_all]
   show (_ ++ List.flatMap (arRow2 n r) [nsN n i]).length + 0 = _
   rw [List.length_append, List.flatMap_cons, List.flatMap_nil, List.append_nil]; rfl
 · have hw : wayO n r (nsN n i) (nwN n k) = none := hw
   unfold posN
   rw [rowK_succ hk, hw, List.append_nil]
 · have hw : wayO n r (nsN n i) (nwN n k) = some car := hw
   have h := posN_at hi hk hw
   have hl : posN n r i k < (arL n r).length := (List.getElem?_eq_some_iff.1 h).1
   have hg : (arL n r).getD (posN n r i k) a30 = ⟨nsN n i, nwN n k, car⟩ := by rw [List.getD_eq_getElem?_getD, h]; rfl
   refine ⟨?_, hl, ?_, ?_, ?_, fun v => ?_⟩
   · unfold posN
     rw [rowK_succ hk, hw, List.length_append]; rfl
   · show ((arL n r).getD (posN n r i k) a30).fr = _; rw [hg]
   · show ((arL n r).getD (posN n r i k) a30).to = _; rw [hg]
   · show ((arL n r).getD (posN n r i k) a30).car = _; rw [hg]
   · unfold mvN stnN; rw [hg]
 · have := srcL_at hi
   refine ⟨this.1, ?_⟩
   unfold kindB
   rw [decide_eq_false (by omega)]; rfl
 · have := dstL_at hk
   refine ⟨this.1, ?_⟩
   unfold kindB
   rw [decide_eq_true this.2]; rfl
 · unfold kindB at hb
   have hb : manyP n v < 0 := by simpa using hb
   have : v ∈ dstL n := by
    unfold dstL
    rw [List.mem_filter, List.mem_range, decide_eq_true_eq]
    exact ⟨hv, hb⟩
   obtain ⟨k, hk, e⟩ := mem_getD (d := 0) this
   exact ⟨k, hk, e.symm⟩
theorem posN_zero (n : List Ned) (r : List Roa) : posN n r 0 0 = 0 := rfl
theorem nwG_inc {n : List Ned} {r : List Roa} {a b : Nat} (hab : a < b) (hb : b < (nwG n r).K) : ((arL n r).getD a a30).fr < ((arL n r).getD b a30).fr ∨ ((arL n r).getD a a30).fr = ((arL n r).getD b a30).fr ∧ ((arL n r).getD a a30).to < ((arL n r).getD b a30).to := by
 have hp : (arL n r).Pairwise fun x y => x.fr < y.fr ∨ x.fr = y.fr ∧ x.to < y.to := by
  unfold arL
  rw [List.pairwise_flatMap]
  refine ⟨fun i _ => ?_, ?_⟩
  · unfold arRow
    rw [List.pairwise_filterMap]
    refine List.Pairwise.imp ?_ List.pairwise_lt_range
    intro k j hkj x hx y hy
    split at hx
    · split at hy
      · rw [Option.map_eq_some_iff] at hx hy
        obtain ⟨_, _, rfl⟩ := hx
        obtain ⟨_, _, rfl⟩ := hy
        exact .inr ⟨rfl, hkj⟩
      · cases hy
    · cases hx
  · refine List.Pairwise.imp ?_ List.pairwise_lt_range
    intro i j hij x hx y hy
    have e : ∀ {i : Nat} {x : Ar3}, x ∈ arRow n r i → x.fr = i := fun {i x} h => by
     unfold arRow at h
     rw [List.mem_filterMap] at h
     obtain ⟨k, _, h⟩ := h
     split at h
     · rw [Option.map_eq_some_iff] at h
       obtain ⟨_, _, rfl⟩ := h
       rfl
     · cases h
    rw [e hx, e hy]; exact .inl hij
 have hb : b < (arL n r).length := hb
 have := List.pairwise_iff_getElem.1 hp a b (by omega) hb hab
 rw [List.getD_eq_getElem?_getD, List.getD_eq_getElem?_getD, List.getElem?_eq_getElem (by omega), List.getElem?_eq_getElem hb]
 exact this
def nwA (N : Nat) (A : List Arc) : Nw := ⟨A.length, N, fun k => (A.getD k ar0).fr.toNat, fun k => (A.getD k ar0).to.toNat, fun k => (A.getD k ar0).car⟩
def floA (A : List Arc) (k : Nat) : Int := (A.getD k ar0).flow
structure ArOk (N : Nat) (A : List Arc) : Prop where
 len : A.length ≤ 1000
 fr : ∀ k, k < A.length → 0 ≤ (A.getD k ar0).fr ∧ (A.getD k ar0).fr < N
 to : ∀ k, k < A.length → 0 ≤ (A.getD k ar0).to ∧ (A.getD k ar0).to < N
 car : ∀ k, k < A.length → 0 ≤ (A.getD k ar0).car ∧ (A.getD k ar0).car ≤ 1000000
def getI (D : List Int) (v : Nat) : Int := D.getD v 0
theorem RegX.ent {P : Program} {id : Nat} {ops : Array Oper} {k : St → Prop} {s s' : St} (he : Entails s s') (h : RegX P id ops k s') : RegX P id ops k s := ⟨fun A a w hN hm => h.wp A a w hN (he.imp A a w hm)⟩
structure HoldR (p : Prop) : Prop where
 h : p
theorem HoldR.mk' {P : Program} {id : Nat} {ops : Array Oper} {k : St → Prop} {s : St} (h : HoldR (RegX P id ops k s)) : RegX P id ops k s := h.h
structure Sm (A B : List Arc) : Prop where
 len : B.length = A.length
 fld : ∀ k, (B.getD k ar0).fr = (A.getD k ar0).fr ∧ (B.getD k ar0).to = (A.getD k ar0).to ∧ (B.getD k ar0).car = (A.getD k ar0).car
theorem Sm.set {A B : List Arc} (h : Sm A B) (k : Nat) (x : Int) : Sm A (B.set k { B.getD k ar0 with flow := x }) := by
 refine ⟨by rw [List.length_set]; exact h.len, fun j => ?_⟩
 rw [List.getD_eq_getElem?_getD, List.getElem?_set]
 by_cases q : k = j
 · subst q
   by_cases w : k < B.length
   · rw [if_pos rfl, if_pos w]; exact h.fld k
   · rw [if_pos rfl, if_neg w]
     have := h.fld k
     rw [List.getD_eq_getElem?_getD, List.getElem?_eq_none (by omega)] at this
     exact this
 · rw [if_neg q, ← List.getD_eq_getElem?_getD]; exact h.fld j
structure SvI (N : Nat) (h w : List Int) (A : List Arc) (L K : List Int) (B : List Arc) (p : Nat → Int) (s : Int) : Prop where
 sm : Sm A B
 ll : L.length = N
 lk : K.length = N
 st : (nwA N A).St (getI h) (getI w) (floA B) (getI L) (getI K)
 pt : (nwA N A).Pot (getI h) (floA B) (getI L) p
 cs : s = (nwA N A).cost (floA B)
 sb : 0 ≤ s ∧ s ≤ 1000000000 * (su (getI w) N - su (getI K) N)
 fb : ∀ k, k < A.length → 0 ≤ floA B k ∧ floA B k ≤ 1000 * (su (getI w) N - su (getI K) N)
structure AugB (A : List Arc) (B C : List Arc) (m : Int) (n0 n : Nat) : Prop where
 le : n ≤ n0
 fb : ∀ k, k < A.length → floA C k + m * (n : Int) ≤ floA B k + m * (n0 : Int)
theorem nds_all {l : List Ned} (h : ndsE l = 0) : l.length ≤ 10 ∧ ∀ i, i < l.length → ndE l i = 0 := by
 unfold ndsE at h
 split at h
 · cases h
 · exact ⟨by omega, firstAt_all h⟩
theorem nds_inc {l : List Ned} (h : ndsE l = 0) : ∀ {j i : Nat}, i < j → j < l.length → Op.bytesLess (l.getD i nd0).st (l.getD j nd0).st = true := by
 obtain ⟨_, h2⟩ := nds_all h
 have step : ∀ j, j + 1 < l.length → Op.bytesLess (l.getD j nd0).st (l.getD (j + 1) nd0).st = true := fun j hj => by
  have := h2 (j + 1) hj
  unfold ndE at this
  simp only [Nat.add_sub_cancel] at this
  have h3 : ¬ strLe (l.getD (j + 1) nd0).st (l.getD j nd0).st = true := by grind
  by_cases q : Op.bytesLess (l.getD j nd0).st (l.getD (j + 1) nd0).st = true
  · exact q
  · exfalso
    apply h3
    unfold strLe
    have q2 : Op.bytesLess (l.getD j nd0).st (l.getD (j + 1) nd0).st = false := by simpa using q
    by_cases e : (l.getD (j + 1) nd0).st = (l.getD j nd0).st
    · rw [e]; simp
    · rw [less_tri _ _ q2 (fun h => e h.symm)]; rfl
 intro j
 induction j with
 | zero => intro i h; omega
 | succ j ih =>
   intro i hi hj
   by_cases q : i = j
   · subst q; exact step i hj
   · exact less_trans (ih (by omega) (by omega)) (step j hj)
theorem ned_bd {l : List Ned} (h : ndsE l = 0) {i : Nat} (hi : i < l.length) : -20 ≤ (l.getD i nd0).many ∧ (l.getD i nd0).many ≤ 20 := by
 have := (nds_all h).2 i hi
 unfold ndE at this
 simp only at this
 grind
def havF (n : List Ned) (i : Nat) : Int := max (manyP n i) 0
def wntF (n : List Ned) (i : Nat) : Int := max (0 - manyP n i) 0
def havL (n : List Ned) : List Int := fillA 0 (havF n) n.length n.length
def wntL (n : List Ned) : List Int := fillA 0 (wntF n) n.length n.length
def arcO (x : Ar3) : Arc := ⟨x.fr, x.to, x.car, 0⟩
def arcs (n : List Ned) (r : List Roa) : List Arc := (arL n r).map arcO
theorem ned_many {n : List Ned} (h : ndsE n = 0) (i : Nat) : -20 ≤ manyP n i ∧ manyP n i ≤ 20 := by
 unfold manyP
 rcases Nat.lt_or_ge i n.length with q | q
 · exact ned_bd h q
 · rw [List.getD_eq_getElem?_getD, List.getElem?_eq_none q]; simp [nd0]
def vapp : List Int → (Nat → Int) → Nat → Int
 | [], y => y
 | u :: us, y => vcons u (vapp us y)
def lsU {μ : Type} (m : Nat → Int → μ) : Nat → List Int → List μ
 | _, [] => []
 | a, u :: us => (if 0 < u then [m a u] else []) ++ lsU m (a + 1) us
theorem lsV_vapp {μ : Type} (m : Nat → Int → μ) (y : Nat → Int) : ∀ (us : List Int) (a : Nat), lsV m us.length a (vapp us y) = lsU m a us
 | [], _ => rfl
 | u :: us, a => by
   show (if 0 < u then [m a u] else []) ++ lsV m us.length (a + 1) (vtl (vcons u (vapp us y))) = _
   rw [vtl_cons, lsV_vapp m y us (a + 1)]; rfl
theorem arcs_get (n : List Ned) (r : List Roa) (k : Nat) : (arcs n r).getD k ar0 = arcO ((arL n r).getD k a30) := by
 unfold arcs
 rw [List.getD_eq_getElem?_getD, List.getD_eq_getElem?_getD, List.getElem?_map]
 cases (arL n r)[k]? <;> rfl
theorem ArOk.drop {N : Nat} {A : List Arc} (h : ArOk N A) (a : Nat) : ArOk N (A.drop a) := by
 have e : ∀ k, (A.drop a).getD k ar0 = A.getD (a + k) ar0 := fun k => by rw [List.getD_eq_getElem?_getD, List.getD_eq_getElem?_getD, List.getElem?_drop]
 have hl : (A.drop a).length = A.length - a := List.length_drop
 exact ⟨by have := h.len; omega, fun k hk => by rw [e]; exact h.fr _ (by omega), fun k hk => by rw [e]; exact h.to _ (by omega), fun k hk => by rw [e]; exact h.car _ (by omega)⟩
theorem Sm.drop {A B : List Arc} (h : Sm A B) (a : Nat) : Sm (A.drop a) (B.drop a) := by
 refine ⟨by rw [List.length_drop, List.length_drop, h.len], fun k => ?_⟩
 rw [List.getD_eq_getElem?_getD, List.getD_eq_getElem?_getD, List.getElem?_drop, List.getElem?_drop, ← List.getD_eq_getElem?_getD, ← List.getD_eq_getElem?_getD]
 exact h.fld _
theorem Sm.trans {A B C : List Arc} (h : Sm A B) (k : Sm B C) : Sm A C := ⟨k.len.trans h.len, fun i => ⟨(k.fld i).1.trans (h.fld i).1, (k.fld i).2.1.trans (h.fld i).2.1, (k.fld i).2.2.trans (h.fld i).2.2⟩⟩
theorem getI_hav {n : List Ned} {v : Nat} (hv : v < n.length) : getI (havL n) v = havF n v := fillA_get hv
theorem getI_wnt {n : List Ned} {v : Nat} (hv : v < n.length) : getI (wntL n) v = wntF n v := fillA_get hv
structure PlnI (n : List Ned) (r : List Roa) (a : Nat) (us hl wl : List Int) (C : List Arc) (c : Int) : Prop where
 len : us.length = a
 aK : a ≤ (arcs n r).length
 sm : Sm ((arcs n r).drop a) C
 l1 : hl.length = n.length
 l2 : wl.length = n.length
 hb : ∀ v, v < n.length → 0 ≤ getI hl v ∧ getI hl v ≤ 20
 wb : ∀ v, v < n.length → 0 ≤ getI wl v ∧ getI wl v ≤ 20
 hz : ∀ v, v < n.length → kindB n v = false → getI hl v = 0
 wz : ∀ v, v < n.length → kindB n v = true → getI wl v = 0
 opt : ((nwG n r).sh a).IsOpt (kindB n) (getI hl) (getI wl) c
 cb : 0 ≤ c ∧ c ≤ 1000000000000000
 best : ∀ y, ((nwG n r).sh a).Best (kindB n) (getI hl) (getI wl) c y → ∃ c0, (nwG n r).Best (kindB n) (getI (havL n)) (getI (wntL n)) c0 (vapp us y)
theorem havF_bd {n : List Ned} (hn : ndsE n = 0) (v : Nat) : (0 ≤ havF n v ∧ havF n v ≤ 20) ∧ 0 ≤ wntF n v ∧ wntF n v ≤ 20 := by
 have := ned_many hn v
 unfold havF wntF; omega
theorem PlnI.first {n : List Ned} {r : List Roa} {a : Nat} {us hl wl : List Int} {C : List Arc} {c : Int} (h : PlnI n r a us hl wl C c) (ha : a < (arcs n r).length) (hn : ndsE n = 0) (hr : rdsE r = 0) :
 (C.getD 0 ar0).fr = ((nwG n r).fr a : Nat) ∧ (C.getD 0 ar0).to = ((nwG n r).to a : Nat) ∧ (C.getD 0 ar0).car = (nwG n r).c a ∧ (nwG n r).fr a < n.length ∧ (nwG n r).to a < n.length ∧ 0 ≤ (nwG n r).c a ∧ (nwG n r).c a ≤ 1000000 := by
 have h1 := h.sm.fld 0
 rw [List.getD_eq_getElem?_getD (l := (arcs n r).drop a), List.getElem?_drop, ← List.getD_eq_getElem?_getD, Nat.add_zero, arcs_get] at h1
 have hlen : (arcs n r).length = (arL n r).length := List.length_map _
 have hm := arL_mem (nwG_at (k := a) (by show a < (arL n r).length; omega))
 have hk := nwG_ok (n := n) hr
 exact ⟨h1.1, h1.2.1, h1.2.2, hm.1.1, hm.2.1.1, hk.1.c0 a (by show a < (arL n r).length; omega), hk.2 a (by show a < (arL n r).length; omega)⟩
theorem PlnI.done {n : List Ned} {r : List Roa} {us hl wl : List Int} {C : List Arc} {c : Int} (h : PlnI n r (arcs n r).length us hl wl C c) : ∃ c0 x, (nwG n r).Best (kindB n) (getI (havL n)) (getI (wntL n)) c0 x ∧ lsU (mvN n r) 0 us = lsV (mvN n r) (nwG n r).K 0 x := by
 have hK : (arcs n r).length = (nwG n r).K := List.length_map _
 obtain ⟨c0, hc⟩ := h.best (fun _ => 0) (by rw [hK]; exact Nw.best_end (by have := h.opt; rw [hK] at this; exact this) _)
 refine ⟨c0, _, hc, ?_⟩
 rw [← lsV_vapp (mvN n r) (fun _ => 0) us 0, h.len, hK]
theorem Entails.freeze {s : St} (d e kk n : Nat) (g : Nat → List DV) (hd : s.res d = some (.buf e kk n g)) : Entails s (s.app ⟨none, .any, [(d, some (.fro kk n g))], []⟩) := ⟨fun A a w => by
 rintro ⟨h0, G, β, hm⟩
 obtain ⟨G', _, hm'⟩ := hm.freeze hd
 exact ⟨h0, G', β, hm'⟩⟩
theorem p138 (n : Int) : FSpec Tryz.prog 147 [.d (.int .i64 n)] [] (fun y r => y = .d (.int .i64 (sgnI n)) ∧ r = []) := by
 refine spec_of hT (C := []) Tryz.func147 rfl Tryz.call147 rfl rfl rfl ?_
 conv => whnf
 repeat' (first | (refine br_intro ?_ ?_ <;> intro hb <;> (try simp only [brs] at hb) <;> conv => whnf) | omega | (refine And.intro ?_ ?_; ((try dsimp only); first | omega | (refine szA rfl ?_; omega) | (refine szB rfl ?_; omega) | (unfold inI64; omega) | exact rfl | (simp only [List.toList_toArray, List.length_cons, List.length_nil]; omega) | (simp only [lns] at *; omega) | decide | (unfold inI64; decide)); conv => whnf) | decide | assumption)
 all_goals
  refine .ret _ ?_
  conv => whnf
  refine ⟨[], ⟨?_, rfl⟩, trivial⟩
  conv => lhs; whnf
  unfold sgnI
  first
   | (rw [if_pos (by omega)]; done)
   | (rw [if_neg (by omega), if_pos (by omega)]; done)
   | (rw [if_neg (by omega), if_neg (by omega)]; done)
def mvS (x : Mov) : Prop := -1000000 ≤ x.many ∧ x.many ≤ 1000000
theorem p121 (x y : Mov) (hx : mvS x) (hy : mvS y) : FSpec Tryz.prog 269 [.agg ((mvF x).map .d), .agg ((mvF y).map .d)] [] (fun v r => v = .d (.int .i64 (mvC x y)) ∧ r = []) := by
 obtain ⟨hx1, hx2⟩ := hx
 obtain ⟨hy1, hy2⟩ := hy
 obtain ⟨c, hc⟩ : ∃ c, endsC x.a x.b y.a y.b = c := ⟨_, rfl⟩
 have h108 := z108 x.a x.b y.a y.b
 rw [hc] at h108
 refine spec_of hT (C := []) Tryz.func269 rfl Tryz.call269 rfl rfl rfl ?_
 conv => whnf
 repeat' (first | (refine CallX.exact (h108) rfl rfl ?_; rotate_right; conv => whnf) | (refine CallX.exact (p138 _) rfl rfl ?_; rotate_right; conv => whnf) | (refine br_intro ?_ ?_ <;> intro hb <;> (try simp only [brs] at hb) <;> conv => whnf) | omega | (refine And.intro ?_ ?_; ((try dsimp only); first | omega | (refine szA rfl ?_; omega) | (refine szB rfl ?_; omega) | (unfold inI64; omega) | exact rfl | (simp only [List.toList_toArray, List.length_cons, List.length_nil]; omega) | (simp only [lns] at *; omega) | decide | (unfold inI64; decide)); conv => whnf) | decide | assumption)
 all_goals
  refine .ret _ ?_
  conv => whnf
  refine ⟨[], ⟨?_, rfl⟩, trivial⟩
  conv => lhs; whnf
  unfold mvC
  rw [hc]
  first
   | (rw [if_pos (by omega)]; done)
   | (rw [if_neg (by omega)]; done)
theorem cmpF_drop {α : Type} {c : α → α → Int} {d : α} {a b : List α} {i : Nat} (h1 : i < a.length) (h2 : i < b.length) : cmpF c (a.drop i) (b.drop i) = if c (a.getD i d) (b.getD i d) = 0 then cmpF c (a.drop (i + 1)) (b.drop (i + 1)) else c (a.getD i d) (b.getD i d) := by
 rw [List.drop_eq_getElem_cons h1, List.drop_eq_getElem_cons h2, cmpF]
 have e1 : a.getD i d = a[i] := by simp [List.getD_eq_getElem?_getD, h1]
 have e2 : b.getD i d = b[i] := by simp [List.getD_eq_getElem?_getD, h2]
 rw [e1, e2]
set_option maxHeartbeats 4000000 in
theorem p120 (a b : List Mov) (ha : a.length ≤ 2^40) (hb0 : b.length ≤ 2^40) (h1 : ∀ m ∈ a, mvS m) (h2 : ∀ m ∈ b, mvS m) : FSpec Tryz.prog 268 [.d (movs a), .d (movs b), .fn 269 []] [] (fun v r => v = .d (.int .i64 (cmpF mvC a b)) ∧ r = []) := by
 refine spec_of hT (C := []) Tryz.func268 rfl Tryz.call268 rfl rfl rfl ?_
 conv => whnf
 refine LoopX.rule hT (C := []) (ι := Nat) (fun i => (i ≤ a.length ∧ i ≤ b.length) ∧ cmpF mvC a b = cmpF mvC (a.drop i) (b.drop i)) (fun i => mkSt [(0, .d (movs a)), (1, .d (movs b)), (2, .fn 269 []), (11, .d (movs a)), (12, .d (.int .i64 a.length)), (13, .d (.int .i64 i))] []) (fun i => a.length - i) 0 ⟨⟨Nat.zero_le _, Nat.zero_le _⟩, rfl⟩ ?_ ?_
 · exact Entails.mk' [] rfl rfl ⟨lr, lr, lr, lr, lr, lr, trivial⟩ trivial
 rintro i ⟨⟨hi1, hi2⟩, hc⟩
 have hi1 : i ≤ a.length := hi1
 have hi2 : i ≤ b.length := hi2
 have ei : (i : Int).toNat = i := Int.toNat_natCast i
 have hx : i < a.length → mvS (a.getD (i : Int).toNat mv0) := fun h => h1 _ (getD_mem (by rw [ei]; exact h))
 have hy : i < b.length → mvS (b.getD (i : Int).toNat mv0) := fun h => h2 _ (getD_mem (by rw [ei]; exact h))
 rcases Nat.lt_or_ge i a.length with hia | hia
 · rcases Nat.lt_or_ge i b.length with hib | hib
   · obtain ⟨c, hcc⟩ : ∃ c, mvC (a.getD (i : Int).toNat mv0) (b.getD (i : Int).toNat mv0) = c := ⟨_, rfl⟩
     have h121 := p121 _ _ (hx hia) (hy hib)
     rw [hcc] at h121
     have hd := cmpF_drop (c := mvC) (d := mv0) hia hib
     rw [ei] at hcc
     rw [hcc] at hd
     conv => whnf
     repeat' (first | (refine CallX.exact (h121) rfl rfl ?_; rotate_right; conv => whnf) | (refine br_intro ?_ ?_ <;> intro hb <;> (try simp only [brs] at hb) <;> conv => whnf) | omega | (refine And.intro ?_ ?_; ((try dsimp only); first | omega | (refine szA rfl ?_; omega) | (refine szB rfl ?_; omega) | (unfold inI64; omega) | exact rfl | (simp only [List.toList_toArray, List.length_cons, List.length_nil]; omega) | (simp only [lns] at *; omega) | decide | (unfold inI64; decide)); conv => whnf) | decide | assumption)
     all_goals try (exfalso; omega)
     · refine .ret _ ?_
       conv => whnf
       refine ⟨[], ⟨?_, rfl⟩, trivial⟩
       conv => lhs; whnf
       rw [hc, hd, if_neg (by omega)]
     · rw [if_pos (by omega)] at hd
       exact ⟨i + 1, ⟨⟨hia, hib⟩, by rw [hc, hd]⟩, by omega, Entails.mk' [] rfl rfl ⟨lr, lr, lr, lr, lr, lr, trivial⟩ trivial⟩
   · conv => whnf
     repeat' (first | (refine br_intro ?_ ?_ <;> intro hb <;> (try simp only [brs] at hb) <;> conv => whnf) | omega | (refine And.intro ?_ ?_; ((try dsimp only); first | omega | (refine szA rfl ?_; omega) | (refine szB rfl ?_; omega) | (unfold inI64; omega) | exact rfl | (simp only [List.toList_toArray, List.length_cons, List.length_nil]; omega) | (simp only [lns] at *; omega) | decide | (unfold inI64; decide)); conv => whnf) | decide | assumption)
     all_goals try (exfalso; omega)
     refine .ret _ ?_
     conv => whnf
     refine ⟨[], ⟨?_, rfl⟩, trivial⟩
     conv => lhs; whnf
     rw [hc, List.drop_eq_nil_of_le hib, List.drop_eq_getElem_cons hia]; rfl
 · conv => whnf
   repeat' (first | (refine br_intro ?_ ?_ <;> intro hb <;> (try simp only [brs] at hb) <;> conv => whnf) | omega | (refine And.intro ?_ ?_; ((try dsimp only); first | omega | (refine szA rfl ?_; omega) | (refine szB rfl ?_; omega) | (unfold inI64; omega) | exact rfl | (simp only [List.toList_toArray, List.length_cons, List.length_nil]; omega) | (simp only [lns] at *; omega) | decide | (unfold inI64; decide)); conv => whnf) | decide | assumption)
   all_goals try (exfalso; omega)
   all_goals
    refine .ret _ ?_
    conv => whnf
    refine ⟨[], ⟨?_, rfl⟩, trivial⟩
    conv => lhs; whnf
    rw [hc, List.drop_eq_nil_of_le hia]
   · rw [List.drop_eq_getElem_cons (by omega)]; rfl
   · rw [List.drop_eq_nil_of_le (by omega)]; rfl
abbrev pmF (p : Pla Mov) : List DV := [movs p.l, .int .i64 p.cost]
abbrev frsM (X : Nat → Prop) (l : List Mov) : DV := .frs 67 3 l.length X (rowF mvF mv0 l)
abbrev pzF (X : Nat → Prop) (p : Pla Mov) : List DV := [frsM X p.l, .int .i64 p.cost]
def pzB (p : Pla Mov) : Prop := p.l.length ≤ 1000 ∧ ∀ m ∈ p.l, mvS m
theorem p96 (p q : Pla Mov) (hp : pzB p) (hq : pzB q) : FSpec Tryz.prog 220 [.agg ((pmF p).map .d), .agg ((pmF q).map .d)] [] (fun v r => v = .d (.bool (lessP mvC p q)) ∧ r = []) := by
 have hp1 := hp.1
 have hq1 := hq.1
 refine spec_of hT (C := []) Tryz.func220 rfl Tryz.call220 rfl rfl rfl ?_
 conv => whnf
 repeat' (first | (refine CallX.exact (p120 p.l q.l (by omega) (by omega) hp.2 hq.2) rfl rfl ?_; rotate_right; conv => whnf) | (refine br_intro ?_ ?_ <;> intro hb <;> (try simp only [brs] at hb) <;> conv => whnf) | omega | (refine And.intro ?_ ?_; ((try dsimp only); first | omega | (refine szA rfl ?_; omega) | (refine szB rfl ?_; omega) | (unfold inI64; omega) | exact rfl | (simp only [List.toList_toArray, List.length_cons, List.length_nil]; omega) | (simp only [lns] at *; omega) | decide | (unfold inI64; decide)); conv => whnf) | decide | assumption)
 all_goals
  refine .ret _ ?_
  conv => whnf
  refine ⟨[], ⟨?_, rfl⟩, trivial⟩
  conv => lhs; whnf
  unfold lessP
  first
   | (rw [if_pos (by omega)]; done)
   | (rw [if_neg (by omega)]; done)
abbrev bys (l : List UInt8) : DV := seqD 1 byteD 0 l
theorem p97 (l : List UInt8) (hl : l.length ≤ 2^20) : FSpec Tryz.prog 222 [.d (bys l)] [] (fun y r => y = .buf 7 ∧ r = [(7, seqB 5 1 byteD 0 l)]) := by
 refine spec_of hT (C := [5]) Tryz.func222 rfl Tryz.call222 rfl rfl rfl ?_
 conv => whnf
 rintro b hbn
 conv => whnf
 repeat' (first | (refine br_intro ?_ ?_ <;> intro hb <;> (try simp only [brs] at hb) <;> conv => whnf) | omega | (refine And.intro ?_ ?_; ((try dsimp only); first | omega | (refine szA rfl ?_; omega) | (refine szB rfl ?_; omega) | (unfold inI64; omega) | exact rfl | (simp only [List.toList_toArray, List.length_cons, List.length_nil]; omega) | (simp only [lns] at *; omega) | decide | (unfold inI64; decide)); conv => whnf) | decide | assumption)
 · have h0 : l = [] := List.eq_nil_of_length_eq_zero (hbn (by assumption))
   subst h0
   refine .ent _ _ (Entails.nil 2 7 5 1 (rowF byteD 0 []) rfl rfl (by decide)) (.ret _ ?_)
   conv => whnf
   exact ⟨_, ⟨rfl, rfl⟩, rr, trivial⟩
 · refine .ret _ ?_
   conv => whnf
   refine ⟨_, ⟨rfl, rfl⟩, Res.le_buf (by simp) (fun i hi => ?_), trivial⟩
   rw [appGet_ge (by omega)]; rfl
theorem p98 (l : List Mov) (hl : l.length ≤ 2^20) : FSpec Tryz.prog 223 [.d (movs l)] [] (fun y r => y = .buf 7 ∧ r = [(7, seqB 67 3 mvF mv0 l)]) := by
 refine spec_of hT (C := [5]) Tryz.func223 rfl Tryz.call223 rfl rfl rfl ?_
 conv => whnf
 rintro b hbn
 conv => whnf
 repeat' (first | (refine br_intro ?_ ?_ <;> intro hb <;> (try simp only [brs] at hb) <;> conv => whnf) | omega | (refine And.intro ?_ ?_; ((try dsimp only); first | omega | (refine szA rfl ?_; omega) | (refine szB rfl ?_; omega) | (unfold inI64; omega) | exact rfl | (simp only [List.toList_toArray, List.length_cons, List.length_nil]; omega) | (simp only [lns] at *; omega) | decide | (unfold inI64; decide)); conv => whnf) | decide | assumption)
 · have h0 : l = [] := List.eq_nil_of_length_eq_zero (hbn (by assumption))
   subst h0
   refine .ent _ _ (Entails.nil 2 7 67 3 (rowF mvF mv0 []) rfl rfl (by decide)) (.ret _ ?_)
   conv => whnf
   exact ⟨_, ⟨rfl, rfl⟩, rr, trivial⟩
 · refine .ret _ ?_
   conv => whnf
   refine ⟨_, ⟨rfl, rfl⟩, Res.le_buf (by simp) (fun i hi => ?_), trivial⟩
   rw [appGet_ge (by omega)]; rfl
def keyS : List DV → List UInt8
 | [.str s] => s
 | _ => []
theorem wk_str {K : List DV} (h : wk [.str] K = true) : ∃ s, K = [.str s] := by
 cases K with
 | nil => simp [wk] at h
 | cons x r =>
   cases r with
   | cons y r => simp [wk] at h
   | nil => cases x <;> simp [wk, wk1] at h; exact ⟨_, rfl⟩
def pzV (X : Nat → Prop) : Option (Pla Mov) → List DV
 | some p => pzF X p
 | none => [.nilsl, .int .i64 0]
def pmH (M : PMap Mov) (K : List DV) : Bool := (M (keyS K)).isSome
def pmV (X : Nat → Prop) (M : PMap Mov) (K : List DV) : List DV := pzV X (M (keyS K))
abbrev pmR (X : Nat → Prop) (M : PMap Mov) : Res := .map false true [.str] [.nilsl, .int .i64 0] (pmH M) (pmV X M)
theorem SV.le_frsx {e k n m : Nat} {X : Nat → Prop} {g h : Nat → List DV} (hn : n = m) (hg : ∀ i, i < n → g i = h i) : SV.le (.d (.frs e k n X g)) (.d (.frs e k m X h)) := by
 subst hn
 intro G β v hv
 cases hv with | d _ _ hv =>
 refine .d _ _ ?_
 cases hv with
 | frsnil => exact .frsnil _ _ _ _
 | frse _ _ _ _ a cap hs hmax => exact .frse _ _ _ _ a cap hs hmax
 | frs _ _ _ _ _ b cap cur vals hX hb hcap hmax hsz hl hc hd => exact .frs _ _ _ _ _ b cap cur vals hX hb hcap hmax hsz (fun i hi => by rw [← hg i hi]; exact hl i hi) (fun i j x hi hx => hc i j x hi (by rw [hg i hi]; exact hx)) (fun i j x hi hx => hd i j x hi (by rw [hg i hi]; exact hx))
theorem keyEq_str (s x : List UInt8) : keyEq [.str s] [.str x] = decide (s = x) := by rw [Bool.eq_iff_iff]; simp [keyEq, keyEq1]
theorem pmR_ins {X : Nat → Prop} {M M' : PMap Mov} {x : List UInt8} {p : Pla Mov} (h : ∀ s, M' s = if s = x then some p else M s) :
 Res.le (.map false true [.str] [.nilsl, .int .i64 0] (fun q => keyEq q [.str x] || pmH M q) (fun q => bif keyEq q [.str x] then pzF X p else pmV X M q)) (pmR X M') := Res.le_map fun K hK => by
 obtain ⟨s, rfl⟩ := wk_str hK
 rw [keyEq_str]
 unfold pmH pmV
 show (decide (s = x) || (M s).isSome) = (M' s).isSome ∧ (bif decide (s = x) then pzF X p else pzV X (M s)) = pzV X (M' s)
 rw [h s]
 by_cases q : s = x
 · rw [if_pos q, decide_eq_true q]; exact ⟨rfl, rfl⟩
 · rw [if_neg q, decide_eq_false q]; exact ⟨Bool.false_or _, rfl⟩
theorem pmR_eq {X : Nat → Prop} {M M' : PMap Mov} (h : ∀ s, M' s = M s) : Res.le (pmR X M) (pmR X M') := by
 have : M' = M := funext h
 rw [this]; exact rr
def oXPfT183_12 : List (Nat × List Nat) := [(0, []), (1, []), (3, [0, 1]), (4, [0, 1, 3]), (5, [0, 1, 3, 4]), (6, [0, 1, 3]), (7, [0, 1, 3]), (8, [0, 1, 3, 4, 5, 6, 7]), (9, [0, 1]), (10, [0, 1]), (12, [0, 1, 3, 4, 5, 6, 7, 8, 9, 10]), (13, [0, 1, 3, 4, 5, 6, 7, 8, 9, 10]), (14, [0, 1, 3, 4, 5, 6, 7, 8, 9, 10, 12, 13]), (15, [0, 1, 3, 4, 5, 6, 7, 8, 9, 10, 12, 13, 14]), (16, [0, 1, 3, 4, 5, 6, 7, 8, 9, 10, 12, 13, 14]), (17, [0, 1, 3, 4, 5, 6, 7, 8, 9, 10, 12, 13]), (18, [0, 1, 3, 4, 5, 6, 7, 8, 9, 10]), (20, [0, 1, 3, 4, 5, 6, 7, 8, 9, 10, 12, 13, 14, 15, 16, 17, 18]), (2, [3, 4, 5, 6, 7, 8, 9, 10, 12, 13, 14, 15, 16, 17, 18, 20]), (11, [12, 13, 14, 15, 16, 17, 18, 20]), (19, [20]), (21, [])]
def mapB (M : PMap Mov) : Prop := ∀ σ q, M σ = some q → pzB q
theorem insM_b {M : PMap Mov} (h : mapB M) {σ : List UInt8} {p : Pla Mov} (hp : pzB p) : mapB (insM mvC M σ p) := by
 intro τ q hq
 unfold insM at hq
 split at hq
 · cases hM : M σ with
   | none => rw [hM] at hq; cases hq; exact hp
   | some old =>
     rw [hM] at hq
     simp only at hq
     split at hq
     · cases hq; exact hp
     · cases hq; exact h σ _ hM
 · exact h τ q hq
theorem rep_b {F : Int → PMap Mov → PMap Mov} : ∀ {n : Nat} {M : PMap Mov}, mapB M → (∀ k M, 1 ≤ k → k ≤ (n : Int) → mapB M → mapB (F k M)) → mapB (rep F n M)
 | 0, _, h, _ => h
 | n + 1, M, h, hF => by
   rw [rep]
   exact hF _ _ (by omega) (by omega) (rep_b h fun k M h1 h2 hM => hF k M h1 (by omega) hM)
def roomP (p : Pla Mov) (left : Int) (d : Nat) : Prop := (p.l.length + d ≤ 1000 ∧ ∀ m ∈ p.l, mvS m) ∧ (0 ≤ left ∧ left ≤ 20) ∧ 0 ≤ p.cost ∧ p.cost + left * 1000000 ≤ 1000000000000
theorem roomP.b {p : Pla Mov} {left : Int} {d : Nat} (h : roomP p left d) : pzB p := ⟨by have := h.1.1; omega, h.1.2⟩
theorem roomP.skip {p : Pla Mov} {left : Int} {d : Nat} (h : roomP p left (d + 1)) : roomP p left d := ⟨⟨by have := h.1.1; omega, h.1.2⟩, h.2⟩
theorem roomP.app {p : Pla Mov} {left n car : Int} {d : Nat} (h : roomP p left (d + 1)) (h1 : 1 ≤ n) (h2 : n ≤ left) (hc : 0 ≤ car ∧ car ≤ 1000000) {a b : List UInt8} : roomP (p.app [⟨a, b, n⟩] (n * car)) (left - n) d := by
 obtain ⟨⟨q1, q2⟩, q3, q4, q5⟩ := h
 have hm : 0 ≤ n * car := Int.mul_nonneg (by omega) hc.1
 have hm2 : n * car ≤ n * 1000000 := Int.mul_le_mul_of_nonneg_left hc.2 (by omega)
 refine ⟨⟨?_, fun m hm => ?_⟩, by omega, ?_, ?_⟩
 · show (p.l ++ _).length + d ≤ 1000
   rw [List.length_append]; simp; omega
 · rcases List.mem_append.1 hm with z | z
   · exact q2 m z
   · have : m = ⟨a, b, n⟩ := by simpa using z
     subst this
     exact ⟨by show -1000000 ≤ n; omega, by show n ≤ 1000000; omega⟩
 · show 0 ≤ p.cost + n * car; omega
 · show p.cost + n * car + (left - n) * 1000000 ≤ 1000000000000
   have : (left - n) * 1000000 = left * 1000000 - n * 1000000 := Int.sub_mul _ _ _
   omega
structure SndO (r : List Roa) (fr : List UInt8) (want : List (List UInt8)) (s : Stn Mov) : Prop where
 way : ∀ k, k < want.length → s.way k = (roadO r fr (want.getD k [])).map (·.car)
 mv : ∀ k v, k < want.length → s.mv k v = ⟨fr, want.getD k [], v⟩
theorem stL_len (st : List UInt8) (k : Nat) (n : Int) : (stL st k n).length = st.length := by unfold stL; rw [List.length_set]
theorem sendM_b {r : List Roa} {fr : List UInt8} {want : List (List UInt8)} {s : Stn Mov} (hs : SndO r fr want s) (hr : rdsE r = 0) : ∀ (d k : Nat) (st : List UInt8) (left : Int) (p : Pla Mov) (M : PMap Mov), k + d = want.length → roomP p left d → mapB M → mapB (sendM mvC s d k st left p M) := by
 intro d
 induction d with
 | zero => intro k st left p M _ hp hM; rw [sendM]; exact insM_b hM hp.b
 | succ d ih =>
   intro k st left p M hk hp hM
   have h1 := ih (k + 1) st left p M (by omega) hp.skip hM
   rw [sendM, hs.way k (by omega)]
   cases q : roadO r fr (want.getD k []) with
   | none => exact h1
   | some x =>
     have hx := (roadO_bd hr q).1
     refine rep_b h1 fun n M' n1 n2 hM' => ?_
     refine ih (k + 1) _ _ _ _ (by omega) ?_ hM'
     rw [hs.mv k n (by omega)]
     exact hp.app n1 (by omega) hx
set_option maxHeartbeats 8000000 in
theorem p69 {X : Nat → Prop} {r : List Roa} {fr : List UInt8} {want : List (List UInt8)} {s : Stn Mov} (hs : SndO r fr want s) (hr : rdsE r = 0) (hw : want.length ≤ 1000) : ∀ (d k : Nat) (st : List UInt8) (left : Int) (p : Pla Mov) (M : PMap Mov), k + d = want.length → st.length = want.length → roomP p left d → mapB M →
 FSpec Tryz.prog 183 [.d (roas r), .d (.str fr), .d (strs want), .d (bys st), .d (.int .i64 k), .d (.int .i64 left), .agg ((pzF X p).map .d), .mp 1000000] [(1000000, pmR X M), (1000007, .inX X)] (fun y q => y = .tup [] ∧ q = [(1000000, pmR X (sendM mvC s d k st left p M)), (1000007, .inX X)]) := by
 intro d
 induction d with
 | zero =>
   intro k st left p M hk hst hp hM
   cases hMs : M st with
   | none =>
     have hm2 : M (keyS [.str st]) = none := hMs
     have hv : pmV X M [.str st] = [.nilsl, .int .i64 0] := by unfold pmV; rw [hm2]; rfl
     have hh : pmH M [.str st] = false := by unfold pmH; rw [hm2]; rfl
     refine spec_of hT (C := []) Tryz.func183 rfl Tryz.call183 rfl rfl rfl ?_
     conv => whnf
     repeat' (first | (refine And.intro (rfl : zrow _ = some [.nilsl, .int .i64 0]) ?_; conv => whnf) | (refine ⟨st, ⟨rfl, fun _ _ => rfl⟩, ?_⟩; conv => whnf) | (rw [hv, hh]; conv => whnf) | (refine br_intro ?_ ?_ <;> intro hb <;> (try simp only [brs] at hb) <;> conv => whnf) | (refine RegX.rule (id := 12) hT rfl [] oXPfT183_12 (by decide +kernel) ?_; conv => whnf) | omega | (refine And.intro ?_ ?_; ((try dsimp only); first | omega | (refine szA rfl ?_; omega) | (refine szB rfl ?_; omega) | (unfold inI64; omega) | exact rfl | (simp only [List.toList_toArray, List.length_cons, List.length_nil]; omega) | (simp only [lns] at *; omega) | decide | (unfold inI64; decide)); conv => whnf) | decide | assumption)
     all_goals try (exfalso; omega)
     refine .ret _ ?_
     conv => whnf
     refine ⟨_, ⟨rfl, rfl⟩, ?_, rr, trivial⟩
     refine pmR_ins fun s' => ?_
     rw [sendM, insM, hMs]
   | some old =>
     have hm2 : M (keyS [.str st]) = some old := hMs
     have hv : pmV X M [.str st] = pzF X old := by unfold pmV; rw [hm2]; rfl
     have hh : pmH M [.str st] = true := by unfold pmH; rw [hm2]; rfl
     refine spec_of hT (C := []) Tryz.func183 rfl Tryz.call183 rfl rfl rfl ?_
     conv => whnf
     repeat' (first | (refine And.intro (rfl : zrow _ = some [.nilsl, .int .i64 0]) ?_; conv => whnf) | (refine ⟨st, ⟨rfl, fun _ _ => rfl⟩, ?_⟩; conv => whnf) | (rw [hv, hh]; conv => whnf) | (refine CallX.pure (p96 p old hp.b (hM _ _ hMs)) ⟨SV.le_agg ⟨SV.le_frs, lr, trivial⟩, SV.le_agg ⟨SV.le_frs, lr, trivial⟩, trivial⟩ rfl ?_; conv => whnf) | (refine br_intro ?_ ?_ <;> intro hb <;> (try simp only [brs] at hb) <;> conv => whnf) | (refine RegX.rule (id := 12) hT rfl [] oXPfT183_12 (by decide +kernel) ?_; conv => whnf) | omega | (refine And.intro ?_ ?_; ((try dsimp only); first | omega | (refine szA rfl ?_; omega) | (refine szB rfl ?_; omega) | (unfold inI64; omega) | exact rfl | (simp only [List.toList_toArray, List.length_cons, List.length_nil]; omega) | (simp only [lns] at *; omega) | decide | (unfold inI64; decide)); conv => whnf) | decide | assumption)
     all_goals try (exfalso; omega)
     · refine .ret _ ?_
       conv => whnf
       refine ⟨_, ⟨rfl, rfl⟩, ?_, rr, trivial⟩
       refine pmR_ins fun s' => ?_
       rw [sendM, insM, hMs]
       simp only [hb, if_true]
     · refine .ret _ ?_
       conv => whnf
       refine ⟨_, ⟨rfl, rfl⟩, ?_, rr, trivial⟩
       refine pmR_eq fun s' => ?_
       rw [sendM, insM, hMs]
       simp only [hb]
       by_cases q : s' = st
       · rw [if_pos q, q, hMs]; rfl
       · rw [if_neg q]
 | succ d ih =>
   intro k st left p M hk hst hp hM
   have hrl := (rds_all hr).1
   have ek : (k : Int).toNat = k := Int.toNat_natCast k
   obtain ⟨⟨hp1, hp2⟩, hp3, hp4, hp5⟩ := hp
   have hp : roomP p left (d + 1) := ⟨⟨hp1, hp2⟩, hp3, hp4, hp5⟩
   have hway := hs.way k (by omega)
   have hM1 := sendM_b hs hr d (k + 1) st left p M (by omega) hp.skip hM
   have h113 := z113 r (by omega) fr (want.getD (k : Int).toNat [])
   have hih := ih (k + 1) st left p M (by omega) hst hp.skip hM
   cases hro : roadO r fr (want.getD k []) with
   | none =>
     rw [hro] at hway
     rw [ek, hro] at h113
     rw [← ek] at h113
     refine spec_of hT (C := []) Tryz.func183 rfl Tryz.call183 rfl rfl rfl ?_
     conv => whnf
     repeat' (first | (refine CallX.of hih [(1000000, 1000000), (1000007, 1000007)] rfl ⟨lr, lr, lr, lr, SV.le_int (by omega), lr, lr, lr, trivial⟩ ⟨rr, rr, trivial⟩ rfl rfl ?_; rintro x rout ⟨rfl, rfl⟩; refine ⟨rfl, ?_⟩; conv => whnf) | (refine CallX.exact (h113) rfl rfl ?_; rotate_right; conv => whnf) | (refine br_intro ?_ ?_ <;> intro hb <;> (try simp only [brs] at hb) <;> conv => whnf) | (refine RegX.rule (id := 12) hT rfl [] oXPfT183_12 (by decide +kernel) ?_; conv => whnf) | omega | (refine And.intro ?_ ?_; ((try dsimp only); first | omega | (refine szA rfl ?_; omega) | (refine szB rfl ?_; omega) | (unfold inI64; omega) | exact rfl | (simp only [List.toList_toArray, List.length_cons, List.length_nil]; omega) | (simp only [lns] at *; omega) | decide | (unfold inI64; decide)); conv => whnf) | decide | assumption)
     all_goals try (exfalso; omega)
     refine LoopX.rule hT (C := []) (ι := Unit) (fun _ => True) (fun _ => mkSt [(0, .d (roas r)), (1, .d (.str fr)), (2, .d (strs want)), (3, .d (bys st)), (4, .d (.int .i64 k)), (5, .d (.int .i64 left)), (7, .mp 1000000), (14, .ptr 14 0), (18, .ptr 18 0), (19, .d (.bool false)), (20, .d (.int .i64 1))] [(1000000, pmR X (sendM mvC s d (k + 1) st left p M)), (1000007, .inX X), (14, .cells 224 ((pzF X p).map .d)), (18, .cells 153 ((rdF rd0).map .d))]) (fun _ => 0) () trivial ?_ ?_
     · exact Entails.mk' [(1000000, 1000000), (1000007, 1000007), (14, 14), (18, 18)] rfl rfl ⟨lr, lr, lr, lr, lr, lr, lr, lr, lr, lr, lr, trivial⟩ ⟨rr, rr, rr, rr, trivial⟩
     rintro _ _
     conv => whnf
     repeat' (first | (refine br_intro ?_ ?_ <;> intro hb <;> (try simp only [brs] at hb) <;> conv => whnf) | (refine RegX.rule (id := 12) hT rfl [] oXPfT183_12 (by decide +kernel) ?_; conv => whnf) | omega | (refine And.intro ?_ ?_; ((try dsimp only); first | omega | (refine szA rfl ?_; omega) | (refine szB rfl ?_; omega) | (unfold inI64; omega) | exact rfl | (simp only [List.toList_toArray, List.length_cons, List.length_nil]; omega) | (simp only [lns] at *; omega) | decide | (unfold inI64; decide)); conv => whnf) | decide | assumption)
     all_goals try (exfalso; omega)
     refine .ret _ ?_
     conv => whnf
     refine ⟨_, ⟨rfl, rfl⟩, ?_, rr, trivial⟩
     refine pmR_eq fun s' => ?_
     rw [sendM, hway]; rfl
   | some x =>
     have hxc := (roadO_bd hr hro).1
     rw [hro] at hway
     rw [ek, hro] at h113
     rw [← ek] at h113
     refine spec_of hT (C := []) Tryz.func183 rfl Tryz.call183 rfl rfl rfl ?_
     conv => whnf
     repeat' (first | (refine CallX.of hih [(1000000, 1000000), (1000007, 1000007)] rfl ⟨lr, lr, lr, lr, SV.le_int (by omega), lr, lr, lr, trivial⟩ ⟨rr, rr, trivial⟩ rfl rfl ?_; rintro x rout ⟨rfl, rfl⟩; refine ⟨rfl, ?_⟩; conv => whnf) | (refine CallX.exact (h113) rfl rfl ?_; rotate_right; conv => whnf) | (refine br_intro ?_ ?_ <;> intro hb <;> (try simp only [brs] at hb) <;> conv => whnf) | (refine RegX.rule (id := 12) hT rfl [] oXPfT183_12 (by decide +kernel) ?_; conv => whnf) | omega | (refine And.intro ?_ ?_; ((try dsimp only); first | omega | (refine szA rfl ?_; omega) | (refine szB rfl ?_; omega) | (unfold inI64; omega) | exact rfl | (simp only [List.toList_toArray, List.length_cons, List.length_nil]; omega) | (simp only [lns] at *; omega) | decide | (unfold inI64; decide)); conv => whnf) | decide | assumption)
     all_goals try (exfalso; omega)
     refine LoopX.rule hT (C := []) (ι := Nat) (fun j => (j : Int) ≤ left ∧ j ≤ (st.getD k 0).toNat) (fun j => mkSt [(0, .d (roas r)), (1, .d (.str fr)), (2, .d (strs want)), (3, .d (bys st)), (4, .d (.int .i64 k)), (5, .d (.int .i64 left)), (7, .mp 1000000), (14, .ptr 14 0), (18, .ptr 18 0), (19, .d (.bool true)), (20, .d (.int .i64 (j + 1 : Nat)))] [(1000000, pmR X (rep (fun n M => sendM mvC s d (k + 1) (stL st k n) (left - n) (p.app [s.mv k n] (n * x.car)) M) j (sendM mvC s d (k + 1) st left p M))), (1000007, .inX X), (14, .cells 224 ((pzF X p).map .d)), (18, .cells 153 ((rdF x).map .d))]) (fun j => 30 - j) 0 ⟨hp3.1, Nat.zero_le _⟩ ?_ ?_
     · exact Entails.mk' [(1000000, 1000000), (1000007, 1000007), (14, 14), (18, 18)] rfl rfl ⟨lr, lr, lr, lr, lr, lr, lr, lr, lr, lr, lr, trivial⟩ ⟨rr, rr, rr, rr, trivial⟩
     rintro j ⟨hj1, hj2⟩
     have hj1 : (j : Int) ≤ left := hj1
     have hj2 : j ≤ (st.getD k 0).toNat := hj2
     have hbt : (st.getD k 0).toNat < 256 := (st.getD k 0).toNat_lt
     have hbt' : (st.getD (k : Int).toNat 0).toNat < 256 := (st.getD (k : Int).toNat 0).toNat_lt
     by_cases hjj : ((j + 1 : Nat) : Int) ≤ left ∧ j + 1 ≤ (st.getD k 0).toNat
     · have hmul : 0 ≤ ((j + 1 : Nat) : Int) * x.car ∧ ((j + 1 : Nat) : Int) * x.car ≤ 20 * 1000000 := ⟨Int.mul_nonneg (by omega) hxc.1, Int.mul_le_mul (by omega) hxc.2 hxc.1 (by omega)⟩
       have hroom : roomP (p.app [⟨fr, want.getD k [], ((j + 1 : Nat) : Int)⟩] (((j + 1 : Nat) : Int) * x.car)) (left - ((j + 1 : Nat) : Int)) d := hp.app (by omega) hjj.1 hxc
       have hMj : mapB (rep (fun n M => sendM mvC s d (k + 1) (stL st k n) (left - n) (p.app [s.mv k n] (n * x.car)) M) j (sendM mvC s d (k + 1) st left p M)) := by
        refine rep_b hM1 fun n M' n1 n2 hM' => ?_
        refine sendM_b hs hr d (k + 1) _ _ _ _ (by omega) ?_ hM'
        rw [hs.mv k n (by omega)]
        exact hp.app n1 (by omega) hxc
       have hwr : IntKind.u8.wrap (((st.getD (k : Int).toNat 0).toNat : Int) - IntKind.u8.wrap ((j + 1 : Nat) : Int)) = ((UInt8.ofNat ((st.getD k 0).toNat - (j + 1))).toNat : Int) := by
        rw [ek, IntWalk.u8_in ((j + 1 : Nat) : Int) (by omega), IntWalk.u8_in _ (by omega), UInt8.toNat_ofNat']
        omega
       have hih2 := ih (k + 1) (stL st k ((j + 1 : Nat) : Int)) (left - ((j + 1 : Nat) : Int)) _ _ (by omega) (by rw [stL_len]; exact hst) hroom hMj
       conv => whnf
       repeat' (first | (refine CallX.of (p97 st (by omega)) [(7, 83)] rfl ⟨lr, trivial⟩ trivial rfl rfl ?_; rintro x rout ⟨rfl, rfl⟩; refine ⟨rfl, ?_⟩; conv => whnf) | (refine CallX.of (p98 p.l (by omega)) [(7, 94)] rfl ⟨SV.le_frs, trivial⟩ trivial rfl rfl ?_; rintro x rout ⟨rfl, rfl⟩; refine ⟨rfl, ?_⟩; conv => whnf) | (refine br_intro ?_ ?_ <;> intro hb <;> (try simp only [brs] at hb) <;> conv => whnf) | (refine RegX.rule (id := 12) hT rfl [] oXPfT183_12 (by decide +kernel) ?_; conv => whnf) | omega | (refine And.intro ?_ ?_; ((try dsimp only); first | omega | (refine szA rfl ?_; omega) | (refine szB rfl ?_; omega) | (unfold inI64; omega) | exact rfl | (simp only [List.toList_toArray, List.length_cons, List.length_nil]; omega) | (simp only [lns] at *; omega) | decide | (unfold inI64; decide)); conv => whnf) | decide | assumption)
       all_goals try (exfalso; omega)
       refine CallX.freeze _ _ _ _ 83 5 1 _ _ rfl rfl ?_
       refine CallX.freezeF _ _ _ _ 1000007 103 67 3 _ _ _ rfl rfl rfl rfl ?_
       refine CallX.of hih2 [(1000000, 1000000), (1000007, 1000007)] rfl ⟨lr, lr, lr, ?_, ?_, lr, SV.le_agg ⟨?_, ?_, trivial⟩, lr, trivial⟩ ⟨rr, rr, trivial⟩ rfl rfl ?_
       · exact (SV.le_putF (x := UInt8.ofNat ((st.getD k 0).toNat - (j + 1))) (fun y _ => congrArg (fun z => [DV.int IntKind.u8 z]) hwr))
       · exact SV.le_int (by omega)
       · exact (SV.le_frsx (by show _ = (p.l ++ [_]).length; simp) (rows_snocF (f := mvF) (d := mv0) (l := p.l) (x := (⟨fr, want.getD k [], ((j + 1 : Nat) : Int)⟩ : Mov)) (by rfl)))
       · exact lr
       rintro x' rout ⟨rfl, rfl⟩
       refine ⟨rfl, ?_⟩
       conv => whnf
       repeat' (first | (refine br_intro ?_ ?_ <;> intro hb <;> (try simp only [brs] at hb) <;> conv => whnf) | (refine RegX.rule (id := 12) hT rfl [] oXPfT183_12 (by decide +kernel) ?_; conv => whnf) | omega | (refine And.intro ?_ ?_; ((try dsimp only); first | omega | (refine szA rfl ?_; omega) | (refine szB rfl ?_; omega) | (unfold inI64; omega) | exact rfl | (simp only [List.toList_toArray, List.length_cons, List.length_nil]; omega) | (simp only [lns] at *; omega) | decide | (unfold inI64; decide)); conv => whnf) | decide | assumption)
       all_goals try (exfalso; omega)
       refine ⟨j + 1, ⟨hjj.1, hjj.2⟩, by omega, Entails.mk' [(1000000, 1000000), (1000007, 1000007), (14, 14), (18, 18)] rfl rfl ⟨lr, lr, lr, lr, lr, lr, lr, lr, lr, lr, lr, trivial⟩ ⟨?_, rr, rr, rr, trivial⟩⟩
       refine pmR_eq fun s' => ?_
       rw [rep, hs.mv k _ (by omega)]; rfl
     · conv => whnf
       repeat' (first | (refine br_intro ?_ ?_ <;> intro hb <;> (try simp only [brs] at hb) <;> conv => whnf) | (refine RegX.rule (id := 12) hT rfl [] oXPfT183_12 (by decide +kernel) ?_; conv => whnf) | omega | (refine And.intro ?_ ?_; ((try dsimp only); first | omega | (refine szA rfl ?_; omega) | (refine szB rfl ?_; omega) | (unfold inI64; omega) | exact rfl | (simp only [List.toList_toArray, List.length_cons, List.length_nil]; omega) | (simp only [lns] at *; omega) | decide | (unfold inI64; decide)); conv => whnf) | decide | assumption)
       all_goals try (exfalso; omega)
       all_goals
        refine .ret _ ?_
        conv => whnf
        refine ⟨_, ⟨rfl, rfl⟩, ?_, rr, trivial⟩
        refine pmR_eq fun s' => ?_
        rw [sendM, hway]
        have ej : (min left ((st.getD k 0).toNat : Int)).toNat = j := by omega
        simp only [Option.map_some, ej]
end Go.Proofs.YtgeakdcbpjmkbaaGreatDoor
