/- PassagesComeBack is proved: for every input the law returns true, and its argument reads afterwards as it read before. Conditions: those of the given row alone. -/
import Derived.Test.YtgeakdcbpjmkbaaGreatDoorXpbConTwo
import Derived.Test.YtgeakdcbpjmkbaaGreatDoorXpbConOne
set_option linter.unusedVariables false
set_option linter.unusedSimpArgs false
set_option maxRecDepth 20000
namespace Go.Proofs.YtgeakdcbpjmkbaaGreatDoor
open Go Go.Eng
def oXDRdB64_16 : List (Nat × List Nat) := [(0, []), (1, []), (2, []), (3, []), (4, [3]), (5, [3]), (6, []), (7, []), (8, [3, 4, 5, 6, 7]), (9, []), (10, []), (11, []), (12, [])]
def oXDRdB198_4 : List (Nat × List Nat) := [(0, []), (1, [0]), (2, []), (3, []), (4, []), (5, [4]), (6, [4, 5]), (7, [4]), (8, [4]), (9, [4, 5, 6, 7, 8]), (10, [4, 5, 6, 7, 8, 9]), (11, [4, 5, 6, 7, 8, 9]), (12, [4, 5, 6, 7, 8]), (13, [4, 5, 6, 7, 8]), (14, []), (15, []), (16, [])]
def oXDRdB198_6 : List (Nat × List Nat) := [(0, []), (1, [0]), (2, [0, 1]), (3, [0, 1, 2]), (4, [0, 1, 2]), (5, [0, 1, 2, 3, 4]), (6, [0, 1, 2, 3, 4, 5]), (7, [0, 1, 2, 3, 4, 5]), (8, [0, 1, 2, 3, 4]), (9, [0, 1, 2, 3, 4]), (10, [0, 1, 2, 3, 4, 5, 6, 7, 8, 9]), (11, [0, 1, 2, 3, 4, 5, 6, 7, 8, 9, 10]), (12, [0, 1, 2, 3, 4, 5, 6, 7, 8, 9]), (13, [0, 1, 2, 3, 4, 5, 6, 7, 8, 9]), (14, [2, 3, 4]), (15, [2, 3, 4]), (16, []), (17, [])]
def oXDRdB160_6 : List (Nat × List Nat) := [(0, []), (1, [0]), (2, []), (3, []), (4, [0, 1, 2, 3]), (5, [0, 1, 2, 3, 4]), (6, [0, 1, 2, 3, 4]), (7, [0, 1, 2, 3]), (8, [0, 1, 2, 3]), (9, [])]
def oXDRdB160_11 : List (Nat × List Nat) := [(0, []), (1, [0]), (2, []), (3, []), (4, [0, 1, 2, 3]), (5, [0, 1, 2, 3, 4]), (6, [0, 1, 2, 3, 4]), (7, [0, 1, 2, 3]), (8, [0, 1, 2, 3]), (9, [])]
def esF : List Ent → List DV := fun l => [ents l]
abbrev entss (l : List (List Ent)) : DV := seqD 1 esF [] l
def lensE (l : List (List Ent)) : Nat := (l.map List.length).sum
theorem lensE_take {l : List (List Ent)} {i : Nat} (h : i < l.length) : lensE (l.take (i + 1)) = lensE (l.take i) + (l.getD i []).length := by
 unfold lensE; rw [take_snocD (d := []) h]; simp
theorem lensE_le {l : List (List Ent)} {i : Nat} : lensE (l.take i) ≤ lensE l := by
 have h := congrArg lensE (List.take_append_drop i l)
 have h2 : lensE (l.take i ++ l.drop i) = lensE (l.take i) + lensE (l.drop i) := by unfold lensE; rw [List.map_append, List.sum_append]
 omega
theorem flat_lenE (l : List (List Ent)) : l.flatten.length = lensE l := by
 unfold lensE; rw [List.length_flatten]
theorem sConcatE (l : List (List Ent)) (hl : l.length ≤ 2^20) (hn : lensE l ≤ 2^20) :
 FSpec Tryz.prog 156 [.d (entss l)] [] (fun y r => y = .buf 6 ∧ r = [(6, seqB 39 4 enF en0 l.flatten)]) := by
 refine spec_of hT (C := []) Tryz.func156 rfl Tryz.call156 rfl rfl rfl ?_
 conv => whnf
 refine LoopX.rule hT (C := []) (ι := Nat) (fun i => i ≤ l.length) (fun i => mkSt [(0, .d (entss l)), (3, .d (.int .i64 (lensE (l.take i)))), (9, .d (entss l)), (10, .d (.int .i64 l.length)), (11, .d (.int .i64 i))] []) (fun i => l.length - i) 0 (by omega) (by (refine Entails.mk' [] rfl rfl ?_ ?_ <;> repeat' (first | exact True.intro | exact lr | exact rr | exact SV.le_int (by omega) | exact SV.le_any _ | refine And.intro ?_ ?_)); done) ?_
 rintro i p1
 have e1 : (i : Int).toNat = i := Int.toNat_natCast i
 have hls : lensE (l.take i) ≤ lensE l := lensE_le
 have hls2 : i < l.length → lensE (l.take i) + (l.getD (i : Int).toNat []).length ≤ lensE l := fun h => by rw [e1, ← lensE_take h]; exact lensE_le
 conv => whnf
 repeat' (first | (refine br_intro ?_ ?_ <;> intro hb <;> (try simp only [brs] at hb) <;> conv => whnf) | omega | (refine And.intro ?_ ?_; ((try dsimp only); first | omega | (refine szA rfl ?_; omega) | (refine szB rfl ?_; omega) | (unfold inI64; omega) | exact rfl | (simp only [List.toList_toArray, List.length_cons, List.length_nil]; omega) | (simp only [lns] at *; omega) | decide | (unfold inI64; decide)); conv => whnf) | decide | assumption)
 · refine ⟨i + 1, by omega, by omega, Entails.mk' [] rfl rfl ⟨lr, SV.le_int ?_, lr, lr, lr, trivial⟩ trivial⟩
   rw [lensE_take (by omega), e1]; omega
 have hi : i = l.length := by omega
 subst hi
 rw [List.take_length] at *
 refine CallX.of (sGrowE (lensE l) hn) [(1000001, 24)] rfl ⟨lr, lr, trivial⟩ trivial rfl rfl ?_
 rintro x rout ⟨rfl, rfl⟩
 refine ⟨rfl, ?_⟩
 conv => whnf
 repeat' (first | (refine br_intro ?_ ?_ <;> intro hb <;> (try simp only [brs] at hb) <;> conv => whnf) | omega | (refine And.intro ?_ ?_; ((try dsimp only); first | omega | (refine szA rfl ?_; omega) | (refine szB rfl ?_; omega) | (unfold inI64; omega) | exact rfl | (simp only [List.toList_toArray, List.length_cons, List.length_nil]; omega) | (simp only [lns] at *; omega) | decide | (unfold inI64; decide)); conv => whnf) | decide | assumption)
 refine LoopX.rule hT (C := []) (ι := Nat) (fun i => i ≤ l.length) (fun i => mkSt [(6, .buf 6), (25, .d (entss l)), (26, .d (.int .i64 l.length)), (27, .d (.int .i64 i))] [(6, seqB 39 4 enF en0 (l.take i).flatten)]) (fun i => l.length - i) 0 (by omega) ?_ ?_
 · exact Entails.mk' [(6, 24)] rfl rfl ⟨lr, lr, lr, lr, trivial⟩ ⟨Res.le_buf rfl (fun i hi => absurd hi (by omega)), trivial⟩
 rintro i p1
 have e1 : (i : Int).toNat = i := Int.toNat_natCast i
 have hls : lensE (l.take i) ≤ lensE l := lensE_le
 have hf := flat_lenE (l.take i)
 have hls2 : (i : Int) < l.length → (l.take i).flatten.length + (l.getD (i : Int).toNat []).length ≤ 2^20 := fun h => by rw [e1, hf, ← lensE_take (by omega)]; exact Nat.le_trans lensE_le hn
 conv => whnf
 repeat' (first | (refine br_intro ?_ ?_ <;> intro hb <;> (try simp only [brs] at hb) <;> conv => whnf) | omega | (refine And.intro ?_ ?_; ((try dsimp only); first | omega | (refine szA rfl ?_; omega) | (refine szB rfl ?_; omega) | (unfold inI64; omega) | exact rfl | (simp only [List.toList_toArray, List.length_cons, List.length_nil]; omega) | (simp only [lns] at *; omega) | decide | (unfold inI64; decide)); conv => whnf) | decide | assumption)
 · have e2 : (l.take (i + 1)).flatten = (l.take i).flatten ++ l.getD (i : Int).toNat [] := by rw [take_snocD (d := []) (by omega), e1]; simp
   refine ⟨i + 1, by omega, by omega, Entails.mk' [(6, 33)] rfl rfl ⟨lr, lr, lr, lr, trivial⟩ ⟨?_, trivial⟩⟩
   rw [e2]; exact Res.le_appF
 · have hi : i = l.length := by omega
   subst hi
   refine .ret _ ?_
   conv => whnf
   refine ⟨_, ⟨rfl, rfl⟩, ?_, trivial⟩
   rw [List.take_length]; exact rr
def e1 : Ent := ⟨1, [100], 1, [120]⟩
theorem sPrinted1 : FSpec Tryz.prog 149 [.d (.str [120])] [] (fun x r => x = .d (.bool true) ∧ r = []) := by
 refine spec_of hT (C := []) Tryz.func149 rfl Tryz.call149 rfl rfl rfl ?_
 conv => whnf
 repeat' (first | (refine LoopX.run hT (C := []) 4 rfl [0, 5, 6] [] (fun _ _ h => h) (fun _ h => h) ?_; conv => whnf) | (refine br_intro ?_ ?_ <;> intro hb <;> (try simp only [brs] at hb) <;> conv => whnf) | omega | (refine And.intro ?_ ?_; ((try dsimp only); first | omega | (refine szA rfl ?_; omega) | (refine szB rfl ?_; omega) | (unfold inI64; omega) | exact rfl | (simp only [List.toList_toArray, List.length_cons, List.length_nil]; omega) | (simp only [lns] at *; omega) | decide | (unfold inI64; decide)); conv => whnf) | decide | assumption)
 refine .ret _ ?_
 conv => whnf
 refine ⟨[], ⟨?_, rfl⟩, trivial⟩
 conv => lhs; whnf
set_option maxHeartbeats 4000000 in
theorem sDChk1 : FSpec Tryz.prog 64 [.d (ents [e1])] [] (fun x r => x = .d (.int .i64 0) ∧ r = []) := by
 have h108 := s108 [100] (by simp)
 rw [show isKeyB [100] = true from by decide] at h108
 refine spec_of hT (C := []) Tryz.func64 rfl Tryz.call64 rfl rfl rfl ?_
 conv => whnf
 repeat' (first | (refine LoopX.run hT (C := []) 10 rfl [0, 3, 11, 12, 13] [] (fun _ _ h => h) (fun _ h => h) ?_; conv => whnf) | (refine CallX.exact (s154 1) rfl rfl ?_; rotate_right; conv => whnf) | (refine CallX.exact (h108) rfl rfl ?_; rotate_right; conv => whnf) | (refine CallX.exact (s119 1 1 1000000) rfl rfl ?_; rotate_right; conv => whnf) | (refine CallX.exact (sPrinted1) rfl rfl ?_; rotate_right; conv => whnf) | (refine br_intro ?_ ?_ <;> intro hb <;> (try simp only [brs] at hb) <;> conv => whnf) | (refine RegX.rule (id := 16) hT rfl [] oXDRdB64_16 (by decide +kernel) ?_; conv => whnf) | omega | (refine And.intro ?_ ?_; ((try dsimp only); first | omega | (refine szA rfl ?_; omega) | (refine szB rfl ?_; omega) | (unfold inI64; omega) | exact rfl | (simp only [List.toList_toArray, List.length_cons, List.length_nil]; omega) | (simp only [lns] at *; omega) | decide | (unfold inI64; decide)); conv => whnf) | decide | assumption)
 refine .ret _ ?_
 conv => whnf
 refine ⟨[], ⟨?_, rfl⟩, trivial⟩
 conv => lhs; whnf
theorem sDChk0 : FSpec Tryz.prog 64 [.d (ents [])] [] (fun x r => x = .d (.int .i64 0) ∧ r = []) := by
 refine spec_of hT (C := []) Tryz.func64 rfl Tryz.call64 rfl rfl rfl ?_
 conv => whnf
 repeat' (first | (refine LoopX.run hT (C := []) 10 rfl [0, 3, 11, 12, 13] [] (fun _ _ h => h) (fun _ h => h) ?_; conv => whnf) | (refine br_intro ?_ ?_ <;> intro hb <;> (try simp only [brs] at hb) <;> conv => whnf) | (refine RegX.rule (id := 16) hT rfl [] oXDRdB64_16 (by decide +kernel) ?_; conv => whnf) | omega | (refine And.intro ?_ ?_; ((try dsimp only); first | omega | (refine szA rfl ?_; omega) | (refine szB rfl ?_; omega) | (unfold inI64; omega) | exact rfl | (simp only [List.toList_toArray, List.length_cons, List.length_nil]; omega) | (simp only [lns] at *; omega) | decide | (unfold inI64; decide)); conv => whnf) | decide | assumption)
 refine .ret _ ?_
 conv => whnf
 refine ⟨[], ⟨?_, rfl⟩, trivial⟩
 conv => lhs; whnf
abbrev enB (l : List Ent) : Res := seqB 39 4 enF en0 l
theorem sIns1 : FSpec Tryz.prog 198 [.buf 1000001, .d (.int .i64 0), .d (.int .i64 1), .fn 157 []] [(1000001, enB [e1])] (fun y r => y = .tup [] ∧ r = [(1000001, enB [e1])]) := by
 refine spec_of hT (C := []) Tryz.func198 rfl Tryz.call198 rfl rfl rfl ?_
 conv => whnf
 repeat' (first | (refine LoopX.run hT (C := []) 2 rfl [0, 1, 2, 3, 8] [1000001] (fun _ _ h => h) (fun _ h => h) ?_; conv => whnf) | (refine LoopX.run hT (C := []) 8 rfl [0, 1, 2, 3, 8, 9] [1000001] (fun _ _ h => h) (fun _ h => h) ?_; conv => whnf) | (refine br_intro ?_ ?_ <;> intro hb <;> (try simp only [brs] at hb) <;> conv => whnf) | (refine RegX.rule (id := 4) hT rfl [] oXDRdB198_4 (by decide +kernel) ?_; conv => whnf) | (refine RegX.rule (id := 6) hT rfl [] oXDRdB198_6 (by decide +kernel) ?_; conv => whnf) | omega | (refine And.intro ?_ ?_; ((try dsimp only); first | omega | (refine szA rfl ?_; omega) | (refine szB rfl ?_; omega) | (unfold inI64; omega) | exact rfl | (simp only [List.toList_toArray, List.length_cons, List.length_nil]; omega) | (simp only [lns] at *; omega) | decide | (unfold inI64; decide)); conv => whnf) | decide | assumption)
 refine .ret _ ?_
 conv => whnf
 exact ⟨_, ⟨rfl, rfl⟩, rr, trivial⟩
theorem sStb1 : FSpec Tryz.prog 146 [.buf 1000001, .d (.int .i64 1), .fn 157 []] [(1000001, enB [e1])] (fun y r => y = .tup [] ∧ r = [(1000001, enB [e1])]) := by
 refine spec_of hT (C := []) Tryz.func146 rfl Tryz.call146 rfl rfl rfl ?_
 conv => whnf
 repeat' (first | (refine LoopX.run hT (C := []) 4 rfl [0, 1, 2, 6, 7, 8] [1000001] (fun _ _ h => h) (fun _ h => h) ?_; conv => whnf) | (refine LoopX.run hT (C := []) 14 rfl [0, 1, 2, 6] [1000001] (fun _ _ h => h) (fun _ h => h) ?_; conv => whnf) | (refine LoopX.run hT (C := []) 18 rfl [0, 1, 2, 6, 7, 8] [1000001] (fun _ _ h => h) (fun _ h => h) ?_; conv => whnf) | (refine CallX.of sIns1 [(1000001, 1000001)] rfl ⟨lr, lr, lr, lr, trivial⟩ ⟨rr, trivial⟩ rfl rfl ?_; rintro x rout ⟨rfl, rfl⟩; refine ⟨rfl, ?_⟩; conv => whnf) | (refine br_intro ?_ ?_ <;> intro hb <;> (try simp only [brs] at hb) <;> conv => whnf) | omega | (refine And.intro ?_ ?_; ((try dsimp only); first | omega | (refine szA rfl ?_; omega) | (refine szB rfl ?_; omega) | (unfold inI64; omega) | exact rfl | (simp only [List.toList_toArray, List.length_cons, List.length_nil]; omega) | (simp only [lns] at *; omega) | decide | (unfold inI64; decide)); conv => whnf) | decide | assumption)
 refine .ret _ ?_
 conv => whnf
 exact ⟨_, ⟨rfl, rfl⟩, rr, trivial⟩
theorem sSrt1 : FSpec Tryz.prog 62 [.buf 1000001, .fn 157 []] [(1000001, enB [e1])] (fun y r => y = .tup [] ∧ r = [(1000001, enB [e1])]) := by
 refine spec_of hT (C := []) Tryz.func62 rfl Tryz.call62 rfl rfl rfl ?_
 conv => whnf
 repeat' (first | (refine CallX.of sStb1 [(1000001, 1000001)] rfl ⟨lr, lr, lr, trivial⟩ ⟨rr, trivial⟩ rfl rfl ?_; rintro x rout ⟨rfl, rfl⟩; refine ⟨rfl, ?_⟩; conv => whnf) | (refine br_intro ?_ ?_ <;> intro hb <;> (try simp only [brs] at hb) <;> conv => whnf) | omega | (refine And.intro ?_ ?_; ((try dsimp only); first | omega | (refine szA rfl ?_; omega) | (refine szB rfl ?_; omega) | (unfold inI64; omega) | exact rfl | (simp only [List.toList_toArray, List.length_cons, List.length_nil]; omega) | (simp only [lns] at *; omega) | decide | (unfold inI64; decide)); conv => whnf) | decide | assumption)
 refine .ret _ ?_
 conv => whnf
 exact ⟨_, ⟨rfl, rfl⟩, rr, trivial⟩
theorem sCmp1 : FSpec Tryz.prog 160 [.buf 1000001] [(1000001, enB [e1])] (fun y r => y = .buf 1000001 ∧ r = [(1000001, enB [e1])]) := by
 refine spec_of hT (C := []) Tryz.func160 rfl Tryz.call160 rfl rfl rfl ?_
 conv => whnf
 repeat' (first | (refine br_intro ?_ ?_ <;> intro hb <;> (try simp only [brs] at hb) <;> conv => whnf) | (refine RegX.rule (id := 6) hT rfl [] oXDRdB160_6 (by decide +kernel) ?_; conv => whnf) | (refine RegX.rule (id := 11) hT rfl [] oXDRdB160_11 (by decide +kernel) ?_; conv => whnf) | omega | (refine And.intro ?_ ?_; ((try dsimp only); first | omega | (refine szA rfl ?_; omega) | (refine szB rfl ?_; omega) | (unfold inI64; omega) | exact rfl | (simp only [List.toList_toArray, List.length_cons, List.length_nil]; omega) | (simp only [lns] at *; omega) | decide | (unfold inI64; decide)); conv => whnf) | decide | assumption)
 refine .ret _ ?_
 conv => whnf
 exact ⟨_, ⟨rfl, rfl⟩, rr, trivial⟩
set_option maxHeartbeats 4000000 in
theorem sMerge1 : FSpec Tryz.prog 84 [.d (ents [e1]), .d (ents [])] [] (fun y r => y = .tup [.d (ents [e1]), .d (.int .i64 0)] ∧ r = []) := by
 have h105 := s105 [0, 0] (by simp)
 have hc := sConcatE [[e1], []] (by simp) (by decide)
 refine spec_of hT (C := []) Tryz.func84 rfl Tryz.call84 rfl rfl rfl ?_
 conv => whnf
 repeat' (first | (refine CallX.exact (sDChk1) rfl rfl ?_; rotate_right; conv => whnf) | (refine CallX.exact (sDChk0) rfl rfl ?_; rotate_right; conv => whnf) | (refine CallX.pure h105 ⟨SV.le_lit (by rfl) (by rfl), trivial⟩ rfl ?_; conv => whnf) | (refine br_intro ?_ ?_ <;> intro hb <;> (try simp only [brs] at hb) <;> conv => whnf) | omega | (refine And.intro ?_ ?_; ((try dsimp only); first | omega | (refine szA rfl ?_; omega) | (refine szB rfl ?_; omega) | (unfold inI64; omega) | exact rfl | (simp only [List.toList_toArray, List.length_cons, List.length_nil]; omega) | (simp only [lns] at *; omega) | decide | (unfold inI64; decide)); conv => whnf) | decide | assumption)
 refine CallX.of hc [(6, 24)] rfl ⟨SV.le_lit (by rfl) (by rfl), trivial⟩ trivial rfl rfl ?_
 rintro x rout ⟨rfl, rfl⟩
 refine ⟨rfl, ?_⟩
 conv => whnf
 repeat' (first | (refine CallX.of sSrt1 [(1000001, 24)] rfl ⟨lr, lr, trivial⟩ ⟨rr, trivial⟩ rfl rfl ?_; rintro x rout ⟨rfl, rfl⟩; refine ⟨rfl, ?_⟩; conv => whnf) | (refine CallX.of sCmp1 [(1000001, 24)] rfl ⟨lr, trivial⟩ ⟨rr, trivial⟩ rfl rfl ?_; rintro x rout ⟨rfl, rfl⟩; refine ⟨rfl, ?_⟩; conv => whnf) | (refine LoopX.run hT (C := []) 18 rfl [7, 8, 30, 31, 32] [24] (fun _ _ h => h) (fun _ h => h) ?_; conv => whnf) | (refine br_intro ?_ ?_ <;> intro hb <;> (try simp only [brs] at hb) <;> conv => whnf) | omega | (refine And.intro ?_ ?_; ((try dsimp only); first | omega | (refine szA rfl ?_; omega) | (refine szB rfl ?_; omega) | (unfold inI64; omega) | exact rfl | (simp only [List.toList_toArray, List.length_cons, List.length_nil]; omega) | (simp only [lns] at *; omega) | decide | (unfold inI64; decide)); conv => whnf) | decide | assumption)
 refine .freeze _ 24 39 4 _ _ rfl (.weak _ ?_)
 conv => whnf
 exact ⟨.tup [.d (ents [e1]), .d (.int .i64 0)], _, SV.le_tup ⟨lr, lr, trivial⟩, ⟨rfl, rfl⟩, trivial⟩
theorem dueE_1 : dueE ⟨0, 0, 1, 0⟩ ⟨[110], [65, 65], 0, 0, 7⟩ 0 = 0 := by decide +kernel
theorem dueV_1 : dueV ⟨0, 0, 1, 0⟩ ⟨[110], [65, 65], 0, 0, 7⟩ 0 = 7 := by decide +kernel
theorem dueW_1 : dueW ⟨0, 0, 1, 0⟩ ⟨[110], [65, 65], 0, 0, 7⟩ 0 = .tup [.d (.int .i64 7), .d (.int .i64 0)] := by unfold dueW; rw [if_pos dueE_1, dueV_1]
set_option maxHeartbeats 4000000 in
theorem sReady : FSpec Tryz.prog 30 [] [] (fun x r => x = .d (.bool true) ∧ r = []) := by
 have h35 := s35 3 [1, 1] (by simp)
 rw [splitF_31, if_pos rfl, splitG_31] at h35
 have hd := sDue ⟨0, 0, 1, 0⟩ ⟨[110], [65, 65], 0, 0, 7⟩ 0 ⟨by simp, by simp⟩
 rw [dueW_1] at hd
 refine spec_of hT (C := []) Tryz.func30 rfl Tryz.call30 rfl rfl rfl ?_
 conv => whnf
 repeat' (first | (refine CallX.pure h35 ⟨lr, SV.le_lit (by rfl) (by rfl), trivial⟩ rfl ?_; conv => whnf) | (refine CallX.exact (hd) rfl rfl ?_; rotate_right; conv => whnf) | (refine CallX.pure s27t ⟨SV.le_lit rfl rfl, SV.le_lit rfl rfl, trivial⟩ rfl ?_; conv => whnf) | (refine CallX.pure sMerge1 ⟨SV.le_lit rfl rfl, SV.le_nilS, trivial⟩ rfl ?_; conv => whnf) | (refine br_intro ?_ ?_ <;> intro hb <;> (try simp only [brs] at hb) <;> conv => whnf) | omega | (refine And.intro ?_ ?_; ((try dsimp only); first | omega | (refine szA rfl ?_; omega) | (refine szB rfl ?_; omega) | (unfold inI64; omega) | exact rfl | (simp only [List.toList_toArray, List.length_cons, List.length_nil]; omega) | (simp only [lns] at *; omega) | decide | (unfold inI64; decide)); conv => whnf) | decide | assumption)
 all_goals first
  | (exfalso; omega)
  | (refine .ret _ ?_
     conv => whnf
     refine ⟨[], ⟨?_, rfl⟩, trivial⟩
     conv => lhs; whnf
     all_goals rfl)
theorem plate_no {s : List UInt8} (h : isPlateB s = true) : ((32 : UInt8) ∉ s ∧ (10 : UInt8) ∉ s) ∧ s ≠ [] := by
 rw [plate_eq, Bool.and_eq_true] at h
 obtain ⟨h1, h2⟩ := h
 have h1 := of_decide_eq_true h1
 unfold onlyB at h2
 have hc := List.all_eq_true.1 h2
 refine ⟨⟨fun q => ?_, fun q => ?_⟩, fun q => by rw [q] at h1; simp at h1⟩
 · have := hc _ q; revert this; decide
 · have := hc _ q; revert this; decide
theorem pas_w {p : Pas} : (pasP p).map partS = [Lib.itoa p.tm, p.gate, p.plate, Lib.itoa p.cents] := rfl
theorem pas_ln10 (p : Pas) (h : pasQ p) : (10 : UInt8) ∉ Lib.join ((pasP p).map partS) [32] := by
 rw [pas_w]
 refine join_no (by decide) fun w hw => ?_
 simp only [List.mem_cons, List.not_mem_nil, or_false] at hw
 rcases hw with rfl | rfl | rfl | rfl
 · exact itoa_10 _
 · exact (key_no h.2.1).1.2
 · exact (plate_no h.2.2.1).1.2
 · exact itoa_10 _
theorem pas_tk (p : Pas) (l : List Pas) (h : pasQ p) : tkPas (Lib.join ((pasP p).map partS) [32]) l = (true, l ++ [p]) := by
 obtain ⟨h1, h2, h3, h4⟩ := h
 obtain ⟨⟨k1, _⟩, k2, _⟩ := key_no h2
 obtain ⟨⟨m1, _⟩, m2⟩ := plate_no h3
 obtain ⟨x1, x2⟩ := num_itoa (n := p.tm) (by omega) (by omega)
 obtain ⟨y1, y2⟩ := num_itoa (n := p.cents) (by omega) (by omega)
 have hsp : Lib.split (Lib.join ((pasP p).map partS) [32]) [32] = [Lib.itoa p.tm, p.gate, p.plate, Lib.itoa p.cents] := by
  rw [pas_w]
  refine split_join (by simp) fun w hw => ?_
  simp only [List.mem_cons, List.not_mem_nil, or_false] at hw
  rcases hw with rfl | rfl | rfl | rfl
  · exact itoa_32 _
  · exact k1
  · exact m1
  · exact itoa_32 _
 have hw : wrdsOk [Lib.itoa p.tm, p.gate, p.plate, Lib.itoa p.cents] = true := by
  unfold wrdsOk
  have a1 := itoa_ne p.tm
  have a2 := itoa_ne p.cents
  simp only [Bool.not_eq_true', decide_eq_false_iff_not, List.mem_cons, List.not_mem_nil, or_false, not_or]
  exact ⟨fun q => a1 q.symm, fun q => k2 q.symm, fun q => m2 q.symm, fun q => a2 q.symm⟩
 unfold tkPas
 rw [hsp, hw]
 have e0 : List.getD [Lib.itoa p.tm, p.gate, p.plate, Lib.itoa p.cents] 0 [] = Lib.itoa p.tm := rfl
 have e1 : List.getD [Lib.itoa p.tm, p.gate, p.plate, Lib.itoa p.cents] 1 [] = p.gate := rfl
 have e2 : List.getD [Lib.itoa p.tm, p.gate, p.plate, Lib.itoa p.cents] 2 [] = p.plate := rfl
 have e3 : List.getD [Lib.itoa p.tm, p.gate, p.plate, Lib.itoa p.cents] 3 [] = Lib.itoa p.cents := rfl
 have e6 : List.all [Lib.itoa p.tm, Lib.itoa p.cents] numOk = true := by simp [x2, y2]
 rw [e0, e1, e2, e3, e6, x1, y1]
 simp
theorem pass_back {l : List Pas} {k : Nat} (h : formE l = 0) (hs : pSh l k) (hk : k ≤ 1000) : redF tkPas formE (txF pasP l) = (l, 0, 0) ∧ (txF pasP l).length ≤ 64000 := by
 have h3 := txF_le (pf := pasP) (l := l) (N := 2^6) (fun p hp => by
  obtain ⟨b1, b2, b3, b4, b5⟩ := hs.2 p hp
  have e1 := itoa_len (n := p.tm) (by omega) (by omega)
  have e2 := itoa_len (n := p.cents) (by omega) (by omega)
  unfold lnB
  rw [pas_w]
  simp only [join_cc, Lib.join_one, List.length_append, List.length_cons, List.length_nil]
  omega)
 have h4 : l.length * 2^6 ≤ 1000 * 2^6 := Nat.mul_le_mul_right _ (by have := hs.1; omega)
 exact ⟨redF_back pas_ln10 pas_tk (form_Q h) h (by omega), by omega⟩
theorem take_snocP {l : List Pas} {i : Nat} (hi : i < l.length) : l.take (i + 1) = l.take i ++ [l.getD i pa0] := by
 rw [List.take_add_one]; simp [List.getD_eq_getElem?_getD, hi]
theorem gSh_ok {g : List Gate} (h : gSh g) : gOk g := ⟨by have := h.1; omega, fun x hx => by have := h.2 x hx; omega⟩
theorem pSh_ok2 {l : List Pas} {k : Nat} (h : pSh l k) (hk : k ≤ 2^15) : pOk l :=
 ⟨by have := h.1; omega, fun p hp => by
   obtain ⟨h1, h2, _⟩ := h.2 p hp
   exact ⟨by omega, by omega⟩⟩
theorem z5 (n : Nat) (L : Nat → Int) (hn : n ≤ maxLen) (hL : ∀ i, -2^63 ≤ L i ∧ L i < 2^63) :
 FSpec Tryz.prog 5 [.d (.ro 1 n fun i => [.int .i64 (L i)])] kx (fun x r => x = .d (.bool true) ∧ r = kx) := by
 have hR : Rok n L := ⟨hn, hL⟩
 refine spec_of hT (C := []) Tryz.func5 rfl Tryz.call5 rfl rfl rfl ?_
 conv => whnf
 repeat' (first | (refine CallX.of (s62 n L hR 0 (by omega) (by omega)) [(1000000, 21)] rfl ⟨lr, trivial⟩ ⟨rr, trivial⟩ rfl rfl ?_; rintro x rout ⟨⟨g, hg, rfl⟩, ⟨c, c1, c2, rfl⟩⟩; refine ⟨rfl, ?_⟩; conv => whnf) | (refine CallX.of (s64 n L hR c (by omega) (by omega) 0 8 (by omega) (by omega) (by omega) (by omega)) [(1000000, 21)] rfl ⟨lr, lr, lr, trivial⟩ ⟨rr, trivial⟩ rfl rfl ?_; rintro x rout ⟨⟨u0, hu1, hu2, rfl⟩, ⟨c, c1, c2, rfl⟩⟩; refine ⟨rfl, ?_⟩; conv => whnf) | (refine CallX.of (s63 n L hR c (by omega) (by omega) u0 (by omega) (by omega)) [(1000000, 21)] rfl ⟨lr, lr, trivial⟩ ⟨rr, trivial⟩ rfl rfl ?_; rintro x rout ⟨⟨l, hl, rfl⟩, ⟨c, c1, c2, rfl⟩⟩; refine ⟨rfl, ?_⟩; conv => whnf) | (refine br_intro ?_ ?_ <;> intro hb <;> (try simp only [brs] at hb) <;> conv => whnf) | omega | (refine And.intro ?_ ?_; ((try dsimp only); first | omega | (refine szA rfl ?_; omega) | (refine szB rfl ?_; omega) | (unfold inI64; omega) | exact rfl | (simp only [List.toList_toArray, List.length_cons, List.length_nil]; omega) | (simp only [lns] at *; omega) | decide | (unfold inI64; decide)); conv => whnf) | decide | assumption)
 have hgk := gSh_ok hg
 have hlk := pSh_ok2 hl (by omega)
 have hln := hl.1
 have C29 := s90 g l hgk hlk
 by_cases E : chkE g l = 0
 case neg =>
  generalize chkE g l = e at C29 E
  repeat' (first | (refine CallX.exact (C29) rfl rfl ?_; rotate_right; conv => whnf) | (refine CallX.exact (sReady) rfl rfl ?_; rotate_right; conv => whnf) | (refine br_intro ?_ ?_ <;> intro hb <;> (try simp only [brs] at hb) <;> conv => whnf) | omega | (refine And.intro ?_ ?_; ((try dsimp only); first | omega | (refine szA rfl ?_; omega) | (refine szB rfl ?_; omega) | (unfold inI64; omega) | exact rfl | (simp only [List.toList_toArray, List.length_cons, List.length_nil]; omega) | (simp only [lns] at *; omega) | decide | (unfold inI64; decide)); conv => whnf) | decide | assumption)
  refine .ret _ ?_
  conv => whnf
  refine ⟨kx, ⟨?_, rfl⟩, rr, trivial⟩
  conv => lhs; whnf
 rw [E] at C29
 repeat' (first | (refine CallX.exact (C29) rfl rfl ?_; rotate_right; conv => whnf) | (refine br_intro ?_ ?_ <;> intro hb <;> (try simp only [brs] at hb) <;> conv => whnf) | omega | (refine And.intro ?_ ?_; ((try dsimp only); first | omega | (refine szA rfl ?_; omega) | (refine szB rfl ?_; omega) | (unfold inI64; omega) | exact rfl | (simp only [List.toList_toArray, List.length_cons, List.length_nil]; omega) | (simp only [lns] at *; omega) | decide | (unfold inI64; decide)); conv => whnf) | decide | assumption)
 refine LoopX.rule hT (C := []) (ι := Int × Nat × List Pas × List Pas) (fun (b, i, p, q) => (0 ≤ b ∧ b ≤ 100 + i) ∧ i ≤ l.length ∧ (p.Sublist (l.take i) ∧ q.Sublist (l.take i)) ∧ (p ++ q).Perm (l.take i))
  (fun (b, i, p, q) => mkSt [(3, .ptr 21 0), (4, .d (gates g)), (5, .d (pass l)), (6, .buf 6), (7, .buf 7), (33, .d (pass l)), (34, .d (.int .i64 l.length)), (35, .d (.int .i64 i))] [(21, strm n L b), (1000009, KX), (6, seqB 51 4 paF pa0 p), (7, seqB 51 4 paF pa0 q)])
  (fun (_, i, _, _) => l.length - i) (c, 0, [], []) ⟨⟨?_, ?_⟩, by simp, ⟨by simp, by simp⟩, by simp⟩ ?_ ?_
 · show 0 ≤ c; omega
 · show c ≤ 100 + ((0 : Nat) : Int); omega
 · exact ((Entails.nil 6 6 51 4 (rowF paF pa0 []) rfl rfl (by decide)).trans (Entails.nil 7 7 51 4 (rowF paF pa0 []) rfl rfl (by decide))).trans (by (refine Entails.mk' [(21, 21), (1000009, 1000009), (6, 6), (7, 7)] rfl rfl ?_ ?_ <;> repeat' (first | exact True.intro | exact lr | exact rr | exact SV.le_int (by omega) | exact SV.le_any _ | refine And.intro ?_ ?_)); done)
 rintro ⟨b, i, p, q⟩ ⟨⟨p1, p2⟩, p3, ⟨p4, p5⟩, p6⟩
 have q4 := p4.length_le
 have q5 := p5.length_le
 have q6 := p6.length_eq
 have q7 : (l.take i).length = i := by simp; omega
 rw [List.length_append] at q6
 have e1 : (i : Int).toNat = i := Int.toNat_natCast i
 rcases Nat.lt_or_ge i l.length with hin | hin
 · have ht := take_snocP hin
   conv => whnf
   repeat' (first | (refine CallX.of (s84 n L hR b (by omega) (by omega) 2 (by omega)) [(1000000, 21)] rfl ⟨lr, lr, trivial⟩ ⟨rr, trivial⟩ rfl rfl ?_; rintro x rout ⟨⟨f, rfl⟩, ⟨c3, hc31, hc32, rfl⟩⟩; refine ⟨rfl, ?_⟩; conv => whnf) | (refine br_intro ?_ ?_ <;> intro hb <;> (try simp only [brs] at hb) <;> conv => whnf) | omega | (refine And.intro ?_ ?_; ((try dsimp only); first | omega | (refine szA rfl ?_; omega) | (refine szB rfl ?_; omega) | (unfold inI64; omega) | exact rfl | (simp only [List.toList_toArray, List.length_cons, List.length_nil]; omega) | (simp only [lns] at *; omega) | decide | (unfold inI64; decide)); conv => whnf) | decide | assumption)
   · exact ⟨(c3, i + 1, p ++ [l.getD i pa0], q), ⟨⟨by omega, by omega⟩, by omega, ⟨by rw [ht]; exact p4.append (List.Sublist.refl _), by rw [ht]; exact p5.trans (List.sublist_append_left _ _)⟩, by
      rw [ht, List.append_assoc]
      exact ((List.perm_append_comm (l₁ := [l.getD i pa0]) (l₂ := q)).append_left p).trans (by rw [← List.append_assoc]; exact p6.append_right _)⟩, by show l.length - (i + 1) < l.length - i; omega, (by (refine Entails.mk' [(21, 21), (1000009, 1000009), (6, 44), (7, 7)] rfl rfl ?_ ?_ <;> repeat' (first | exact True.intro | exact lr | exact rr | (exact Res.le_snocF rfl) | exact SV.le_int (by omega) | exact SV.le_any _ | refine And.intro ?_ ?_)); done)⟩
   · exact ⟨(c3, i + 1, p, q ++ [l.getD i pa0]), ⟨⟨by omega, by omega⟩, by omega, ⟨by rw [ht]; exact p4.trans (List.sublist_append_left _ _), by rw [ht]; exact p5.append (List.Sublist.refl _)⟩, by
      rw [ht, ← List.append_assoc]; exact p6.append_right _⟩, by show l.length - (i + 1) < l.length - i; omega, (by (refine Entails.mk' [(21, 21), (1000009, 1000009), (6, 6), (7, 48)] rfl rfl ?_ ?_ <;> repeat' (first | exact True.intro | exact lr | exact rr | (exact Res.le_snocF rfl) | exact SV.le_int (by omega) | exact SV.le_any _ | refine And.intro ?_ ?_)); done)⟩
 · have hie : i = l.length := by omega
   subst hie
   rw [List.take_length] at p4 p5 p6 q6 q7
   obtain ⟨m1, m2⟩ := merge_back E p4 p5 p6
   obtain ⟨m3, m4⟩ := merge_back E p5 p4 (List.perm_append_comm.trans p6)
   have hF : formE l = 0 := by
    unfold chkE at E
    split at E
    · rename_i q; exact absurd E q
    · split at E
      · rename_i q; exact absurd E q
      · rename_i q; simpa using q
   have hpk : pOk p := ⟨by omega, fun x hx => hlk.2 x (p4.subset hx)⟩
   have hqk : pOk q := ⟨by omega, fun x hx => hlk.2 x (p5.subset hx)⟩
   have C1 := s87 g p q hgk hpk hqk (by omega)
   have C2 := s87 g q p hgk hqk hpk (by omega)
   rw [if_pos m1, m1, m2] at C1
   rw [if_pos m3, m3, m4] at C2
   obtain ⟨t1, t2⟩ := pass_back hF hl (by omega)
   have C20 := lz20 l hlk (pSh_tx hl (by omega))
   rw [hF, if_pos rfl] at C20
   have C24 := lz24 (txF pasP l) (by omega)
   rw [t1] at C24
   generalize txF pasP l = T at C20 C24 t2
   have C26 := lz26 l l (by omega)
   rw [decide_eq_true (rfl : l = l)] at C26
   conv => whnf
   repeat' (first | (refine CallX.freeze _ _ _ _ 6 51 4 _ _ rfl rfl ?_; refine CallX.freeze _ _ _ _ 7 51 4 _ _ rfl rfl ?_; refine CallX.pure C1 ⟨lr, lr, lr, trivial⟩ rfl ?_; conv => whnf) | (refine CallX.exact (C2) rfl rfl ?_; rotate_right; conv => whnf) | (refine CallX.kn C20 rfl rfl rfl rfl ?_; conv => whnf) | (refine CallX.kn C24 rfl rfl rfl rfl ?_; conv => whnf) | (refine CallX.exact (C26) rfl rfl ?_; rotate_right; conv => whnf) | (refine CallX.exact (sReady) rfl rfl ?_; rotate_right; conv => whnf) | (refine br_intro ?_ ?_ <;> intro hb <;> (try simp only [brs] at hb) <;> conv => whnf) | omega | (refine And.intro ?_ ?_; ((try dsimp only); first | omega | (refine szA rfl ?_; omega) | (refine szB rfl ?_; omega) | (unfold inI64; omega) | exact rfl | (simp only [List.toList_toArray, List.length_cons, List.length_nil]; omega) | (simp only [lns] at *; omega) | decide | (unfold inI64; decide)); conv => whnf) | decide | assumption)
   refine .ret _ ?_
   conv => whnf
   refine ⟨kx, ⟨?_, rfl⟩, rr, trivial⟩
   conv => lhs; whnf
end Go.Proofs.YtgeakdcbpjmkbaaGreatDoor
