/- ClocksFollow is proved: for every input the law returns true, and its argument reads afterwards as it read before. Conditions: those of the given row alone. -/
import Derived.Test.YtcjfniddeibbhaaGreatDoorCfConTri
import Derived.Test.YtcjfniddeibbhaaGreatDoorCfConOne
set_option linter.unusedVariables false
set_option linter.unusedSimpArgs false
set_option maxRecDepth 20000
namespace Go.Proofs.YtcjfniddeibbhaaGreatDoor
open Go Go.Eng
def oTDRdB192_16 : List (Nat × List Nat) := [(0, []), (1, []), (2, []), (3, []), (4, [3]), (5, [3]), (6, []), (7, []), (8, [3, 4, 5, 6, 7]), (9, []), (10, []), (11, []), (12, [])]
def oTDRdB301_4 : List (Nat × List Nat) := [(0, []), (1, [0]), (2, []), (3, []), (4, []), (5, [4]), (6, [4, 5]), (7, [4]), (8, [4]), (9, [4, 5, 6, 7, 8]), (10, [4, 5, 6, 7, 8, 9]), (11, [4, 5, 6, 7, 8, 9]), (12, [4, 5, 6, 7, 8]), (13, [4, 5, 6, 7, 8]), (14, []), (15, []), (16, [])]
def oTDRdB301_6 : List (Nat × List Nat) := [(0, []), (1, [0]), (2, [0, 1]), (3, [0, 1, 2]), (4, [0, 1, 2]), (5, [0, 1, 2, 3, 4]), (6, [0, 1, 2, 3, 4, 5]), (7, [0, 1, 2, 3, 4, 5]), (8, [0, 1, 2, 3, 4]), (9, [0, 1, 2, 3, 4]), (10, [0, 1, 2, 3, 4, 5, 6, 7, 8, 9]), (11, [0, 1, 2, 3, 4, 5, 6, 7, 8, 9, 10]), (12, [0, 1, 2, 3, 4, 5, 6, 7, 8, 9]), (13, [0, 1, 2, 3, 4, 5, 6, 7, 8, 9]), (14, [2, 3, 4]), (15, [2, 3, 4]), (16, []), (17, [])]
def oTDRdB199_6 : List (Nat × List Nat) := [(0, []), (1, [0]), (2, []), (3, []), (4, [0, 1, 2, 3]), (5, [0, 1, 2, 3, 4]), (6, [0, 1, 2, 3, 4]), (7, [0, 1, 2, 3]), (8, [0, 1, 2, 3]), (9, [])]
def oTDRdB199_11 : List (Nat × List Nat) := [(0, []), (1, [0]), (2, []), (3, []), (4, [0, 1, 2, 3]), (5, [0, 1, 2, 3, 4]), (6, [0, 1, 2, 3, 4]), (7, [0, 1, 2, 3]), (8, [0, 1, 2, 3]), (9, [])]
def esF : List Ent → List DV := fun l => [ents l]
abbrev entss (l : List (List Ent)) : DV := seqD 1 esF [] l
def lensE (l : List (List Ent)) : Nat := (l.map List.length).sum
theorem lensE_take {l : List (List Ent)} {i : Nat} (h : i < l.length) : lensE (l.take (i + 1)) = lensE (l.take i) + (l.getD i []).length := by
 unfold lensE; rw [take_snocD (d := []) h]; simp
theorem lensE_le {l : List (List Ent)} {i : Nat} : lensE (l.take i) ≤ lensE l := by
 have h := congrArg lensE (List.take_append_drop i l)
 have h2 : lensE (l.take i ++ l.drop i) = lensE (l.take i) + lensE (l.drop i) := by unfold lensE; rw [List.map_append, List.sum_append]
 omega
theorem flat_lenE (l : List (List Ent)) : l.flatten.length = lensE l := by
 unfold lensE; rw [List.length_flatten]
theorem sConcatE (l : List (List Ent)) (hl : l.length ≤ 2^20) (hn : lensE l ≤ 2^20) :
 FSpec Tryz.prog 193 [.d (entss l)] [] (fun y r => y = .buf 6 ∧ r = [(6, seqB 217 4 enF en0 l.flatten)]) := by
 refine spec_of hT (C := []) Tryz.func193 rfl Tryz.call193 rfl rfl rfl ?_
 conv => whnf
 refine LoopX.rule hT (C := []) (ι := Nat) (fun i => i ≤ l.length) (fun i => mkSt [(0, .d (entss l)), (3, .d (.int .i64 (lensE (l.take i)))), (9, .d (entss l)), (10, .d (.int .i64 l.length)), (11, .d (.int .i64 i))] []) (fun i => l.length - i) 0 (by omega) (by (refine Entails.mk' [] rfl rfl ?_ ?_ <;> repeat' (first | exact True.intro | exact lr | exact rr | exact SV.le_int (by omega) | exact SV.le_any _ | refine And.intro ?_ ?_)); done) ?_
 rintro i p1
 have e1 : (i : Int).toNat = i := Int.toNat_natCast i
 have hls : lensE (l.take i) ≤ lensE l := lensE_le
 have hls2 : i < l.length → lensE (l.take i) + (l.getD (i : Int).toNat []).length ≤ lensE l := fun h => by rw [e1, ← lensE_take h]; exact lensE_le
 conv => whnf
 repeat' (first | (refine br_intro ?_ ?_ <;> intro hb <;> (try simp only [brs] at hb) <;> conv => whnf) | omega | (refine And.intro ?_ ?_; ((try dsimp only); first | omega | (refine szA rfl ?_; omega) | (refine szB rfl ?_; omega) | (unfold inI64; omega) | exact rfl | (simp only [lns] at *; omega) | decide | (unfold inI64; decide)); conv => whnf) | decide | assumption)
 · refine ⟨i + 1, by omega, by omega, Entails.mk' [] rfl rfl ⟨lr, SV.le_int ?_, lr, lr, lr, trivial⟩ trivial⟩
   rw [lensE_take (by omega), e1]; omega
 have hi : i = l.length := by omega
 subst hi
 rw [List.take_length] at *
 refine CallX.of (sGrowE (lensE l) hn) [(1000001, 24)] rfl ⟨lr, lr, trivial⟩ trivial rfl rfl ?_
 rintro x rout ⟨rfl, rfl⟩
 refine ⟨rfl, ?_⟩
 conv => whnf
 repeat' (first | (refine br_intro ?_ ?_ <;> intro hb <;> (try simp only [brs] at hb) <;> conv => whnf) | omega | (refine And.intro ?_ ?_; ((try dsimp only); first | omega | (refine szA rfl ?_; omega) | (refine szB rfl ?_; omega) | (unfold inI64; omega) | exact rfl | (simp only [lns] at *; omega) | decide | (unfold inI64; decide)); conv => whnf) | decide | assumption)
 refine LoopX.rule hT (C := []) (ι := Nat) (fun i => i ≤ l.length) (fun i => mkSt [(6, .buf 6), (25, .d (entss l)), (26, .d (.int .i64 l.length)), (27, .d (.int .i64 i))] [(6, seqB 217 4 enF en0 (l.take i).flatten)]) (fun i => l.length - i) 0 (by omega) ?_ ?_
 · exact Entails.mk' [(6, 24)] rfl rfl ⟨lr, lr, lr, lr, trivial⟩ ⟨Res.le_buf rfl (fun i hi => absurd hi (by omega)), trivial⟩
 rintro i p1
 have e1 : (i : Int).toNat = i := Int.toNat_natCast i
 have hls : lensE (l.take i) ≤ lensE l := lensE_le
 have hf := flat_lenE (l.take i)
 have hls2 : (i : Int) < l.length → (l.take i).flatten.length + (l.getD (i : Int).toNat []).length ≤ 2^20 := fun h => by rw [e1, hf, ← lensE_take (by omega)]; exact Nat.le_trans lensE_le hn
 conv => whnf
 repeat' (first | (refine br_intro ?_ ?_ <;> intro hb <;> (try simp only [brs] at hb) <;> conv => whnf) | omega | (refine And.intro ?_ ?_; ((try dsimp only); first | omega | (refine szA rfl ?_; omega) | (refine szB rfl ?_; omega) | (unfold inI64; omega) | exact rfl | (simp only [lns] at *; omega) | decide | (unfold inI64; decide)); conv => whnf) | decide | assumption)
 · have e2 : (l.take (i + 1)).flatten = (l.take i).flatten ++ l.getD (i : Int).toNat [] := by rw [take_snocD (d := []) (by omega), e1]; simp
   refine ⟨i + 1, by omega, by omega, Entails.mk' [(6, 33)] rfl rfl ⟨lr, lr, lr, lr, trivial⟩ ⟨?_, trivial⟩⟩
   rw [e2]; exact Res.le_appF
 · have hi : i = l.length := by omega
   subst hi
   refine .ret _ ?_
   conv => whnf
   refine ⟨_, ⟨rfl, rfl⟩, ?_, trivial⟩
   rw [List.take_length]; exact rr
def e1 : Ent := ⟨1, [100], 1, [120]⟩
theorem sPrinted1 : FSpec Tryz.prog 265 [.d (.str [120])] [] (fun x r => x = .d (.bool true) ∧ r = []) := by
 refine spec_of hT (C := []) Tryz.func265 rfl Tryz.call265 rfl rfl rfl ?_
 conv => whnf
 repeat' (first | (refine LoopX.run hT (C := []) 4 rfl [0, 5, 6] [] (fun _ _ h => h) (fun _ h => h) ?_; conv => whnf) | (refine br_intro ?_ ?_ <;> intro hb <;> (try simp only [brs] at hb) <;> conv => whnf) | omega | (refine And.intro ?_ ?_; ((try dsimp only); first | omega | (refine szA rfl ?_; omega) | (refine szB rfl ?_; omega) | (unfold inI64; omega) | exact rfl | (simp only [lns] at *; omega) | decide | (unfold inI64; decide)); conv => whnf) | decide | assumption)
 refine .ret _ ?_
 conv => whnf
 refine ⟨[], ⟨?_, rfl⟩, trivial⟩
 conv => lhs; whnf
set_option maxHeartbeats 4000000 in
theorem sDChk1 : FSpec Tryz.prog 192 [.d (ents [e1])] [] (fun x r => x = .d (.int .i64 0) ∧ r = []) := by
 have h108 := s108 [100] (by simp)
 rw [show isKeyB [100] = true from by decide] at h108
 refine spec_of hT (C := []) Tryz.func192 rfl Tryz.call192 rfl rfl rfl ?_
 conv => whnf
 repeat' (first | (refine LoopX.run hT (C := []) 10 rfl [0, 3, 11, 12, 13] [] (fun _ _ h => h) (fun _ h => h) ?_; conv => whnf) | (refine CallX.exact (s154 1) rfl rfl ?_; rotate_right; conv => whnf) | (refine CallX.exact (h108) rfl rfl ?_; rotate_right; conv => whnf) | (refine CallX.exact (s119 1 1 1000000) rfl rfl ?_; rotate_right; conv => whnf) | (refine CallX.exact (sPrinted1) rfl rfl ?_; rotate_right; conv => whnf) | (refine br_intro ?_ ?_ <;> intro hb <;> (try simp only [brs] at hb) <;> conv => whnf) | (refine RegX.rule (id := 16) hT rfl [] oTDRdB192_16 (by decide +kernel) ?_; conv => whnf) | omega | (refine And.intro ?_ ?_; ((try dsimp only); first | omega | (refine szA rfl ?_; omega) | (refine szB rfl ?_; omega) | (unfold inI64; omega) | exact rfl | (simp only [lns] at *; omega) | decide | (unfold inI64; decide)); conv => whnf) | decide | assumption)
 refine .ret _ ?_
 conv => whnf
 refine ⟨[], ⟨?_, rfl⟩, trivial⟩
 conv => lhs; whnf
theorem sDChk0 : FSpec Tryz.prog 192 [.d (ents [])] [] (fun x r => x = .d (.int .i64 0) ∧ r = []) := by
 refine spec_of hT (C := []) Tryz.func192 rfl Tryz.call192 rfl rfl rfl ?_
 conv => whnf
 repeat' (first | (refine LoopX.run hT (C := []) 10 rfl [0, 3, 11, 12, 13] [] (fun _ _ h => h) (fun _ h => h) ?_; conv => whnf) | (refine br_intro ?_ ?_ <;> intro hb <;> (try simp only [brs] at hb) <;> conv => whnf) | (refine RegX.rule (id := 16) hT rfl [] oTDRdB192_16 (by decide +kernel) ?_; conv => whnf) | omega | (refine And.intro ?_ ?_; ((try dsimp only); first | omega | (refine szA rfl ?_; omega) | (refine szB rfl ?_; omega) | (unfold inI64; omega) | exact rfl | (simp only [lns] at *; omega) | decide | (unfold inI64; decide)); conv => whnf) | decide | assumption)
 refine .ret _ ?_
 conv => whnf
 refine ⟨[], ⟨?_, rfl⟩, trivial⟩
 conv => lhs; whnf
abbrev enB (l : List Ent) : Res := seqB 217 4 enF en0 l
theorem sIns1 : FSpec Tryz.prog 301 [.buf 1000001, .d (.int .i64 0), .d (.int .i64 1), .fn 195 []] [(1000001, enB [e1])] (fun y r => y = .tup [] ∧ r = [(1000001, enB [e1])]) := by
 refine spec_of hT (C := []) Tryz.func301 rfl Tryz.call301 rfl rfl rfl ?_
 conv => whnf
 repeat' (first | (refine LoopX.run hT (C := []) 2 rfl [0, 1, 2, 3, 8] [1000001] (fun _ _ h => h) (fun _ h => h) ?_; conv => whnf) | (refine LoopX.run hT (C := []) 8 rfl [0, 1, 2, 3, 8, 9] [1000001] (fun _ _ h => h) (fun _ h => h) ?_; conv => whnf) | (refine br_intro ?_ ?_ <;> intro hb <;> (try simp only [brs] at hb) <;> conv => whnf) | (refine RegX.rule (id := 4) hT rfl [] oTDRdB301_4 (by decide +kernel) ?_; conv => whnf) | (refine RegX.rule (id := 6) hT rfl [] oTDRdB301_6 (by decide +kernel) ?_; conv => whnf) | omega | (refine And.intro ?_ ?_; ((try dsimp only); first | omega | (refine szA rfl ?_; omega) | (refine szB rfl ?_; omega) | (unfold inI64; omega) | exact rfl | (simp only [lns] at *; omega) | decide | (unfold inI64; decide)); conv => whnf) | decide | assumption)
 refine .ret _ ?_
 conv => whnf
 exact ⟨_, ⟨rfl, rfl⟩, rr, trivial⟩
theorem sStb1 : FSpec Tryz.prog 267 [.buf 1000001, .d (.int .i64 1), .fn 195 []] [(1000001, enB [e1])] (fun y r => y = .tup [] ∧ r = [(1000001, enB [e1])]) := by
 refine spec_of hT (C := []) Tryz.func267 rfl Tryz.call267 rfl rfl rfl ?_
 conv => whnf
 repeat' (first | (refine LoopX.run hT (C := []) 4 rfl [0, 1, 2, 6, 7, 8] [1000001] (fun _ _ h => h) (fun _ h => h) ?_; conv => whnf) | (refine LoopX.run hT (C := []) 14 rfl [0, 1, 2, 6] [1000001] (fun _ _ h => h) (fun _ h => h) ?_; conv => whnf) | (refine LoopX.run hT (C := []) 18 rfl [0, 1, 2, 6, 7, 8] [1000001] (fun _ _ h => h) (fun _ h => h) ?_; conv => whnf) | (refine CallX.of sIns1 [(1000001, 1000001)] rfl ⟨lr, lr, lr, lr, trivial⟩ ⟨rr, trivial⟩ rfl rfl ?_; rintro x rout ⟨rfl, rfl⟩; refine ⟨rfl, ?_⟩; conv => whnf) | (refine br_intro ?_ ?_ <;> intro hb <;> (try simp only [brs] at hb) <;> conv => whnf) | omega | (refine And.intro ?_ ?_; ((try dsimp only); first | omega | (refine szA rfl ?_; omega) | (refine szB rfl ?_; omega) | (unfold inI64; omega) | exact rfl | (simp only [lns] at *; omega) | decide | (unfold inI64; decide)); conv => whnf) | decide | assumption)
 refine .ret _ ?_
 conv => whnf
 exact ⟨_, ⟨rfl, rfl⟩, rr, trivial⟩
theorem sSrt1 : FSpec Tryz.prog 194 [.buf 1000001, .fn 195 []] [(1000001, enB [e1])] (fun y r => y = .tup [] ∧ r = [(1000001, enB [e1])]) := by
 refine spec_of hT (C := []) Tryz.func194 rfl Tryz.call194 rfl rfl rfl ?_
 conv => whnf
 repeat' (first | (refine CallX.of sStb1 [(1000001, 1000001)] rfl ⟨lr, lr, lr, trivial⟩ ⟨rr, trivial⟩ rfl rfl ?_; rintro x rout ⟨rfl, rfl⟩; refine ⟨rfl, ?_⟩; conv => whnf) | (refine br_intro ?_ ?_ <;> intro hb <;> (try simp only [brs] at hb) <;> conv => whnf) | omega | (refine And.intro ?_ ?_; ((try dsimp only); first | omega | (refine szA rfl ?_; omega) | (refine szB rfl ?_; omega) | (unfold inI64; omega) | exact rfl | (simp only [lns] at *; omega) | decide | (unfold inI64; decide)); conv => whnf) | decide | assumption)
 refine .ret _ ?_
 conv => whnf
 exact ⟨_, ⟨rfl, rfl⟩, rr, trivial⟩
theorem sCmp1 : FSpec Tryz.prog 199 [.buf 1000001] [(1000001, enB [e1])] (fun y r => y = .buf 1000001 ∧ r = [(1000001, enB [e1])]) := by
 refine spec_of hT (C := []) Tryz.func199 rfl Tryz.call199 rfl rfl rfl ?_
 conv => whnf
 repeat' (first | (refine br_intro ?_ ?_ <;> intro hb <;> (try simp only [brs] at hb) <;> conv => whnf) | (refine RegX.rule (id := 6) hT rfl [] oTDRdB199_6 (by decide +kernel) ?_; conv => whnf) | (refine RegX.rule (id := 11) hT rfl [] oTDRdB199_11 (by decide +kernel) ?_; conv => whnf) | omega | (refine And.intro ?_ ?_; ((try dsimp only); first | omega | (refine szA rfl ?_; omega) | (refine szB rfl ?_; omega) | (unfold inI64; omega) | exact rfl | (simp only [lns] at *; omega) | decide | (unfold inI64; decide)); conv => whnf) | decide | assumption)
 refine .ret _ ?_
 conv => whnf
 exact ⟨_, ⟨rfl, rfl⟩, rr, trivial⟩
set_option maxHeartbeats 4000000 in
theorem sMerge1 : FSpec Tryz.prog 141 [.d (ents [e1]), .d (ents [])] [] (fun y r => y = .tup [.d (ents [e1]), .d (.int .i64 0)] ∧ r = []) := by
 have h105 := s105 [0, 0] (by simp)
 have hc := sConcatE [[e1], []] (by simp) (by decide)
 refine spec_of hT (C := []) Tryz.func141 rfl Tryz.call141 rfl rfl rfl ?_
 conv => whnf
 repeat' (first | (refine CallX.exact (sDChk1) rfl rfl ?_; rotate_right; conv => whnf) | (refine CallX.exact (sDChk0) rfl rfl ?_; rotate_right; conv => whnf) | (refine CallX.pure h105 ⟨SV.le_lit (by rfl) (by rfl), trivial⟩ rfl ?_; conv => whnf) | (refine br_intro ?_ ?_ <;> intro hb <;> (try simp only [brs] at hb) <;> conv => whnf) | omega | (refine And.intro ?_ ?_; ((try dsimp only); first | omega | (refine szA rfl ?_; omega) | (refine szB rfl ?_; omega) | (unfold inI64; omega) | exact rfl | (simp only [lns] at *; omega) | decide | (unfold inI64; decide)); conv => whnf) | decide | assumption)
 refine CallX.of hc [(6, 24)] rfl ⟨SV.le_lit (by rfl) (by rfl), trivial⟩ trivial rfl rfl ?_
 rintro x rout ⟨rfl, rfl⟩
 refine ⟨rfl, ?_⟩
 conv => whnf
 repeat' (first | (refine CallX.of sSrt1 [(1000001, 24)] rfl ⟨lr, lr, trivial⟩ ⟨rr, trivial⟩ rfl rfl ?_; rintro x rout ⟨rfl, rfl⟩; refine ⟨rfl, ?_⟩; conv => whnf) | (refine CallX.of sCmp1 [(1000001, 24)] rfl ⟨lr, trivial⟩ ⟨rr, trivial⟩ rfl rfl ?_; rintro x rout ⟨rfl, rfl⟩; refine ⟨rfl, ?_⟩; conv => whnf) | (refine LoopX.run hT (C := []) 18 rfl [7, 8, 30, 31, 32] [24] (fun _ _ h => h) (fun _ h => h) ?_; conv => whnf) | (refine br_intro ?_ ?_ <;> intro hb <;> (try simp only [brs] at hb) <;> conv => whnf) | omega | (refine And.intro ?_ ?_; ((try dsimp only); first | omega | (refine szA rfl ?_; omega) | (refine szB rfl ?_; omega) | (unfold inI64; omega) | exact rfl | (simp only [lns] at *; omega) | decide | (unfold inI64; decide)); conv => whnf) | decide | assumption)
 refine .freeze _ 24 217 4 _ _ rfl (.weak _ ?_)
 conv => whnf
 exact ⟨.tup [.d (ents [e1]), .d (.int .i64 0)], _, SV.le_tup ⟨lr, lr, trivial⟩, ⟨rfl, rfl⟩, trivial⟩
theorem dueE_1 : dueE ⟨0, 0, 1, 0⟩ ⟨[110], [65, 65], 0, 0, 7⟩ 0 = 0 := by decide +kernel
theorem dueV_1 : dueV ⟨0, 0, 1, 0⟩ ⟨[110], [65, 65], 0, 0, 7⟩ 0 = 7 := by decide +kernel
theorem dueW_1 : dueW ⟨0, 0, 1, 0⟩ ⟨[110], [65, 65], 0, 0, 7⟩ 0 = .tup [.d (.int .i64 7), .d (.int .i64 0)] := by unfold dueW; rw [if_pos dueE_1, dueV_1]
set_option maxHeartbeats 4000000 in
theorem sReady : FSpec Tryz.prog 58 [] [] (fun x r => x = .d (.bool true) ∧ r = []) := by
 have h35 := s35 3 [1, 1] (by simp)
 rw [splitF_31, if_pos rfl, splitG_31] at h35
 have hd := sDue ⟨0, 0, 1, 0⟩ ⟨[110], [65, 65], 0, 0, 7⟩ 0 ⟨by simp, by simp⟩
 rw [dueW_1] at hd
 refine spec_of hT (C := []) Tryz.func58 rfl Tryz.call58 rfl rfl rfl ?_
 conv => whnf
 repeat' (first | (refine CallX.pure h35 ⟨lr, SV.le_lit (by rfl) (by rfl), trivial⟩ rfl ?_; conv => whnf) | (refine CallX.exact (hd) rfl rfl ?_; rotate_right; conv => whnf) | (refine CallX.pure s27t ⟨SV.le_lit rfl rfl, SV.le_lit rfl rfl, trivial⟩ rfl ?_; conv => whnf) | (refine CallX.pure sMerge1 ⟨SV.le_lit rfl rfl, SV.le_nilS, trivial⟩ rfl ?_; conv => whnf) | (refine br_intro ?_ ?_ <;> intro hb <;> (try simp only [brs] at hb) <;> conv => whnf) | omega | (refine And.intro ?_ ?_; ((try dsimp only); first | omega | (refine szA rfl ?_; omega) | (refine szB rfl ?_; omega) | (unfold inI64; omega) | exact rfl | (simp only [lns] at *; omega) | decide | (unfold inI64; decide)); conv => whnf) | decide | assumption)
 all_goals first
  | (exfalso; omega)
  | (refine .ret _ ?_
     conv => whnf
     refine ⟨[], ⟨?_, rfl⟩, trivial⟩
     conv => lhs; whnf
     all_goals rfl)
def g1K : List UInt8 := [103, 49]
def fpA (T : List (List UInt8)) (d : Int) : List Pas := (List.range T.length).map fun i : Nat => ⟨200 + 40 * (i : Int) + d, g1K, T.getD i [], 1⟩
theorem fpA_len (T : List (List UInt8)) (d : Int) : (fpA T d).length = T.length := by simp [fpA]
theorem fpA_get {T : List (List UInt8)} {d : Int} {i : Nat} (h : i < T.length) : (fpA T d).getD i pa0 = ⟨200 + 40 * (i : Int) + d, g1K, T.getD i [], 1⟩ := by
 simp [fpA, List.getD_eq_getElem?_getD, h]
theorem fpA_snoc (T : List (List UInt8)) (p : List UInt8) (d : Int) : fpA (T ++ [p]) d = fpA T d ++ [⟨200 + 40 * (T.length : Int) + d, g1K, p, 1⟩] := by
 unfold fpA
 rw [List.length_append, List.length_singleton, List.range_succ, List.map_append]
 congr 1
 · refine List.map_congr_left fun i hi => ?_
   rw [List.mem_range] at hi
   simp [List.getD_eq_getElem?_getD, List.getElem?_append_left hi]
 · simp [List.getD_eq_getElem?_getD]
theorem fpA_form {T : List (List UInt8)} {d : Int} (hT : ∀ p ∈ T, p ∈ [[65, 66, 49], [65, 66, 50]]) (hl : T.length ≤ 4) (hd : 0 ≤ d ∧ d ≤ 20) : formE (fpA T d) = 0 := by
 unfold formE
 rw [if_neg (by rw [fpA_len]; omega)]
 refine firstAt_zero fun i hi => ?_
 rw [fpA_len] at hi
 unfold pasE
 have hp : isPlateB (T.getD i []) = true := by
  have := hT (T.getD i []) (getD_mem hi)
  simp only [List.mem_cons, List.not_mem_nil, or_false] at this
  rcases this with q | q <;> rw [q] <;> decide
 have hc : 0 < i → pasCmp ((fpA T d).getD (i - 1) pa0) ((fpA T d).getD i pa0) < 0 := fun h0 => by
  rw [fpA_get hi, fpA_get (by omega)]
  unfold pasCmp
  have h1 : cmpI (200 + 40 * ((i - 1 : Nat) : Int) + d) (200 + 40 * (i : Int) + d) = -1 := by unfold cmpI; rw [if_pos (by omega)]
  show firstE [cmpI (200 + 40 * ((i - 1 : Nat) : Int) + d) (200 + 40 * (i : Int) + d), _, _] < 0
  rw [h1]
  simp [firstE]
 rw [fpA_get hi] at hc ⊢
 have hk : isKeyB g1K = true := by decide
 rw [if_neg (fun z => z ⟨by show (0 : Int) ≤ 200 + 40 * (i : Int) + d; omega, by show 200 + 40 * (i : Int) + d ≤ 5761439; omega⟩), if_neg (by show ¬ isKeyB g1K = false; rw [hk]; simp), if_neg (by show ¬ isPlateB (T.getD i []) = false; rw [hp]; simp), if_neg (fun z => z ⟨(show (0 : Int) ≤ 1 by decide), (show (1 : Int) ≤ 1000000 by decide)⟩), if_neg (fun z => by have := hc z.1; have := z.2; omega)]
theorem fit_shift {O : List UInt8 → List Hld} {h : List Hir} {T : List (List UInt8)} {d c : Int} : ∀ i, i ≤ T.length → fitK O h (fpA T d) g1K i (c + d) = fitK O h (fpA T 0) g1K i c := by
 intro i
 induction i with
 | zero => intro _; rfl
 | succ i ih =>
   intro hi
   rw [fitK, fitK, ih (by omega), fpA_get (by omega), fpA_get (by omega)]
   have : (200 + 40 * (i : Int) + d - (c + d)) = (200 + 40 * (i : Int) + 0 - c) := by omega
   simp only [this]
theorem clk_form {f : Flt} {h : List Hir} {a b : List Pas} {m k : Int} (ha : formE a = 0) (hb : formE b = 0) (hm : 0 ≤ m ∧ m ≤ 1440) (hk : 0 ≤ k ∧ k ≤ 1440) : clkE f h a g1K m = clkE f h b g1K k := by
 unfold clkE
 rw [ha, hb]
 have h1 : (if (!decide (0 ≤ m ∧ m ≤ 1440)) = true then (1 : Int) else 0) = 0 := if_neg (by simp [hm])
 have h2 : (if (!decide (0 ≤ k ∧ k ≤ 1440)) = true then (1 : Int) else 0) = 0 := if_neg (by simp [hk])
 rw [h1, h2]
theorem c49l (f : Flt) (hk : fltOk f) (h : List Hir) (hh : hiOk h) (hhl : h.length ≤ 1024) (hlg : ∀ x ∈ h, x.legs.length ≤ 1024) (l : List Pas) (hl : pOk l) (m : Int) (hm : 0 ≤ m ∧ m ≤ 1440) (hE : formE l = 0) :
 FSpec Tryz.prog 49 [flt f, .d (hirs h), .buf 1000006, .d (.str g1K), .d (.int .i64 m)] [(1000006, seqB 106 4 paF pa0 l)] (fun y r => (∃ b n, (if clkE f h l g1K m ≠ 0 then b = 0 ∧ n = 0 else bestIn (fitK (hend f.plt).out h l g1K l.length) (-m) m b ∧ n = fitK (hend f.plt).out h l g1K l.length b) ∧ y = .tup [.d (.int .i64 b), .d (.int .i64 n), .d (.int .i64 (clkE f h l g1K m))]) ∧ r = [(1000006, seqB 106 4 paF pa0 l)]) := by
 have h1 := FSpec.lend (args := [flt f, .d (hirs h), .buf 1000006, .d (.str g1K), .d (.int .i64 m)]) 1000006 106 4 l.length (rowF paF pa0 l) (c49 f hk h hh hhl hlg l hl g1K (by decide) m (by omega)) rfl (fun c r q => nomatch q) rfl
  (fun x r h => by obtain ⟨⟨b, n, _, rfl⟩, rfl⟩ := h; exact ⟨rfl, fun c q e => (nomatch e), rfl⟩)
 exact h1.mono (fun x r h => by obtain ⟨r0, ⟨q, rfl⟩, rfl⟩ := h; exact ⟨q, rfl⟩)
set_option maxHeartbeats 8000000 in
theorem z8 (n : Nat) (L : Nat → Int) (hn : n ≤ maxLen) (hl : ∀ i, -2^63 ≤ L i ∧ L i < 2^63) : FSpec Tryz.prog 8 [.d (.ro 1 n fun i => [.int .i64 (L i)])] [] (fun x r => x = .d (.bool true) ∧ r = []) := by
 have hL : Rok n L := ⟨hn, hl⟩
 refine spec_of hT (C := []) Tryz.func8 rfl Tryz.call8 rfl rfl rfl ?_
 conv => whnf
 repeat' (first | (refine CallX.of (sRFlt n L hL _ ?_ ?_) [(1000000, 22), (10, 10), (20, 20), (30, 30)] rfl ⟨lr, trivial⟩ ⟨rr, trivial⟩ rfl rfl ?_; rotate_right; rintro xx rout ⟨st, cs, vs, ps, bb, ⟨k1, k2, k3, k4⟩, ⟨b1, b2⟩, rfl, rfl⟩; refine ⟨rfl, ?_⟩; conv => whnf) | (refine CallX.of (s64 n L hL _ ?_ ?_ 1 3 ?_ ?_ ?_ ?_) [(1000000, 22)] rfl ⟨lr, lr, lr, trivial⟩ ⟨rr, trivial⟩ rfl rfl ?_; rotate_right; rintro x rout ⟨⟨m, hm0, hm1, rfl⟩, ⟨c, c1, c2, rfl⟩⟩; refine ⟨rfl, ?_⟩; conv => whnf) | (refine CallX.of (sHirs n L hL _ ?_ ?_ m ?_ ?_) [(1000000, 22)] rfl ⟨lr, lr, trivial⟩ ⟨rr, trivial⟩ rfl rfl ?_; rotate_right; rintro xx rout ⟨⟨h, hl5, rfl⟩, ⟨c, c5, c6, rfl⟩⟩; refine ⟨rfl, ?_⟩; conv => whnf) | (refine CallX.of (s64 n L hL _ ?_ ?_ 1 20 ?_ ?_ ?_ ?_) [(1000000, 22)] rfl ⟨lr, lr, lr, trivial⟩ ⟨rr, trivial⟩ rfl rfl ?_; rotate_right; rintro x rout ⟨⟨sh, hs0, hs1, rfl⟩, ⟨c, c1, c2, rfl⟩⟩; refine ⟨rfl, ?_⟩; conv => whnf) | (refine CallX.of (s64 n L hL _ ?_ ?_ 1 4 ?_ ?_ ?_ ?_) [(1000000, 22)] rfl ⟨lr, lr, lr, trivial⟩ ⟨rr, trivial⟩ rfl rfl ?_; rotate_right; rintro x rout ⟨⟨m2, hm3, hm4, rfl⟩, ⟨c, c1, c2, rfl⟩⟩; refine ⟨rfl, ?_⟩; conv => whnf) | (refine br_intro ?_ ?_ <;> intro hb <;> (try simp only [brs] at hb) <;> conv => whnf) | omega | (refine And.intro ?_ ?_; ((try dsimp only); first | omega | (refine szA rfl ?_; omega) | (refine szB rfl ?_; omega) | (unfold inI64; omega) | exact rfl | (simp only [lns] at *; omega) | decide | (unfold inI64; decide)); conv => whnf) | decide | assumption)
 have hok : hiOk h := ⟨by have := hl5.1; omega, fun y hy => hiB_K (hl5.2 y hy) (by omega)⟩
 have hhl : h.length ≤ 1024 := by have := hl5.1; omega
 have hlg : ∀ y ∈ h, y.legs.length ≤ 1024 := fun y hy => by have := (hl5.2 y hy).2.2.1; omega
 obtain ⟨f, hf⟩ : ∃ f : Flt, f = ⟨st, cs, vs, ps⟩ := ⟨_, rfl⟩
 have hfk : fltOk f := by
  rw [hf]
  exact (⟨allK_le k1 (by omega), ⟨by show cs.length ≤ 4; have := k2.1; omega, k2.2⟩, allK_le k3 (by omega), allK_le k4 (by omega)⟩ : fltK _).ok
 refine LoopX.freeze 10 121 15 _ _ rfl ?_
 refine LoopX.freeze 20 124 2 _ _ rfl ?_
 refine LoopX.freeze 30 126 3 _ _ rfl ?_
 refine LoopX.rule hT (C := []) (ι := Int × List (List UInt8)) (fun (b, T) => (0 ≤ b ∧ b ≤ 4000 + T.length) ∧ (T.length : Int) ≤ m2 ∧ ∀ p ∈ T, p ∈ [[65, 66, 49], [65, 66, 50]])
  (fun (b, T) => mkSt [(3, .ptr 22 0), (4, .ptr 4 0), (5, .d (hirs h)), (6, .buf 6), (7, .buf 7), (8, .d (.int .i64 sh)), (32, .d (.int .i64 m2)), (33, .d (.int .i64 T.length))] [(22, strm n L b), (4, fltC f), (6, seqB 106 4 paF pa0 (fpA T 0)), (7, seqB 106 4 paF pa0 (fpA T sh))])
  (fun (_, T) => (m2 - T.length).toNat) (c, []) ⟨⟨by omega, by show c ≤ 4000 + (0 : Nat); omega⟩, by show ((0 : Nat) : Int) ≤ m2; omega, fun p hp => by cases hp⟩ ?_ ?_
 · refine (Entails.froCell 4 10 15 _ 0 _ rfl rfl rfl).trans ?_
   refine (Entails.froCell 4 20 2 _ 2 _ rfl rfl rfl).trans ?_
   refine (Entails.froCell 4 30 3 _ 3 _ rfl rfl rfl).trans ?_
   refine (Entails.nil 6 6 106 4 (rowF paF pa0 []) rfl rfl (by decide)).trans ?_
   refine (Entails.nil 7 7 106 4 (rowF paF pa0 []) rfl rfl (by decide)).trans ?_
   exact Entails.mk' [(22, 22), (4, 4), (6, 6), (7, 7)] rfl rfl ⟨lr, lr, lr, lr, lr, lr, lr, lr, trivial⟩ ⟨rr, by rw [hf]; exact Res.le_cellsL ⟨lr, lr, lr, lr, trivial⟩, rr, rr, trivial⟩
 rintro ⟨b, T⟩ ⟨⟨d1, d2⟩, d3, d4⟩
 have d1 : 0 ≤ b := d1
 have d2 : b ≤ 4000 + T.length := d2
 have d3 : (T.length : Int) ≤ m2 := d3
 have d4 : ∀ p ∈ T, p ∈ [[65, 66, 49], [65, 66, 50]] := d4
 have hla := fpA_len T 0
 have hlb := fpA_len T sh
 rcases Int.lt_or_le (T.length : Int) m2 with ht | ht
 · conv => whnf
   repeat' (first | (refine CallX.of (s15 n L hL _ ?_ ?_ [[65, 66, 49], [65, 66, 50]] ?_ ?_) [(1000000, 22)] rfl ⟨lr, SV.le_lit rfl rfl, trivial⟩ ⟨rr, trivial⟩ rfl rfl ?_; rotate_right; rintro x rout ⟨⟨pl, hpl, rfl⟩, ⟨c, c1, c2, rfl⟩⟩; refine ⟨rfl, ?_⟩; conv => whnf) | (refine br_intro ?_ ?_ <;> intro hb <;> (try simp only [brs] at hb) <;> conv => whnf) | omega | (refine And.intro ?_ ?_; ((try dsimp only); first | omega | (refine szA rfl ?_; omega) | (refine szB rfl ?_; omega) | (unfold inI64; omega) | exact rfl | (simp only [lns] at *; omega) | decide | (unfold inI64; decide)); conv => whnf) | decide | assumption)
   all_goals try (exfalso; omega)
   have hsa : fpA (T ++ [pl]) 0 = fpA T 0 ++ [⟨200 + 40 * (T.length : Int), g1K, pl, 1⟩] := by rw [fpA_snoc, show (200 + 40 * (T.length : Int) + 0) = 200 + 40 * (T.length : Int) by omega]
   refine ⟨(c, T ++ [pl]), ⟨⟨by omega, by rw [List.length_append, List.length_singleton]; push_cast; omega⟩, by rw [List.length_append, List.length_singleton]; push_cast; omega, fun p hp => ?_⟩, by show (m2 - ((T ++ [pl]).length : Int)).toNat < (m2 - (T.length : Int)).toNat; rw [List.length_append, List.length_singleton]; push_cast; omega,
    Entails.mk' [(22, 22), (4, 4), (6, 46), (7, 55)] rfl rfl ⟨lr, lr, lr, lr, lr, lr, lr, SV.le_int (by rw [List.length_append, List.length_singleton]; push_cast; omega), trivial⟩ ⟨rr, rr, by rw [hsa]; exact Res.le_snocF (by rfl), by rw [fpA_snoc]; exact Res.le_snocF (by rfl), trivial⟩⟩
   rcases List.mem_append.1 hp with q | q
   · exact d4 p q
   · rw [List.mem_singleton] at q; subst q; exact hpl
 · have hTl : T.length ≤ 4 := by omega
   have hA := fpA_form (d := 0) d4 hTl (by omega)
   have hB := fpA_form (d := sh) d4 hTl (by omega)
   have hpo : ∀ d, pOk (fpA T d) := fun d => ⟨by rw [fpA_len]; omega, fun p hp => by
    obtain ⟨i, hi, rfl⟩ := mem_getD (d := pa0) hp
    rw [fpA_len] at hi
    rw [fpA_get hi]
    refine ⟨by show g1K.length ≤ 2^40; decide, ?_⟩
    have := d4 (T.getD i []) (getD_mem hi)
    simp only [List.mem_cons, List.not_mem_nil, or_false] at this
    show (T.getD i []).length ≤ 2^40
    rcases this with q | q <;> rw [q] <;> decide⟩
   have CA := c49l f hfk h hok hhl hlg (fpA T 0) (hpo 0) 60 (by omega) hA
   have CB := c49l f hfk h hok hhl hlg (fpA T sh) (hpo sh) 120 (by omega) hB
   have CC := c49l f hfk h hok hhl hlg (fpA T 0) (hpo 0) 0 (by omega) hA
   rw [clk_form (b := fpA T 0) (k := 60) hB hA (by omega) (by omega)] at CB
   rw [clk_form (b := fpA T 0) (k := 60) hA hA (by omega) (by omega)] at CC
   generalize clkE f h (fpA T 0) g1K 60 = e at CA CB CC
   have hfs : ∀ c, fitK (hend f.plt).out h (fpA T sh) g1K (fpA T sh).length (c + sh) = fitK (hend f.plt).out h (fpA T 0) g1K (fpA T 0).length c := fun c => by rw [fpA_len, fpA_len]; exact fit_shift T.length (Nat.le_refl _)
   by_cases E : e = 0
   · subst E
     conv => whnf
     repeat' (first | (refine CallX.of CA [(1000006, 6)] rfl ⟨lr, lr, lr, lr, lr, trivial⟩ ⟨rr, trivial⟩ rfl rfl ?_; rintro y rout ⟨⟨ub, un, uh, rfl⟩, rfl⟩; rw [if_neg (by simp)] at uh; obtain ⟨u1, rfl⟩ := uh; refine ⟨rfl, ?_⟩; conv => whnf) | (refine CallX.of CB [(1000006, 7)] rfl ⟨lr, lr, lr, lr, lr, trivial⟩ ⟨rr, trivial⟩ rfl rfl ?_; rintro y rout ⟨⟨vb, vn, vh, rfl⟩, rfl⟩; rw [if_neg (by simp)] at vh; obtain ⟨v1, rfl⟩ := vh; refine ⟨rfl, ?_⟩; conv => whnf) | (refine CallX.of CC [(1000006, 6)] rfl ⟨lr, lr, lr, lr, lr, trivial⟩ ⟨rr, trivial⟩ rfl rfl ?_; rintro y rout ⟨⟨wb, wn, wh, rfl⟩, rfl⟩; rw [if_neg (by simp)] at wh; obtain ⟨w1, rfl⟩ := wh; refine ⟨rfl, ?_⟩; conv => whnf) | (refine CallX.exact (sReady) rfl rfl ?_; rotate_right; conv => whnf) | (refine br_intro ?_ ?_ <;> intro hb <;> (try simp only [brs] at hb) <;> conv => whnf) | omega | (refine And.intro ?_ ?_; ((try dsimp only); first | omega | (refine szA rfl ?_; omega) | (refine szB rfl ?_; omega) | (unfold inI64; omega) | exact rfl | (simp only [lns] at *; omega) | decide | (unfold inI64; decide)); conv => whnf) | decide | assumption)
     all_goals
      have q0 := u1.1
      have q3 := v1.1
      have q4 := w1.1
      have q1 := v1.2 (ub + sh) (by omega) (by omega)
      rw [hfs] at q1
      have q2 := u1.2 wb (by omega) (by omega)
      first
       | (exfalso; omega)
       | (refine .ret _ ?_
          conv => whnf
          refine ⟨[], ⟨?_, rfl⟩, trivial⟩
          conv => lhs; whnf)
   · conv => whnf
     repeat' (first | (refine CallX.of CA [(1000006, 6)] rfl ⟨lr, lr, lr, lr, lr, trivial⟩ ⟨rr, trivial⟩ rfl rfl ?_; rintro y rout ⟨⟨ub, un, uh, rfl⟩, rfl⟩; rw [if_pos E] at uh; obtain ⟨rfl, rfl⟩ := uh; refine ⟨rfl, ?_⟩; conv => whnf) | (refine CallX.of CB [(1000006, 7)] rfl ⟨lr, lr, lr, lr, lr, trivial⟩ ⟨rr, trivial⟩ rfl rfl ?_; rintro y rout ⟨⟨vb, vn, vh, rfl⟩, rfl⟩; rw [if_pos E] at vh; obtain ⟨rfl, rfl⟩ := vh; refine ⟨rfl, ?_⟩; conv => whnf) | (refine CallX.exact (sReady) rfl rfl ?_; rotate_right; conv => whnf) | (refine br_intro ?_ ?_ <;> intro hb <;> (try simp only [brs] at hb) <;> conv => whnf) | omega | (refine And.intro ?_ ?_; ((try dsimp only); first | omega | (refine szA rfl ?_; omega) | (refine szB rfl ?_; omega) | (unfold inI64; omega) | exact rfl | (simp only [lns] at *; omega) | decide | (unfold inI64; decide)); conv => whnf) | decide | assumption)
     refine .ret _ ?_
     conv => whnf
     refine ⟨[], ⟨?_, rfl⟩, trivial⟩
     conv => lhs; whnf
end Go.Proofs.YtcjfniddeibbhaaGreatDoor
