/- FollowedStay is proved: for every input the law returns true, and its argument reads afterwards as it read before. Conditions: those of the given row alone. -/
import Derived.Test.YtophabkpfpbadaaGreatDoorFsConOne
import Derived.Lib.ItoaNum
import Derived.Lib.AtoiAll
import Derived.Lib.Strings
import Derived.Test.YtophabkpfpbadaaGreatDoorFsConTwo
set_option linter.unusedVariables false
set_option linter.unusedSimpArgs false
set_option maxRecDepth 20000
namespace Go.Proofs.YtophabkpfpbadaaGreatDoor
open Go Go.Eng
def isAtoi (s : List UInt8) : Bool := match Lib.atoiAll s with | .ok n => Lib.itoa n == s | _ => false
def numN (s : List UInt8) : Int := match Lib.atoiAll s with | .ok n => n | .range => Lib.atoiSat s | _ => 0
def numOk (s : List UInt8) : Bool := isAtoi s && decide ((Lib.trimPrefix s [45]).length ≤ 9)
def digs : List UInt8 := [48, 49, 50, 51, 52, 53, 54, 55, 56, 57]
theorem digit_mem (u : Nat) (h : u < 10) : digs.contains (UInt8.ofNat (48 + u)) = true := by
 have : ∀ u, u < 10 → digs.contains (UInt8.ofNat (48 + u)) = true := by decide
 exact this u h
theorem dec_digits : ∀ (n u : Nat), u < n → Lib.decDigits u ≠ [] ∧ ∀ b ∈ Lib.decDigits u, digs.contains b = true := by
 intro n
 induction n with
 | zero => intro u h; omega
 | succ n ih =>
   intro u hu; rw [Lib.decDigits]; split
   · rename_i h; exact ⟨by simp, fun b hb => by rw [List.mem_singleton] at hb; subst hb; exact digit_mem u h⟩
   · rename_i h; refine ⟨by simp, fun b hb => ?_⟩; rcases List.mem_append.1 hb with q | q
     · exact (ih (u / 10) (by omega)).2 b q
     · rw [List.mem_singleton] at q; subst q; exact digit_mem _ (Nat.mod_lt _ (by decide))
theorem trim_itoa (n : Int) : Lib.trimPrefix (Lib.itoa n) [45] = Lib.decDigits n.natAbs := by
 unfold Lib.itoa; split
 · rename_i h; simp [Lib.trimPrefix, Lib.hasPrefix]
 · rename_i h; have hn : n.toNat = n.natAbs := by omega
   rw [hn]; obtain ⟨h1, h2⟩ := dec_digits (n.natAbs + 1) n.natAbs (by omega)
   cases hd : Lib.decDigits n.natAbs with
   | nil => exact absurd hd h1
   | cons b r =>
     have hb := h2 b (by rw [hd]; exact List.mem_cons_self); have hne : b ≠ 45 := fun e => by subst e; revert hb; decide
     have hne' : ¬ 45 = b := fun e => hne e.symm
     simp [Lib.trimPrefix, Lib.hasPrefix, hne']
theorem dec_bd : ∀ (k u : Nat), (Lib.decDigits u).length ≤ k → u < 10 ^ k := by
 intro k
 induction k with
 | zero =>
   intro u h; have := (dec_digits (u + 1) u (by omega)).1
   exact absurd (List.eq_nil_of_length_eq_zero (by omega)) this
 | succ k ih =>
   intro u h; rw [Lib.decDigits] at h; split at h
   · rename_i hu; have : 1 ≤ 10 ^ k := Nat.one_le_pow _ _ (by decide); rw [Nat.pow_succ]; omega
   · have := ih (u / 10) (by simp at h; omega); rw [Nat.pow_succ]; omega
theorem numN_bd {s : List UInt8} (h : numOk s = true) : -10 ^ 9 ≤ numN s ∧ numN s ≤ 10 ^ 9 := by
 unfold numOk isAtoi at h; rw [Bool.and_eq_true] at h; unfold numN; split at h
 · rename_i n hn; have he : Lib.itoa n = s := by simpa using h.1
   have h9 := of_decide_eq_true h.2; rw [← he, trim_itoa] at h9; have := dec_bd 9 _ h9; rw [hn]; show -10 ^ 9 ≤ n ∧ n ≤ 10 ^ 9; omega
 · cases h.1
theorem lxF_pos {p : Nat → Bool} {n k : Nat} (hk : k < n) (h : p k = true) : 0 ≤ ixF p n := by
 have hb := ixF_bd (p := p) (n := n); rcases Int.lt_or_le (ixF p n) 0 with q | q
 · exfalso
   have hn : ∀ m, ixF p m < 0 → ∀ j, j < m → p j = false := by
    intro m
    induction m with
    | zero => intro _ j hj; omega
    | succ m ih =>
      intro hm j hj; rw [ixF] at hm; split at hm
      · rename_i hz
        by_cases hjm : j = m
        · subst hjm; split at hm
          · omega
          · rename_i hf; simpa using hf
        · exact ih (by omega) j (by omega)
      · rename_i hz; have := (ixF_bd (p := p) (n := m)).1; omega
   rw [hn n q k hk] at h; cases h
 · exact q
theorem ix_mem (l : List (List UInt8)) (v : List UInt8) : decide (0 ≤ ixF (fun i => l.getD i [] == v) l.length) = decide (v ∈ l) := by
 rw [decide_eq_decide]; constructor
 · intro h; have := ixF_bd (p := fun i => l.getD i [] == v) (n := l.length); rw [← eq_of_beq (this.2.2 h)]; exact getD_mem (by omega)
 · intro h; obtain ⟨j, hj, rfl⟩ := mem_getD (d := []) h; exact lxF_pos hj (by simp)
theorem lz143 (l : List (List UInt8)) (hl : l.length ≤ 2^40) (v : List UInt8) : FSpec Tryz.prog 205 [.d (strs l), .d (.str v)] [] (fun x r => x = .d (.int .i64 (ixF (fun i => l.getD i [] == v) l.length)) ∧ r = []) := by
 refine spec_of hT (C := []) Tryz.func205 rfl Tryz.call205 rfl rfl rfl ?_; conv => whnf
 refine LoopX.rule hT (C := []) (ι := Nat) (fun i => i ≤ l.length ∧ ∀ j, j < i → (l.getD j [] == v) = false) (fun i => mkSt [(0, .d (strs l)), (1, .d (.str v)), (7, .d (.int .i64 l.length)), (8, .d (.int .i64 i))] []) (fun i => l.length - i) 0 ⟨by simp, fun j hj => absurd hj (Nat.not_lt_zero j)⟩ (by exact eAx []) ?_; rintro i ⟨p1, p2⟩; have e1 : (i : Int).toNat = i := Int.toNat_natCast i; conv => whnf
 repeat' (first | ((first | (refine br_intro ?_ ?_ <;> intro hb <;> try simp only [brs] at hb) | omega | refine sAx ?_ | decide | assumption) <;> conv => whnf))
 · refine .ret _ ?_; conv => whnf
   refine ⟨[], ⟨?_, rfl⟩, trivial⟩; conv => lhs; whnf
   congr 2
   exact (ixF_hit (by omega) p2 (by rw [← hb]; simp)).symm
 · exact ⟨i + 1, ⟨by omega, all_step p2 (beq_eq_false_iff_ne.2 fun q => hb q.symm)⟩, by omega, (by exact eAx [])⟩
 · refine .ret _ ?_; conv => whnf
   refine ⟨[], ⟨?_, rfl⟩, trivial⟩; conv => lhs; whnf
   congr 2
   have : i = l.length := by omega
   subst this; exact (ixF_none p2).symm
theorem lz78 (l : List (List UInt8)) (hl : l.length ≤ 2^40) (v : List UInt8) : FSpec Tryz.prog 171 [.d (strs l), .d (.str v)] [] (fun x r => x = .d (.bool (decide (v ∈ l))) ∧ r = []) := by
 refine spec_of hT (C := []) Tryz.func171 rfl Tryz.call171 rfl rfl rfl ?_; conv => whnf
 repeat' (first | (refine CallX.exact (lz143 l hl v) rfl rfl ?_; rotate_right; conv => whnf) | ((first | (refine br_intro ?_ ?_ <;> intro hb <;> try simp only [brs] at hb) | omega | refine sAx ?_ | decide | assumption) <;> conv => whnf))
 refine .ret _ ?_; conv => whnf
 refine ⟨[], ⟨?_, rfl⟩, trivial⟩; conv => lhs; whnf
 rw [← ix_mem]
theorem atoi_bd {s : List UInt8} {v : Int} (h : Lib.atoiAll s = .ok v) : -9223372036854775808 ≤ v ∧ v ≤ 9223372036854775807 := by
 unfold Lib.atoiAll at h; split at h
 · cases h
 · simp only at h; split at h
   · cases h
   · cases h
   · split at h
     · cases h
     · split at h
       · cases h
       · cases h; rename_i h1 h2; split
         · rename_i hq; simp [hq] at h2; omega
         · rename_i hq; simp [hq] at h1; omega
theorem lz129 (s : List UInt8) (hs : s.length ≤ 2^40) : FSpec Tryz.prog 187 [.d (.str s)] kx (fun x r => x = .tup [.d (.int .i64 (numN s)), .d (.bool (numOk s))] ∧ r = kx) := by
 refine spec_of hT (C := []) Tryz.func187 rfl Tryz.call187 rfl rfl rfl ?_; conv => whnf
 refine oAx (zAtoi s hs) [(1000009, 1000009)] ?_; rintro x rout ⟨hx, rfl⟩; unfold atoiX at hx
 cases hA : Lib.atoiAll s with
 | ok v =>
   rw [hA] at hx; simp only at hx; subst hx; obtain ⟨hv0, hv1⟩ := atoi_bd hA; refine ⟨rfl, ?_⟩; conv => whnf
   repeat' (first | (refine CallX.exact (zTrimP s [45]) rfl rfl ?_; rotate_right; conv => whnf) | ((first | refine CallX.kn (zItoa v hv0 hv1) rfl rfl rfl rfl ?_ | (refine br_intro ?_ ?_ <;> intro hb <;> try simp only [brs] at hb) | omega | refine sAx ?_ | decide | assumption) <;> conv => whnf))
   · refine .ret _ ?_; conv => whnf
     refine ⟨kx, ⟨congrArg SV.tup ?_, rfl⟩, rr, trivial⟩; repeat' (refine cons_eq ?_ ?_)
     all_goals (conv => lhs; whnf)
     all_goals try (with_reducible rfl)
     · unfold numN; rw [hA]
     · unfold numOk isAtoi; rw [hA]; simp [hb]; omega
   · refine .ret _ ?_; conv => whnf
     refine ⟨kx, ⟨congrArg SV.tup ?_, rfl⟩, rr, trivial⟩; repeat' (refine cons_eq ?_ ?_)
     all_goals (conv => lhs; whnf)
     all_goals try (with_reducible rfl)
     · unfold numN; rw [hA]
     · unfold numOk isAtoi; rw [hA]; simp [hb]
 | range =>
   rw [hA] at hx; simp only at hx; obtain ⟨t, p, rfl⟩ := hx; refine ⟨rfl, ?_⟩; conv => whnf
   repeat' (first | ((first | (refine br_intro ?_ ?_ <;> intro hb <;> try simp only [brs] at hb) | omega | refine sAx ?_ | decide | assumption) <;> conv => whnf))
   refine .ret _ ?_; conv => whnf
   refine ⟨kx, ⟨congrArg SV.tup ?_, rfl⟩, rr, trivial⟩; repeat' (refine cons_eq ?_ ?_)
   all_goals (conv => lhs; whnf)
   all_goals try (with_reducible rfl)
   · unfold numN; rw [hA]
   · unfold numOk isAtoi; rw [hA]; rfl
 | _ =>
   rw [hA] at hx; simp only at hx; obtain ⟨t, p, rfl⟩ := hx; refine ⟨rfl, ?_⟩; conv => whnf
   repeat' (first | ((first | (refine br_intro ?_ ?_ <;> intro hb <;> try simp only [brs] at hb) | omega | refine sAx ?_ | decide | assumption) <;> conv => whnf))
   refine .ret _ ?_; conv => whnf
   refine ⟨kx, ⟨congrArg SV.tup ?_, rfl⟩, rr, trivial⟩; repeat' (refine cons_eq ?_ ?_)
   all_goals (conv => lhs; whnf)
   all_goals try (with_reducible rfl)
   · unfold numN; rw [hA]
   · unfold numOk isAtoi; rw [hA]; rfl
theorem split_len (s p : List UInt8) (hp : p ≠ []) : (Lib.split s p).length ≤ s.length + 1 := by
 have key : ∀ (n : Nat) (s : List UInt8), s.length ≤ n → ∀ k, (Lib.splitK p 0 k s).length ≤ s.length + 1 := by
  intro n
  induction n with
  | zero =>
    intro s hs k
    cases k with
    | zero => simp [Lib.splitK]
    | succ k =>
      unfold Lib.splitK; split
      · simp
      · rename_i h; have := Lib.drop_shorter hp h
        omega
  | succ n ih =>
    intro s hs k
    cases k with
    | zero => simp [Lib.splitK]
    | succ k =>
      unfold Lib.splitK; split
      · simp
      · rename_i h; have h1 := Lib.drop_shorter hp h; have h2 := ih (s.drop ((Lib.index s p).toNat + p.length)) (by omega) k; simp only [List.length_cons]; omega
 exact key s.length s (Nat.le_refl _) _
theorem split_mem {s p : List UInt8} {x : List UInt8} (h : x ∈ Lib.split s p) : x.length ≤ s.length := by
 have key : ∀ (k : Nat) (s : List UInt8), ∀ x ∈ Lib.splitK p 0 k s, x.length ≤ s.length := by
  intro k
  induction k with
  | zero => intro s x hx; simp [Lib.splitK] at hx; subst hx; exact Nat.le_refl _
  | succ k ih =>
    intro s x hx; unfold Lib.splitK at hx; split at hx
    · simp at hx; subst hx; exact Nat.le_refl _
    · rcases List.mem_cons.1 hx with q | q
      · subst q; simp; omega
      · have := ih _ x q; simp at this; omega
 exact key _ s x h
def wrdsOk (l : List (List UInt8)) : Bool := !decide ([] ∈ l)
theorem splitK_ne {sep : List UInt8} {save : Nat} : ∀ {k : Nat} {s : List UInt8}, Lib.splitK sep save k s ≠ []
 | 0, s => by simp [Lib.splitK]
 | k + 1, s => by unfold Lib.splitK; split <;> simp
theorem wWords (s : List UInt8) (hs : s.length ≤ 2^30) : FSpec Tryz.prog 186 [.d (.str s)] kx (fun x r => x = .tup [.d (strs (Lib.split s [32])), .d (.bool (wrdsOk (Lib.split s [32])))] ∧ r = kx) := by
 have hl := split_len s [32] (by decide); refine spec_of hT (C := []) Tryz.func186 rfl Tryz.call186 rfl rfl rfl ?_; conv => whnf
 repeat' (first | (refine CallX.kn (zSplit s [32] (by omega) (by decide)) rfl rfl rfl rfl ?_; conv => whnf) | (refine CallX.exact (lz78 (Lib.split s [32]) (by omega) []) rfl rfl ?_; rotate_right; conv => whnf) | ((first | (refine br_intro ?_ ?_ <;> intro hb <;> try simp only [brs] at hb) | omega | refine sAx ?_ | decide | assumption) <;> conv => whnf))
 refine .ret _ ?_; conv => whnf
 refine ⟨kx, ⟨congrArg SV.tup ?_, rfl⟩, rr, trivial⟩; repeat' (refine cons_eq ?_ ?_)
 all_goals (conv => lhs; whnf)
 all_goals try (with_reducible rfl)
 all_goals rfl
structure Tol where
 word : List UInt8
 texts : List (List UInt8)
 nums : List Int
def tolF (t : Tol) : List DV := [.str t.word, strs t.texts, ints t.nums]
def tol0 : Tol := ⟨[], [], []⟩
def txF (f : List UInt8) (w : List (List UInt8)) : Nat → List (List UInt8)
 | 0 => []
 | i + 1 => if f.getD i 0 = 119 then txF f w i ++ [w.getD i []] else txF f w i
def nmF (f : List UInt8) (w : List (List UInt8)) : Nat → List Int
 | 0 => []
 | i + 1 => if f.getD i 0 = 119 then nmF f w i else nmF f w i ++ [numN (w.getD i [])]
theorem txF_len (f : List UInt8) (w : List (List UInt8)) : ∀ i, (txF f w i).length ≤ i
 | 0 => by simp [txF]
 | i + 1 => by
   have := txF_len f w i; unfold txF; split
   · rw [List.length_append, List.length_singleton]; omega
   · omega
theorem nmF_len (f : List UInt8) (w : List (List UInt8)) : ∀ i, (nmF f w i).length ≤ i
 | 0 => by simp [nmF]
 | i + 1 => by
   have := nmF_len f w i; unfold nmF; split
   · omega
   · rw [List.length_append, List.length_singleton]; omega
def telN (f : List UInt8) (w : List (List UInt8)) : Bool := decide (∀ j, j < w.length → (f.getD j 0 = 119 ∨ numOk (w.getD j []) = true))
def telW (w : List (List UInt8)) : List UInt8 := w.getD 0 []
def telOk (fm : Mp (List UInt8)) (s : List UInt8) : Bool :=
 wrdsOk (Lib.split s [32]) && (fm.has (telW (Lib.split s [32])) && (decide ((Lib.split s [32]).length = 1 + (fm.val (telW (Lib.split s [32]))).length) && telN (fm.val (telW (Lib.split s [32]))) ((Lib.split s [32]).drop 1)))
def telT (fm : Mp (List UInt8)) (s : List UInt8) : Tol :=
 ⟨telW (Lib.split s [32]), txF (fm.val (telW (Lib.split s [32]))) ((Lib.split s [32]).drop 1) ((Lib.split s [32]).drop 1).length, nmF (fm.val (telW (Lib.split s [32]))) ((Lib.split s [32]).drop 1) ((Lib.split s [32]).drop 1).length⟩
set_option maxHeartbeats 4000000 in
theorem wTell (fm : Mp (List UInt8)) (hf : ∀ k, (fm.val k).length ≤ 2^20) (s : List UInt8) (hs : s.length ≤ 2^20) :
 FSpec Tryz.prog 148 [.d (.str s), .mp 1000001] [(1000001, mpS false [.str []] sF1 fm), (1000009, KX)] (fun y r => y = .tup [.agg ((tolF (if telOk fm s then telT fm s else tol0)).map .d), .d (.bool (telOk fm s))] ∧ r = [(1000001, mpS false [.str []] sF1 fm), (1000009, KX)]) := by
 obtain ⟨W, hW⟩ : ∃ W, W = Lib.split s [32] := ⟨_, rfl⟩; have c1 := wWords s (by omega); have hl := split_len s [32] (by decide); have hn : Lib.split s [32] ≠ [] := splitK_ne; have hmem : ∀ x ∈ Lib.split s [32], x.length ≤ s.length := fun x hx => split_mem hx
 have hn1 : 1 ≤ W.length := by rw [hW]; exact List.length_pos_iff.2 hn
 unfold telOk telT; rw [← hW] at c1 hl hmem ⊢; refine spec_of hT (C := []) Tryz.func148 rfl Tryz.call148 rfl rfl rfl ?_; conv => whnf
 have hfw := hf (telW W); repeat' (first | ((first | refine CallX.kn c1 rfl rfl rfl rfl ?_ | refine And.intro (rfl : zrow _ = some [.str []]) ?_ | (refine And.intro (by have := hf (keyE [DV.str (W.getD (Int.toNat 0) [])]); unfold inI64; omega) ?_) | (refine br_intro ?_ ?_ <;> intro hb <;> try simp only [brs] at hb) | omega | refine sAx ?_ | decide | assumption) <;> conv => whnf))
 all_goals first
  | (have hE : (wrdsOk W && (fm.has (telW W) && (decide (W.length = 1 + (fm.val (telW W)).length) && telN (fm.val (telW W)) (W.drop 1)))) = false := by
      first
       | (rw [show wrdsOk W = false from hb]; rfl)
       | (rw [show fm.has (telW W) = false from hb]; simp)
       | (have q : ¬ (W.length : Int) = 1 + ((fm.val (telW W)).length : Nat) := hb
          rw [show decide (W.length = 1 + (fm.val (telW W)).length) = false from decide_eq_false (by omega)]; simp)
     rw [hE]; refine .weak _ ?_; conv => whnf
     exact ⟨.tup [.agg ((tolF tol0).map .d), .d (.bool false)], _, SV.le_tup ⟨SV.le_agg ⟨lr, SV.le_nilS, SV.le_nilS, trivial⟩, lr, trivial⟩, ⟨rfl, rfl⟩, rr, rr, trivial⟩)
  | skip
 trace_state
 · obtain ⟨f, hfe⟩ : ∃ f, f = fm.val (telW W) := ⟨_, rfl⟩; rw [← hfe] at hfw; obtain ⟨W1, hW1⟩ : ∃ W1, W1 = W.drop 1 := ⟨_, rfl⟩; have hl1 : W1.length = W.length - 1 := by rw [hW1, List.length_drop]
   have hlf : W1.length = f.length := by
    have : (W.length : Int) = 1 + ((fm.val (telW W)).length : Nat) := hb; rw [← hfe] at this; omega
   have hm1 : ∀ j, (W1.getD j []).length ≤ 2^40 := fun j => by
    by_cases hj : j < W1.length
    · have h1 : W1.getD j [] ∈ W := by
       have h2 : W1.getD j [] ∈ W1 := by rw [List.getD_eq_getElem?_getD, List.getElem?_eq_getElem hj]; exact List.getElem_mem hj
       rw [hW1] at h2 ⊢; exact List.mem_of_mem_drop h2
      have := hmem _ h1; omega
    · rw [List.getD_eq_getElem?_getD, List.getElem?_eq_none (by omega)]; simp
   refine LoopX.rule hT (C := []) (ι := Nat) (fun i => i ≤ W1.length ∧ ∀ j, j < i → (f.getD j 0 = 119 ∨ numOk (W1.getD j []) = true))
    (fun i => mkSt [(4, .ptr 4 0), (8, .d (.str f)), (10, .ptr 10 0), (48, .d (strs W1)), (49, .d (.int .i64 W1.length)), (50, .d (.int .i64 i))] [(1000001, mpS false [.str []] sF1 fm), (1000009, KX), (4, .cells 260 [.d (.str []), .d .nilsl, .d .nilsl]), (10, .cells 260 [.d (.str (telW W)), .buf 20, .buf 21]), (20, seqB 9 1 sF [] (txF f W1 i)), (21, seqB 3 1 iF 0 (nmF f W1 i))])
    (fun i => W1.length - i) 0 ⟨by omega, fun j hj => by omega⟩ ?_ ?_
   · subst hW1 hfe; refine Entails.trans (Entails.nilCell 10 20 9 1 1 (rowF sF [] []) rfl rfl rfl (by decide) rfl) ?_; refine Entails.trans (Entails.nilCell 10 21 3 1 2 (rowF iF 0 []) rfl rfl rfl (by decide) rfl) ?_; refine (Entails.mk' [(1000001, 1000001), (1000009, 1000009), (4, 4), (10, 10), (20, 20), (21, 21)] rfl rfl ⟨lr, lr, lr, SV.le_drop (by rw [List.length_drop]; omega), SV.le_int (by rw [List.length_drop]; omega), lr, trivial⟩ ⟨rr, rr, rr, rr, rr, rr, trivial⟩)
   rintro i ⟨p1, p2⟩; have e1 : (i : Int).toNat = i := Int.toNat_natCast i; have htl := txF_len f W1 i; have hnl := nmF_len f W1 i; conv => whnf
   repeat' (first | ((first | refine CallX.kn (lz129 (W1.getD (i : Int).toNat []) (hm1 _)) rfl rfl rfl rfl ?_ | (refine And.intro (by show (_ + 1) * 16 ≤ _; omega) ?_) | (refine And.intro (by show (_ + 1) * 8 ≤ _; omega) ?_) | (refine br_intro ?_ ?_ <;> intro hb <;> try simp only [brs] at hb) | omega | refine sAx ?_ | decide | assumption) <;> conv => whnf))
   all_goals first
    | (have hc : f.getD i 0 = 119 := UInt8.toNat_inj.1 (by have : ((f.getD i 0).toNat : Int) = 119 := hb; show _ = 119; omega)
       have hT2 : txF f W1 (i + 1) = txF f W1 i ++ [W1.getD i []] := by rw [txF, if_pos hc]
       have hN2 : nmF f W1 (i + 1) = nmF f W1 i := by rw [nmF, if_pos hc]
       refine ⟨i + 1, ⟨by omega, fun j hj => ?_⟩, by omega, Entails.mk' [(1000001, 1000001), (1000009, 1000009), (4, 4), (10, 10), (20, 63), (21, 21)] rfl rfl ⟨lr, lr, lr, lr, lr, lr, trivial⟩ ⟨rr, rr, rr, rr, (by show Res.le _ (seqB 9 1 sF [] (txF f W1 (i + 1))); rw [hT2]; exact Res.le_snocF (x := W1.getD i []) rfl), (by show Res.le _ (seqB 3 1 iF 0 (nmF f W1 (i + 1))); rw [hN2]; exact rr), trivial⟩⟩
       by_cases q : j < i
       · exact p2 j q
       · exact .inl (by rw [show j = i by omega]; exact hc))
    | (have hb0 : ¬ ((f.getD i 0).toNat : Int) = 119 := by assumption
       have hc : ¬ f.getD i 0 = 119 := fun q => hb0 (by rw [q]; rfl)
       have hk : numOk (W1.getD i []) = true := hb; have hT2 : txF f W1 (i + 1) = txF f W1 i := by rw [txF, if_neg hc]
       have hN2 : nmF f W1 (i + 1) = nmF f W1 i ++ [numN (W1.getD i [])] := by rw [nmF, if_neg hc]
       refine ⟨i + 1, ⟨by omega, fun j hj => ?_⟩, by omega, Entails.mk' [(1000001, 1000001), (1000009, 1000009), (4, 4), (10, 10), (20, 20), (21, 77)] rfl rfl ⟨lr, lr, lr, lr, lr, lr, trivial⟩ ⟨rr, rr, rr, rr, (by show Res.le _ (seqB 9 1 sF [] (txF f W1 (i + 1))); rw [hT2]; exact rr), (by show Res.le _ (seqB 3 1 iF 0 (nmF f W1 (i + 1))); rw [hN2]; exact Res.le_snocF (x := numN (W1.getD i [])) rfl), trivial⟩⟩
       by_cases q : j < i
       · exact p2 j q
       · exact .inr (by rw [show j = i by omega]; exact hk))
    | (have hb0 : ¬ ((f.getD i 0).toNat : Int) = 119 := by assumption
       have hc : ¬ f.getD i 0 = 119 := fun q => hb0 (by rw [q]; rfl)
       have hk : numOk (W1.getD i []) = false := hb
       have hE : (wrdsOk W && (fm.has (telW W) && (decide (W.length = 1 + (fm.val (telW W)).length) && telN (fm.val (telW W)) (W.drop 1)))) = false := by
        rw [← hfe, ← hW1, show telN f W1 = false from decide_eq_false (fun q => by
         rcases q i (by omega) with r | r
         · exact hc r
         · rw [hk] at r; cases r)]
        simp
       rw [hE]; refine .weak _ ?_; conv => whnf
       exact ⟨.tup [.agg ((tolF tol0).map .d), .d (.bool false)], _, SV.le_tup ⟨SV.le_agg ⟨lr, SV.le_nilS, SV.le_nilS, trivial⟩, lr, trivial⟩, ⟨rfl, rfl⟩, rr, rr, trivial⟩)
    | (have hE : (wrdsOk W && (fm.has (telW W) && (decide (W.length = 1 + (fm.val (telW W)).length) && telN (fm.val (telW W)) (W.drop 1)))) = true := by
        have h1 : wrdsOk W = true := by assumption
        have h2 : fm.has (telW W) = true := by assumption
        rw [h1, h2, ← hfe, ← hW1, show telN f W1 = true from decide_eq_true (fun j hj => p2 j (by omega)), show decide (W.length = 1 + f.length) = true from decide_eq_true (by omega)]; rfl
       rw [hE, if_pos rfl, ← hfe, ← hW1]; have hi : i = W1.length := by omega
       subst hi; refine .freeze _ 20 9 1 _ _ rfl ?_; refine .freeze _ 21 3 1 _ _ rfl ?_; refine .ent _ _ (Entails.cellFro 4 20 1 rfl rfl rfl) ?_; refine .ent _ _ (Entails.cellFro 4 21 2 rfl rfl rfl) ?_; refine .ret _ ?_; conv => whnf
       exact ⟨_, ⟨rfl, rfl⟩, rr, rr, trivial⟩)
def formsM : Mp (List UInt8) := ((((((((((((((Mp.nil []).put [101, 110, 116, 101, 114] [119, 119]).put [115, 104, 111, 112] [119, 119]).put [100, 111, 110, 101] [119, 119]).put [99, 111, 109, 101] [119, 119]).put [103, 111, 110, 101] [119, 119]).put [108, 101, 97, 118, 101] [119, 119, 119]).put [98, 111, 111, 107] [119, 119, 110, 110, 110]).put [99, 97, 110, 99, 101, 108] [119]).put [115, 116, 97, 114, 116] [119, 119, 110, 119, 119, 110, 110]).put [115, 119, 97, 112] [119, 119, 110, 110, 119, 110, 110]).put [101, 120, 116, 101, 110, 100] [119, 110]).put [99, 108, 111, 115, 101] [119, 119, 110, 110]).put [112, 97, 121] [119, 110])
def kindsM : Mp Int := (((((((Mp.nil 0).put [101, 110, 116, 101, 114] 1).put [115, 104, 111, 112] 4).put [100, 111, 110, 101] 5).put [99, 111, 109, 101] 7).put [103, 111, 110, 101] 8).put [108, 101, 97, 118, 101] 6)
theorem cond_sF (s k v b : List UInt8) : (bif decide (s = k) then [DV.str v] else [DV.str b]) = [DV.str (if s = k then v else b)] := by by_cases h : s = k <;> simp [h]
theorem cond_iF (s k : List UInt8) (v b : Int) : (bif decide (s = k) then [DV.int .i64 v] else [DV.int .i64 b]) = [DV.int .i64 (if s = k then v else b)] := by by_cases h : s = k <;> simp [h]
theorem cstD_s (v : ByteArray) : cstD (.string v) = .str v.data.toList := rfl
theorem cstD_i (v : Int) : cstD (.int .i64 v) = .int .i64 v := rfl
set_option maxHeartbeats 4000000 in
theorem wForms : FSpec Tryz.prog 149 [] [] (fun y r => y = .mp 1 ∧ r = [(1, mpS false [.str []] sF1 formsM)]) := by
 refine spec_of hT (C := []) Tryz.func149 rfl Tryz.call149 rfl rfl rfl ?_; conv => whnf
 repeat' (first | ((first | (refine br_intro ?_ ?_ <;> intro hb <;> try simp only [brs] at hb) | omega | refine sAx ?_ | decide | assumption) <;> conv => whnf))
 refine .ret _ ?_; conv => whnf
 refine ⟨_, ⟨rfl, rfl⟩, Res.le_map (fun K hK => ?_), trivial⟩; obtain ⟨s, rfl⟩ := wk_str1 hK; simp only [cstD_s, keyEq_s, cond_sF]; exact ⟨rfl, rfl⟩
set_option maxHeartbeats 4000000 in
theorem wKinds : FSpec Tryz.prog 150 [] [] (fun y r => y = .mp 1 ∧ r = [(1, mpS false [.int .i64 0] iF1 kindsM)]) := by
 refine spec_of hT (C := []) Tryz.func150 rfl Tryz.call150 rfl rfl rfl ?_; conv => whnf
 repeat' (first | ((first | (refine br_intro ?_ ?_ <;> intro hb <;> try simp only [brs] at hb) | omega | refine sAx ?_ | decide | assumption) <;> conv => whnf))
 refine .ret _ ?_; conv => whnf
 refine ⟨_, ⟨rfl, rfl⟩, Res.le_map (fun K hK => ?_), trivial⟩; obtain ⟨s, rfl⟩ := wk_str1 hK; simp only [cstD_s, cstD_i, keyEq_s, cond_iF]; exact ⟨rfl, rfl⟩
abbrev lgBf (l : List Leg) : Res := seqB 198 9 lgF lg0 l
def opnH (h : Hir) : Bool := decide ((h.legs.getD ((h.legs.length : Int) - 1).toNat lg0).inn.tm = -1)
def goE (h : Hir) : Int := if hirE h ≠ 0 then hirE h else if opnH h then 0 else 11
def exH (h : Hir) (ri : Rdg) (v : List UInt8) (ro : Rdg) : Hir := ⟨h.key, h.drv, h.frm, h.to, setIn h.legs ri ++ [⟨v, ro, rgN⟩]⟩
def clH (h : Hir) (ri : Rdg) : Hir := ⟨h.key, h.drv, h.frm, h.to, setIn h.legs ri⟩
def xtH (h : Hir) (to : Int) : Hir := ⟨h.key, h.drv, h.frm, to, h.legs⟩
def mdE (h h' : Hir) : Int := if goE h ≠ 0 then goE h else hirE h'
def mdH (h h' : Hir) : Hir := if mdE h h' = 0 then h' else hi0
def hiL (h : Hir) : Prop := h.key.length ≤ 2^40 ∧ h.drv.length ≤ 2^40 ∧ h.legs.length ≤ 2^19 ∧ ∀ x ∈ h.legs, lgK x
theorem hiL.k {h : Hir} (q : hiL h) : hiK h := ⟨q.1, q.2.1, by have := q.2.2.1; omega, q.2.2.2⟩
theorem setIn_K {l : List Leg} {r : Rdg} (h : ∀ x ∈ l, lgK x) (hr : r.st.length ≤ 2^40) : ∀ x ∈ setIn l r, lgK x := fun x hx => by
 unfold setIn at hx
 by_cases hi : ((l.length : Int) - 1).toNat < l.length
 · rcases List.mem_or_eq_of_mem_set hx with q | q
   · exact h x q
   · have h1 : l.getD ((l.length : Int) - 1).toNat lg0 ∈ l := by
      rw [List.getD_eq_getElem?_getD, List.getElem?_eq_getElem hi]; exact List.getElem_mem hi
     subst q; exact ⟨(h _ h1).1, (h _ h1).2.1, hr⟩
 · rw [List.set_eq_of_length_le (by omega)] at hx; exact h x hx
theorem SV.le_put_snocF {α : Type} {f : α → List DV} {d x y : α} {l : List α} {k j off : Nat} {ds : List DV} {h : Nat → List DV} (hj : ∀ z, l[j]? = some z → setAtD (f z) off ds = f x) (hx : h 0 = f y) :
 SV.le (.d (.ro k (l.length + 1) (appGet l.length (fun i => bif Nat.beq i j then setAtD (rowF f d l i) off ds else rowF f d l i) h))) (.d (seqD k f d (l.set j x ++ [y]))) := by
 refine SV.le_ro (by simp) (fun i hi => ?_); have h1 := rows_putF (f := f) (d := d) (l := l) (x := x) (j := j) (off := off) (ds := ds) hj; rcases Nat.lt_or_ge i l.length with q | q
 · rw [appGet_lt q, h1 i q]; simp only [rowF]; rw [getD_app_lt (by simpa using q)]
 · have : i = l.length := by omega
   subst this; rw [appGet_ge (Nat.le_refl _), Nat.sub_self, hx]; simp only [rowF]; congr 1
   rw [List.getD_eq_getElem?_getD, List.getElem?_append_right (by simp)]; simp
theorem wMade (h : Hir) (hk : hiK h) : FSpec Tryz.prog 222 [.agg ((hiF h).map .d)] [] (fun y r => y = .tup [.agg ((hiF (if hirE h = 0 then h else hi0)).map .d), .d (.int .i64 (hirE h))] ∧ r = []) := by
 have h183 := z210 h hk
 by_cases q : hirE h = 0
 · rw [if_pos q]; rw [q] at h183 ⊢; refine spec_of hT (C := []) Tryz.func222 rfl Tryz.call222 rfl rfl rfl ?_; conv => whnf
   repeat' (first | (refine CallX.exact (h183) rfl rfl ?_; rotate_right; conv => whnf) | ((first | (refine br_intro ?_ ?_ <;> intro hb <;> try simp only [brs] at hb) | omega | refine sAx ?_ | decide | assumption) <;> conv => whnf))
   refine .ret _ ?_; conv => whnf
   exact ⟨[], ⟨rfl, rfl⟩, trivial⟩
 · rw [if_neg q]; generalize hirE h = E at h183 q; refine spec_of hT (C := []) Tryz.func222 rfl Tryz.call222 rfl rfl rfl ?_; conv => whnf
   repeat' (first | (refine CallX.exact (h183) rfl rfl ?_; rotate_right; conv => whnf) | ((first | (refine br_intro ?_ ?_ <;> intro hb <;> try simp only [brs] at hb) | omega | refine sAx ?_ | decide | assumption) <;> conv => whnf))
   all_goals first
    | (exfalso; omega)
    | (refine .weak _ ?_
       conv => whnf
       exact ⟨.tup [.agg ((hiF hi0).map .d), .d (.int .i64 E)], [], SV.le_tup ⟨SV.le_agg ⟨lr, lr, lr, lr, SV.le_nilS, trivial⟩, lr, trivial⟩, ⟨rfl, rfl⟩, trivial⟩)
theorem wOpen (h : Hir) (hl : h.legs.length ≤ 2^40) (h1 : 1 ≤ h.legs.length) : FSpec Tryz.prog 241 [.agg ((hiF h).map .d)] [] (fun y r => y = .d (.bool (opnH h)) ∧ r = []) := by
 refine spec_of hT (C := []) Tryz.func241 rfl Tryz.call241 rfl rfl rfl ?_; conv => whnf
 repeat' (first | ((first | (refine br_intro ?_ ?_ <;> intro hb <;> try simp only [brs] at hb) | omega | refine sAx ?_ | decide | assumption) <;> conv => whnf))
 refine .ret _ ?_; conv => whnf
 refine ⟨[], ⟨?_, rfl⟩, trivial⟩; conv => lhs; whnf
 rfl
theorem wClL (l : List Leg) (h1 : 1 ≤ l.length) (hl : l.length ≤ 2^20) : FSpec Tryz.prog 242 [.d (legs l)] [] (fun y r => y = .buf 7 ∧ r = [(7, lgBf l)]) := by
 refine spec_of hT (C := [5]) Tryz.func242 rfl Tryz.call242 rfl rfl rfl ?_; conv => whnf
 rintro b hbn; conv => whnf
 repeat' (first | ((first | (refine br_intro ?_ ?_ <;> intro hb <;> try simp only [brs] at hb) | omega | refine sAx ?_ | decide | assumption) <;> conv => whnf))
 · exfalso; have := hbn (by assumption); omega
 · refine .ret _ ?_; conv => whnf
   refine ⟨_, ⟨rfl, rfl⟩, Res.le_buf (by simp) (fun i hi => ?_), trivial⟩; rw [appGet_ge (by omega)]; rfl
theorem hirE_len {h : Hir} (q : hirE h = 0) : 1 ≤ h.legs.length := by
 unfold hirE at q; grind
theorem wGoE (h : Hir) (hk : hiL h) (hE : goE h ≠ 0) : FSpec Tryz.prog 223 [.agg ((hiF h).map .d)] [] (fun y r => y = .tup [.agg ((hiF hi0).map .d), .d (.int .i64 (goE h))] ∧ r = []) := by
 have c1 := z210 h hk.k
 by_cases q : hirE h = 0
 · have c2 := wOpen h (by have := hk.2.2.1; omega) (hirE_len q)
   have e1 : opnH h = false := by
    cases e : opnH h with
    | false => rfl
    | true => exfalso; apply hE; unfold goE; rw [if_neg (fun c => c q), e, if_pos rfl]
   have e2 : goE h = 11 := by unfold goE; rw [if_neg (fun c => c q), e1]; rfl
   rw [e2]; rw [q] at c1; rw [e1] at c2; refine spec_of hT (C := []) Tryz.func223 rfl Tryz.call223 rfl rfl rfl ?_; conv => whnf
   repeat' (first | (refine CallX.exact (c1) rfl rfl ?_; rotate_right; conv => whnf) | (refine CallX.exact (c2) rfl rfl ?_; rotate_right; conv => whnf) | ((first | (refine br_intro ?_ ?_ <;> intro hb <;> try simp only [brs] at hb) | omega | refine sAx ?_ | decide | assumption) <;> conv => whnf))
   all_goals
    refine .weak _ ?_; conv => whnf
    exact ⟨.tup [.agg ((hiF hi0).map .d), .d (.int .i64 11)], [], SV.le_tup ⟨SV.le_agg ⟨lr, lr, lr, lr, SV.le_nilS, trivial⟩, lr, trivial⟩, ⟨rfl, rfl⟩, trivial⟩
 · have e2 : goE h = hirE h := by unfold goE; rw [if_pos q]
   rw [e2]; generalize hirE h = E at c1 q; refine spec_of hT (C := []) Tryz.func223 rfl Tryz.call223 rfl rfl rfl ?_; conv => whnf
   repeat' (first | (refine CallX.exact (c1) rfl rfl ?_; rotate_right; conv => whnf) | ((first | (refine br_intro ?_ ?_ <;> intro hb <;> try simp only [brs] at hb) | omega | refine sAx ?_ | decide | assumption) <;> conv => whnf))
   all_goals first
    | (exfalso; omega)
    | (refine .weak _ ?_
       conv => whnf
       exact ⟨.tup [.agg ((hiF hi0).map .d), .d (.int .i64 E)], [], SV.le_tup ⟨SV.le_agg ⟨lr, lr, lr, lr, SV.le_nilS, trivial⟩, lr, trivial⟩, ⟨rfl, rfl⟩, trivial⟩)
abbrev hAg (h : Hir) (d : Nat) : SV := .agg [.d (.str h.key), .d (.str h.drv), .d (.int .i64 h.frm), .d (.int .i64 h.to), .buf d]
theorem goE_zero {h : Hir} (hE : goE h = 0) : hirE h = 0 ∧ opnH h = true := by
 unfold goE at hE; split at hE
 · rename_i c; exact absurd hE c
 · rename_i c; split at hE
   · rename_i d; exact ⟨by simpa using c, d⟩
   · exact absurd hE (by decide)
theorem wGoK (h : Hir) (hk : hiL h) (hE : goE h = 0) : FSpec Tryz.prog 223 [.agg ((hiF h).map .d)] [] (fun y r => y = .tup [hAg h 7, .d (.int .i64 0)] ∧ r = [(7, lgBf h.legs)]) := by
 obtain ⟨q, e1⟩ := goE_zero hE; have c1 := z210 h hk.k; have hl := hk.2.2.1; have c2 := wOpen h (by omega) (hirE_len q); rw [q] at c1; rw [e1] at c2; refine spec_of hT (C := []) Tryz.func223 rfl Tryz.call223 rfl rfl rfl ?_; conv => whnf
 repeat' (first | (refine CallX.exact (c1) rfl rfl ?_; rotate_right; conv => whnf) | (refine CallX.exact (c2) rfl rfl ?_; rotate_right; conv => whnf) | ((first | (refine oAx (wClL h.legs (hirE_len q) (by omega)) [(7, 7)] ?_; rintro x rout ⟨rfl, rfl⟩; refine ⟨rfl, ?_⟩) | (refine br_intro ?_ ?_ <;> intro hb <;> try simp only [brs] at hb) | omega | refine sAx ?_ | decide | assumption) <;> conv => whnf))
 refine .ret _ ?_; conv => whnf
 exact ⟨_, ⟨rfl, rfl⟩, rr, trivial⟩
set_option maxHeartbeats 1000000 in
theorem wExt (h : Hir) (hk : hiL h) (to : Int) : FSpec Tryz.prog 192 [.agg ((hiF h).map .d), .d (.int .i64 to)] [] (fun y r => y = .tup [.agg ((hiF (mdH h (xtH h to))).map .d), .d (.int .i64 (mdE h (xtH h to)))] ∧ r = []) := by
 have hH : hiL (xtH h to) := hk; generalize hHe : xtH h to = H at hH ⊢
 by_cases q : goE h ≠ 0
 · have c1 := wGoE h hk q; have e1 : mdE h H = goE h := by unfold mdE; rw [if_pos q]
   have e2 : mdH h H = hi0 := by unfold mdH; rw [e1, if_neg q]
   rw [e1, e2]; generalize goE h = E at c1 q; refine spec_of hT (C := []) Tryz.func192 rfl Tryz.call192 rfl rfl rfl ?_; conv => whnf
   repeat' (first | (refine CallX.exact (c1) rfl rfl ?_; rotate_right; conv => whnf) | ((first | (refine br_intro ?_ ?_ <;> intro hb <;> try simp only [brs] at hb) | omega | refine sAx ?_ | decide | assumption) <;> conv => whnf))
   all_goals first
    | (exfalso; omega)
    | (refine .weak _ ?_
       conv => whnf
       exact ⟨.tup [.agg ((hiF hi0).map .d), .d (.int .i64 E)], [], SV.le_tup ⟨SV.le_agg ⟨lr, lr, lr, lr, SV.le_nilS, trivial⟩, lr, trivial⟩, ⟨rfl, rfl⟩, trivial⟩)
 · have q : goE h = 0 := by omega
   have e1 : mdE h H = hirE H := by unfold mdE; rw [if_neg (fun c => c q)]
   have e2 : mdH h H = if hirE H = 0 then H else hi0 := by unfold mdH; rw [e1]
   rw [e1, e2]; have c1 := wGoK h hk q; have c2 := wMade H hH.k; generalize hirE H = E at c2; generalize hR : (if E = 0 then H else hi0) = R at c2; have hl := hk.2.2.1; have hn := hirE_len (goE_zero q).1; subst hHe; refine spec_of hT (C := []) Tryz.func192 rfl Tryz.call192 rfl rfl rfl ?_; conv => whnf
   repeat' (first | ((first | (refine oAx c1 [(7, 40)] ?_; rintro x rout ⟨rfl, rfl⟩; refine ⟨rfl, ?_⟩) | (refine CallX.freeze _ _ _ _ 40 198 9 _ _ rfl rfl ?_; refine CallX.pure c2 ⟨SV.le_agg ⟨lr, lr, lr, lr, lr, trivial⟩, trivial⟩ rfl ?_) | (refine br_intro ?_ ?_ <;> intro hb <;> try simp only [brs] at hb) | omega | refine sAx ?_ | decide | assumption) <;> conv => whnf))
   all_goals first
    | (exfalso; omega)
    | (refine .ret _ ?_
       conv => whnf
       exact ⟨[], ⟨rfl, rfl⟩, trivial⟩)
set_option maxHeartbeats 1000000 in
theorem wCls (h : Hir) (hk : hiL h) (ri : Rdg) (hr : ri.st.length ≤ 2^40) : FSpec Tryz.prog 193 [.agg ((hiF h).map .d), .agg ((rgF ri).map .d)] [] (fun y r => y = .tup [.agg ((hiF (mdH h (clH h ri))).map .d), .d (.int .i64 (mdE h (clH h ri)))] ∧ r = []) := by
 have hH : hiL (clH h ri) := ⟨hk.1, hk.2.1, by show (setIn h.legs ri).length ≤ _; rw [setIn_len]; exact hk.2.2.1, setIn_K hk.2.2.2 hr⟩; generalize hHe : clH h ri = H at hH ⊢
 by_cases q : goE h ≠ 0
 · have c1 := wGoE h hk q; have e1 : mdE h H = goE h := by unfold mdE; rw [if_pos q]
   have e2 : mdH h H = hi0 := by unfold mdH; rw [e1, if_neg q]
   rw [e1, e2]; generalize goE h = E at c1 q; refine spec_of hT (C := []) Tryz.func193 rfl Tryz.call193 rfl rfl rfl ?_; conv => whnf
   repeat' (first | (refine CallX.exact (c1) rfl rfl ?_; rotate_right; conv => whnf) | ((first | (refine br_intro ?_ ?_ <;> intro hb <;> try simp only [brs] at hb) | omega | refine sAx ?_ | decide | assumption) <;> conv => whnf))
   all_goals first
    | (exfalso; omega)
    | (refine .weak _ ?_
       conv => whnf
       exact ⟨.tup [.agg ((hiF hi0).map .d), .d (.int .i64 E)], [], SV.le_tup ⟨SV.le_agg ⟨lr, lr, lr, lr, SV.le_nilS, trivial⟩, lr, trivial⟩, ⟨rfl, rfl⟩, trivial⟩)
 · have q : goE h = 0 := by omega
   have e1 : mdE h H = hirE H := by unfold mdE; rw [if_neg (fun c => c q)]
   have e2 : mdH h H = if hirE H = 0 then H else hi0 := by unfold mdH; rw [e1]
   rw [e1, e2]; have c1 := wGoK h hk q; have c2 := wMade H hH.k; generalize hirE H = E at c2; generalize hR : (if E = 0 then H else hi0) = R at c2; have hl := hk.2.2.1; have hn := hirE_len (goE_zero q).1; subst hHe; refine spec_of hT (C := []) Tryz.func193 rfl Tryz.call193 rfl rfl rfl ?_; conv => whnf
   repeat' (first | ((first | (refine oAx c1 [(7, 40)] ?_; rintro x rout ⟨rfl, rfl⟩; refine ⟨rfl, ?_⟩) | (refine CallX.freeze _ _ _ _ 40 198 9 _ _ rfl rfl ?_; refine CallX.pure c2 ⟨SV.le_agg ⟨lr, lr, lr, lr, SV.le_putF setIn_put, trivial⟩, trivial⟩ rfl ?_) | (refine br_intro ?_ ?_ <;> intro hb <;> try simp only [brs] at hb) | omega | refine sAx ?_ | decide | assumption) <;> conv => whnf))
   all_goals first
    | (exfalso; omega)
    | (refine .ret _ ?_
       conv => whnf
       exact ⟨[], ⟨rfl, rfl⟩, trivial⟩)
set_option maxHeartbeats 1000000 in
theorem wExc (h : Hir) (hk : hiL h) (hs : h.legs.length < 2^19) (ri : Rdg) (hr : ri.st.length ≤ 2^40) (v : List UInt8) (hv : v.length ≤ 2^40) (ro : Rdg) (ho : ro.st.length ≤ 2^40) :
 FSpec Tryz.prog 194 [.agg ((hiF h).map .d), .agg ((rgF ri).map .d), .d (.str v), .agg ((rgF ro).map .d)] [] (fun y r => y = .tup [.agg ((hiF (mdH h (exH h ri v ro))).map .d), .d (.int .i64 (mdE h (exH h ri v ro)))] ∧ r = []) := by
 have hH : hiL (exH h ri v ro) := ⟨hk.1, hk.2.1, by show (setIn h.legs ri ++ [_]).length ≤ _; rw [List.length_append, setIn_len, List.length_singleton]; omega, fun x hx => by
  rcases List.mem_append.1 hx with q | q
  · exact setIn_K hk.2.2.2 hr x q
  · rw [List.mem_singleton] at q; subst q; exact ⟨hv, ho, by simp [rgN]⟩⟩
 generalize hHe : exH h ri v ro = H at hH ⊢
 by_cases q : goE h ≠ 0
 · have c1 := wGoE h hk q; have e1 : mdE h H = goE h := by unfold mdE; rw [if_pos q]
   have e2 : mdH h H = hi0 := by unfold mdH; rw [e1, if_neg q]
   rw [e1, e2]; generalize goE h = E at c1 q; refine spec_of hT (C := []) Tryz.func194 rfl Tryz.call194 rfl rfl rfl ?_; conv => whnf
   repeat' (first | (refine CallX.exact (c1) rfl rfl ?_; rotate_right; conv => whnf) | ((first | (refine br_intro ?_ ?_ <;> intro hb <;> try simp only [brs] at hb) | omega | refine sAx ?_ | decide | assumption) <;> conv => whnf))
   all_goals first
    | (exfalso; omega)
    | (refine .weak _ ?_
       conv => whnf
       exact ⟨.tup [.agg ((hiF hi0).map .d), .d (.int .i64 E)], [], SV.le_tup ⟨SV.le_agg ⟨lr, lr, lr, lr, SV.le_nilS, trivial⟩, lr, trivial⟩, ⟨rfl, rfl⟩, trivial⟩)
 · have q : goE h = 0 := by omega
   have e1 : mdE h H = hirE H := by unfold mdE; rw [if_neg (fun c => c q)]
   have e2 : mdH h H = if hirE H = 0 then H else hi0 := by unfold mdH; rw [e1]
   rw [e1, e2]; have c1 := wGoK h hk q; have c2 := wMade H hH.k; generalize hirE H = E at c2; generalize hR : (if E = 0 then H else hi0) = R at c2; have hl := hk.2.2.1; have hn := hirE_len (goE_zero q).1; subst hHe; refine spec_of hT (C := []) Tryz.func194 rfl Tryz.call194 rfl rfl rfl ?_; conv => whnf
   repeat' (first | ((first | (refine oAx c1 [(7, 50)] ?_; rintro x rout ⟨rfl, rfl⟩; refine ⟨rfl, ?_⟩) | (refine CallX.freeze _ _ _ _ 36 198 9 _ _ rfl rfl ?_; refine CallX.pure c2 ⟨SV.le_agg ⟨lr, lr, lr, lr, SV.le_put_snocF setIn_put rfl, trivial⟩, trivial⟩ rfl ?_) | (refine br_intro ?_ ?_ <;> intro hb <;> try simp only [brs] at hb) | omega | refine sAx ?_ | decide | assumption) <;> conv => whnf))
   all_goals first
    | (exfalso; omega)
    | (refine .ret _ ?_
       conv => whnf
       exact ⟨[], ⟨rfl, rfl⟩, trivial⟩)
theorem wStart (key drv : List UInt8) (a b : Int) (v : List UInt8) (o : Rdg) (h1 : key.length ≤ 2^40) (h2 : drv.length ≤ 2^40) (h3 : v.length ≤ 2^40) (h4 : o.st.length ≤ 2^40) :
 FSpec Tryz.prog 191 [.d (.str key), .d (.str drv), .agg [.d (.int .i64 a), .d (.int .i64 b)], .d (.str v), .agg ((rgF o).map .d)] [] (fun y r => y = .tup [.agg ((hiF (if hirE (startH key drv a b v o) = 0 then startH key drv a b v o else hi0)).map .d), .d (.int .i64 (hirE (startH key drv a b v o)))] ∧ r = []) := by
 have h265 := wMade (startH key drv a b v o) ⟨h1, h2, by simp [startH], fun x hx => by simp [startH] at hx; subst hx; exact ⟨h3, h4, by simp [rgN]⟩⟩; generalize hirE (startH key drv a b v o) = E at h265 ⊢; generalize hH : (if E = 0 then startH key drv a b v o else hi0) = H at h265 ⊢; refine spec_of hT (C := []) Tryz.func191 rfl Tryz.call191 rfl rfl rfl ?_; conv => whnf
 repeat' (first | ((first | refine CallX.pure h265 ⟨SV.le_agg ⟨lr, lr, lr, lr, SV.le_lit rfl rfl, trivial⟩, trivial⟩ rfl ?_ | (refine br_intro ?_ ?_ <;> intro hb <;> try simp only [brs] at hb) | omega | refine sAx ?_ | decide | assumption) <;> conv => whnf))
 refine .ret _ ?_; conv => whnf
 exact ⟨[], ⟨rfl, rfl⟩, trivial⟩
def oQOfB151_1 : OL := [(0, []), (1, []), (2, []), (3, []), (4, rg 4), (5, rg 4), (6, []), (7, []), (8, []), (9, [8]), (10, [9]), (11, [])]
def oQOfB151_3 : OL := [(0, []), (1, []), (2, []), (3, []), (4, []), (5, []), (6, []), (7, [3, 4, 5, 6]), (8, [3, 4, 5, 6]), (9, []), (10, []), (11, []), (12, []), (13, []), (14, []), (15, []), (16, []), (17, []), (18, []), (19, [15, 16, 17, 18]), (20, [15, 16, 17, 18]), (21, []), (22, []), (23, []), (24, []), (26, rg 25), (35, [0, 1, 2, 3, 4, 5, 6, 7, 8, 9, 10, 11, 12, 13, 14, 15, 16, 17, 18, 19, 20, 21, 22, 23, 24, 26]), (36, [0, 1, 2, 3, 4, 5, 6, 7, 8, 9, 10, 11, 12, 13, 14, 15, 16, 17, 18, 19, 20, 21, 22, 23, 24, 26, 35]), (25, [26, 35, 36]), (27, [35, 36]), (28, [35, 36]), (29, [35, 36]), (30, [35, 36, 28, 29]), (31, [35, 36, 28, 29]), (32, [35, 36]), (33, [35, 36]), (34, [35, 36]), (37, []), (38, []), (39, []), (40, [])]
def evtE (vm : Mp (List UInt8)) (sm : Mp Bool) (s : Off) (x : Evn) : Int :=
 firstE [if (!vm.has x.veh || (!sm.val x.st || (decide (x.kind = 6) && !sm.val x.to))) then 8 else 0, if (decide (x.kind = 6) && decide (x.to = x.st)) then 14 else 0, canE s x]
def evtS (vm : Mp (List UInt8)) (sm : Mp Bool) (s : Off) (x : Evn) : Off := if evtE vm sm s x = 0 then sayS s x else s
set_option maxHeartbeats 4000000 in
theorem wEvt (h : Hou) (vm : Mp (List UInt8)) (sm : Mp Bool) (s : Off) (x : Evn) (hl : s.log.length ≤ 2^20) :
 FSpec Tryz.prog 151 [.ptr 1000001 0, .agg ((evF x).map .d)] (offR h vm sm s) (fun y r => y = .d (.int .i64 (evtE vm sm s x)) ∧ r = offO h vm sm (evtS vm sm s x)) := by
 have c1 := wCan h vm sm s x; have c2 := wSay h vm sm s x hl; generalize hC : canE s x = C at c1; refine spec_of hT (C := []) Tryz.func151 rfl Tryz.call151 rfl rfl rfl ?_; conv => whnf
 repeat' (first | ((first | (refine oAx (c1) rq1 ?_; rintro y rout ⟨rfl, rfl⟩; refine ⟨rfl, ?_⟩) | (refine oAx (c2) rq2 ?_; rintro y rout ⟨rfl, rfl⟩; refine ⟨rfl, ?_⟩)) <;> conv => whnf) | (refine CallX.exact (s107 _ _) rfl rfl ?_; rotate_right; conv => whnf) | ((first | refine And.intro (rfl : zrow _ = some (ssF ss0)) ?_ | refine And.intro (rfl : zrow _ = some [.bool false]) ?_ | refine And.intro (rfl : zrow _ = some (sF1 [])) ?_ | refine And.intro (rfl : zrow _ = some [.str []]) ?_ | refine And.intro (rfl : zrow _ = some (bkF bk0)) ?_ | refine And.intro (rfl : zrow _ = some (hiO none)) ?_ | refine And.intro (rfl : zrow _ = some [.int .i64 0]) ?_ | refine CallX.pure (s105 [_, _, _] (by simp)) ⟨SV.le_lit (by rfl) (by rfl), trivial⟩ rfl ?_ | (refine br_intro ?_ ?_ <;> intro hb <;> try simp only [brs] at hb) | refine rAx hT 1 oQOfB151_1 ?_ | refine rAx hT 3 oQOfB151_3 ?_ | omega | refine sAx ?_ | decide | assumption) <;> conv => whnf))
 all_goals first
  | (have hS : evtS vm sm s x = s := by
      clear c1 c2; simp only [keyE] at *; unfold evtS evtE; rw [hC]
      first
       | (simp_all [firstE]; done)
       | (simp_all [firstE]; grind)
       | grind [firstE]
     rw [hS]; refine .ent _ _ (Entails.mk' (ts := [(4, .d (.int .i64 (evtE vm sm s x)))]) (rs := offO h vm sm (s)) rq3 rfl rfl ⟨SV.le_int (by clear c1 c2; simp only [keyE] at *; unfold evtE; rw [hC]; first | (simp_all [firstE]; done) | (simp_all [firstE]; grind) | grind [firstE]), trivial⟩ ⟨rr, rr, rr, rr, rr, rr, rr, rr, rr, rr, trivial⟩) ?_; refine .ret _ ?_; conv => whnf
     exact ⟨_, ⟨rfl, rfl⟩, rr, rr, rr, rr, rr, rr, rr, rr, rr, rr, trivial⟩)
  | (have hS : evtS vm sm s x = sayS s x := by
      clear c1 c2; simp only [keyE] at *; unfold evtS evtE; rw [hC]
      first
       | (simp_all [firstE]; done)
       | (simp_all [firstE]; grind)
       | grind [firstE]
     rw [hS]; refine .ent _ _ (Entails.mk' (ts := [(4, .d (.int .i64 (evtE vm sm s x)))]) (rs := offO h vm sm (sayS s x)) rq4 rfl rfl ⟨SV.le_int (by clear c1 c2; simp only [keyE] at *; unfold evtE; rw [hC]; first | (simp_all [firstE]; done) | (simp_all [firstE]; grind) | grind [firstE]), trivial⟩ ⟨rr, rr, rr, rr, rr, rr, rr, rr, rr, rr, trivial⟩) ?_; refine .ret _ ?_; conv => whnf
     exact ⟨_, ⟨rfl, rfl⟩, rr, rr, rr, rr, rr, rr, rr, rr, rr, rr, trivial⟩)
def oQOfC154_2 : OL := [(0, []), (1, []), (3, [0, 1]), (7, [0, 1, 3]), (8, [0, 1, 3]), (9, [0, 1, 3]), (10, [0, 1, 3]), (11, [0, 1, 3, 7, 8, 9, 10]), (12, [0, 1, 3]), (13, [0, 1, 3, 7, 8, 9, 10, 11, 12]), (14, [0, 1, 3]), (15, [0, 1, 3]), (2, [3, 7, 8, 9, 10, 11, 12, 13, 14, 15]), (4, [7, 8, 9, 10, 11, 12, 13, 14, 15]), (5, [7, 8, 9, 10, 11, 12, 13, 14, 15]), (6, [7, 8, 9, 10, 11, 12, 13, 14, 15]), (16, []), (17, []), (18, []), (19, [])]
def payE (s : Off) (key : List UInt8) (c : Int) : Int := firstE [if !s.his.has key then 8 else 0, if !decide (0 ≤ c ∧ c ≤ 1000000000) then 1 else 0, if 1000000000 < s.paid.val key + c then 2 else 0]
def payS (s : Off) (key : List UInt8) (c : Int) : Off := if payE s key c = 0 then { s with paid := s.paid.put key (s.paid.val key + c) } else s
set_option maxHeartbeats 4000000 in
theorem wPay (h : Hou) (vm : Mp (List UInt8)) (sm : Mp Bool) (s : Off) (key : List UInt8) (c : Int) (hc : -2^40 ≤ c ∧ c ≤ 2^40) (hp : -2^40 ≤ s.paid.val key ∧ s.paid.val key ≤ 2^40) :
 FSpec Tryz.prog 154 [.ptr 1000001 0, .d (.str key), .d (.int .i64 c)] (offR h vm sm s) (fun y r => y = .d (.int .i64 (payE s key c)) ∧ r = offO h vm sm (payS s key c)) := by
 obtain ⟨hc1, hc2⟩ := hc; obtain ⟨hp1, hp2⟩ := hp; rcases hv : s.his.val key with _ | g
 · skip
   refine spec_of hT (C := []) Tryz.func154 rfl Tryz.call154 rfl rfl rfl ?_; conv => whnf
   repeat' (first | (refine CallX.exact (s119 _ _ _) rfl rfl ?_; rotate_right; conv => whnf) | (refine And.intro (by show inI64 (s.paid.val key + c); unfold inI64; omega) ?_; conv => whnf) | (refine CallX.exact (s107 _ _) rfl rfl ?_; rotate_right; conv => whnf) | ((first | (refine And.intro (rfl : zrow _ = some (hiO none)) ?_; refine rowSV_eq (row' := hiO none) (congrArg hiO hv) ?_) | refine And.intro (rfl : zrow _ = some (ssF ss0)) ?_ | refine And.intro (rfl : zrow _ = some [.bool false]) ?_ | refine And.intro (rfl : zrow _ = some (sF1 [])) ?_ | refine And.intro (rfl : zrow _ = some [.str []]) ?_ | refine And.intro (rfl : zrow _ = some (bkF bk0)) ?_ | refine And.intro (rfl : zrow _ = some (hiO none)) ?_ | refine And.intro (rfl : zrow _ = some [.int .i64 0]) ?_ | refine CallX.pure (s105 [_, _, _] (by simp)) ⟨SV.le_lit (by rfl) (by rfl), trivial⟩ rfl ?_ | (refine br_intro ?_ ?_ <;> intro hb <;> try simp only [brs] at hb) | refine rAx hT 2 oQOfC154_2 ?_ | omega | refine sAx ?_ | decide | assumption) <;> conv => whnf))
   all_goals first
    | (have hS : payS s key c = (s) := by
        unfold payS payE
        (try simp only [keyE] at *); first | (simp_all [firstE]; done) | (simp_all [firstE]; grind) | grind [firstE]
       rw [hS]; refine .ent _ _ (Entails.mk' (ts := [(6, .d (.int .i64 (payE s key c)))]) (rs := offO h vm sm (s)) rq3 rfl rfl ⟨SV.le_int (by unfold payE; (try simp only [keyE] at *); first | (simp_all [firstE]; done) | (simp_all [firstE]; grind) | grind [firstE]), trivial⟩ ⟨rr, rr, rr, rr, rr, rr, rr, rr, rr, rr, trivial⟩) ?_; refine .ret _ ?_; conv => whnf
       exact ⟨_, ⟨rfl, rfl⟩, rr, rr, rr, rr, rr, rr, rr, rr, rr, rr, trivial⟩)
    | (have hS : payS s key c = ({ s with paid := s.paid.put key (s.paid.val key + c) }) := by
        unfold payS payE
        (try simp only [keyE] at *); first | (simp_all [firstE]; done) | (simp_all [firstE]; grind) | grind [firstE]
       rw [hS]; refine .ent _ _ (Entails.mk' (ts := [(6, .d (.int .i64 (payE s key c)))]) (rs := offO h vm sm ({ s with paid := s.paid.put key (s.paid.val key + c) })) rq3 rfl rfl ⟨SV.le_int (by unfold payE; (try simp only [keyE] at *); first | (simp_all [firstE]; done) | (simp_all [firstE]; grind) | grind [firstE]), trivial⟩ ⟨rr, rr, rr, rr, rr, rr, rr, rr, mpS_put, rr, trivial⟩) ?_; refine .ret _ ?_; conv => whnf
       exact ⟨_, ⟨rfl, rfl⟩, rr, rr, rr, rr, rr, rr, rr, rr, rr, rr, trivial⟩)
 · skip
   refine spec_of hT (C := []) Tryz.func154 rfl Tryz.call154 rfl rfl rfl ?_; conv => whnf
   repeat' (first | (refine CallX.exact (s119 _ _ _) rfl rfl ?_; rotate_right; conv => whnf) | (refine And.intro (by show inI64 (s.paid.val key + c); unfold inI64; omega) ?_; conv => whnf) | (refine CallX.exact (s107 _ _) rfl rfl ?_; rotate_right; conv => whnf) | ((first | (refine And.intro (rfl : zrow _ = some (hiO none)) ?_; refine rowSV_eq (row' := hiF g) (congrArg hiO hv) ?_) | refine And.intro (rfl : zrow _ = some (ssF ss0)) ?_ | refine And.intro (rfl : zrow _ = some [.bool false]) ?_ | refine And.intro (rfl : zrow _ = some (sF1 [])) ?_ | refine And.intro (rfl : zrow _ = some [.str []]) ?_ | refine And.intro (rfl : zrow _ = some (bkF bk0)) ?_ | refine And.intro (rfl : zrow _ = some (hiO none)) ?_ | refine And.intro (rfl : zrow _ = some [.int .i64 0]) ?_ | refine CallX.pure (s105 [_, _, _] (by simp)) ⟨SV.le_lit (by rfl) (by rfl), trivial⟩ rfl ?_ | (refine br_intro ?_ ?_ <;> intro hb <;> try simp only [brs] at hb) | refine rAx hT 2 oQOfC154_2 ?_ | omega | refine sAx ?_ | decide | assumption) <;> conv => whnf))
   all_goals first
    | (have hS : payS s key c = (s) := by
        unfold payS payE
        (try simp only [keyE] at *); first | (simp_all [firstE]; done) | (simp_all [firstE]; grind) | grind [firstE]
       rw [hS]; refine .ent _ _ (Entails.mk' (ts := [(6, .d (.int .i64 (payE s key c)))]) (rs := offO h vm sm (s)) rq3 rfl rfl ⟨SV.le_int (by unfold payE; (try simp only [keyE] at *); first | (simp_all [firstE]; done) | (simp_all [firstE]; grind) | grind [firstE]), trivial⟩ ⟨rr, rr, rr, rr, rr, rr, rr, rr, rr, rr, trivial⟩) ?_; refine .ret _ ?_; conv => whnf
       exact ⟨_, ⟨rfl, rfl⟩, rr, rr, rr, rr, rr, rr, rr, rr, rr, rr, trivial⟩)
    | (have hS : payS s key c = ({ s with paid := s.paid.put key (s.paid.val key + c) }) := by
        unfold payS payE
        (try simp only [keyE] at *); first | (simp_all [firstE]; done) | (simp_all [firstE]; grind) | grind [firstE]
       rw [hS]; refine .ent _ _ (Entails.mk' (ts := [(6, .d (.int .i64 (payE s key c)))]) (rs := offO h vm sm ({ s with paid := s.paid.put key (s.paid.val key + c) })) rq3 rfl rfl ⟨SV.le_int (by unfold payE; (try simp only [keyE] at *); first | (simp_all [firstE]; done) | (simp_all [firstE]; grind) | grind [firstE]), trivial⟩ ⟨rr, rr, rr, rr, rr, rr, rr, rr, mpS_put, rr, trivial⟩) ?_; refine .ret _ ?_; conv => whnf
       exact ⟨_, ⟨rfl, rfl⟩, rr, rr, rr, rr, rr, rr, rr, rr, rr, rr, trivial⟩)
def oQBkA239_8 : OL := [(0, []), (1, []), (2, []), (3, []), (4, []), (5, [3, 4]), (6, [3, 4, 5]), (7, [3, 4, 5]), (8, [3, 4]), (9, [3, 4]), (10, [3, 4]), (11, []), (12, []), (13, [])]
theorem wKey (x : Cls) (key : List UInt8) : FSpec Tryz.prog 260 [.agg ((clsF x).map .d), .ptr 1000001 0] [(1000001, kyC key)] (fun y r => y = .d (.bool (x.key == key)) ∧ r = [(1000001, kyC key)]) := by
 refine spec_of hT (C := []) Tryz.func260 rfl Tryz.call260 rfl rfl rfl ?_; conv => whnf
 refine .ret _ ?_; conv => whnf
 exact ⟨[(1000001, kyC key)], ⟨rfl, rfl⟩, rr, trivial⟩
theorem wKeyIx (l : List Cls) (hl : l.length ≤ 2^40) (key : List UInt8) : FSpec Tryz.prog 173 [.d (clss l), .fn 260 [.ptr 1000001 0]] [(1000001, kyC key)] (fun x r => x = .d (.int .i64 (clIx l key)) ∧ r = [(1000001, kyC key)]) := by
 refine spec_of hT (C := []) Tryz.func173 rfl Tryz.call173 rfl rfl rfl ?_; conv => whnf
 refine LoopX.rule hT (C := []) (ι := Nat) (fun i => i ≤ l.length ∧ ∀ j, j < i → ((l.getD j cls0).key == key) = false) (fun i => mkSt [(0, .d (clss l)), (1, .fn 260 [.ptr 1000001 0]), (7, .d (.int .i64 l.length)), (8, .d (.int .i64 i))] [(1000001, kyC key)]) (fun i => l.length - i) 0 ⟨by omega, by omega⟩ (by exact eAx [(1000001, 1000001)]) ?_; rintro i ⟨p1, p2⟩; have e1 : (i : Int).toNat = i := Int.toNat_natCast i; conv => whnf
 repeat' (first | ((first | (refine oAx (wKey (l.getD (i : Int).toNat cls0) key) [(1000001, 1000001)] ?_; rintro x rout ⟨rfl, rfl⟩; refine ⟨rfl, ?_⟩) | (refine br_intro ?_ ?_ <;> intro hb <;> try simp only [brs] at hb) | omega | refine sAx ?_ | decide | assumption) <;> conv => whnf))
 · refine .ret _ ?_; conv => whnf
   refine ⟨[(1000001, kyC key)], ⟨?_, rfl⟩, rr, trivial⟩; conv => lhs; whnf
   congr 2
   exact (ixF_hit (by omega) p2 (by simpa using hb)).symm
 · exact ⟨i + 1, ⟨by omega, all_step p2 (by simpa using hb)⟩, by omega, (by exact eAx [(1000001, 1000001)])⟩
 · refine .ret _ ?_; conv => whnf
   refine ⟨[(1000001, kyC key)], ⟨?_, rfl⟩, rr, trivial⟩; conv => lhs; whnf
   congr 2
   have : i = l.length := by omega
   subst this; exact (ixF_none p2).symm
def clHas (l : List Cls) (key : List UInt8) : Bool := decide (0 ≤ clIx l key)
theorem wHasC (l : List Cls) (hl : l.length ≤ 2^40) (key : List UInt8) : FSpec Tryz.prog 259 [.d (clss l), .fn 260 [.ptr 1000001 0]] [(1000001, kyC key)] (fun x r => x = .d (.bool (clHas l key)) ∧ r = [(1000001, kyC key)]) := by
 refine spec_of hT (C := []) Tryz.func259 rfl Tryz.call259 rfl rfl rfl ?_; conv => whnf
 repeat' (first | ((first | (refine oAx (wKeyIx l hl key) [(1000001, 1000001)] ?_; rintro x rout ⟨rfl, rfl⟩; refine ⟨rfl, ?_⟩) | (refine br_intro ?_ ?_ <;> intro hb <;> try simp only [brs] at hb) | omega | refine sAx ?_ | decide | assumption) <;> conv => whnf))
 refine .ret _ ?_; conv => whnf
 exact ⟨_, ⟨rfl, rfl⟩, rr, trivial⟩
theorem wHasClass (l : List Cls) (hl : l.length ≤ 2^40) (key : List UInt8) : FSpec Tryz.prog 240 [.d (clss l), .d (.str key)] [] (fun x r => x = .d (.bool (clHas l key)) ∧ r = []) := by
 refine spec_of hT (C := []) Tryz.func240 rfl Tryz.call240 rfl rfl rfl ?_; conv => whnf
 repeat' (first | ((first | (refine oAx (wHasC l hl key) [(1000001, 3)] ?_; rintro x rout ⟨rfl, rfl⟩; refine ⟨rfl, ?_⟩) | (refine br_intro ?_ ?_ <;> intro hb <;> try simp only [brs] at hb) | omega | refine sAx ?_ | decide | assumption) <;> conv => whnf))
 refine .ret _ ?_; conv => whnf
 refine ⟨[], ⟨?_, rfl⟩, trivial⟩; conv => lhs; whnf
def forB (b : Bok) : Int :=
 if isKeyB b.key = false ∨ isKeyB b.cls = false then 5 else if b.frm < 0 ∨ b.to ≤ b.frm ∨ 5761439 < b.to then 1
 else if ¬ (0 ≤ b.made ∧ b.made ≤ b.frm) ∨ ¬ (0 ≤ b.pct ∧ b.pct ≤ 100) then 1 else 0
set_option maxHeartbeats 2000000 in
theorem wFormed (b : Bok) (h1 : b.key.length ≤ 2^40) (h2 : b.cls.length ≤ 2^40) : FSpec Tryz.prog 239 [.d (boks [b])] [] (fun x r => x = .d (.int .i64 (forB b)) ∧ r = []) := by
 have c1 := s108 b.key h1; have c2 := s108 b.cls h2; refine spec_of hT (C := []) Tryz.func239 rfl Tryz.call239 rfl rfl rfl ?_; conv => whnf
 refine LoopX.rule hT (C := []) (ι := Nat) (fun i => i = 0 ∨ (i = 1 ∧ forB b = 0)) (fun i => mkSt [(0, .d (boks [b])), (8, .d (boks [b])), (9, .d (.int .i64 1)), (10, .d (.int .i64 i))] []) (fun i => 1 - i) 0 (.inl rfl) (by exact eAx []) ?_; rintro i (rfl | ⟨rfl, hz⟩)
 · conv => whnf
   repeat' (first | (refine CallX.exact (c1) rfl rfl ?_; rotate_right; conv => whnf) | (refine CallX.exact (c2) rfl rfl ?_; rotate_right; conv => whnf) | (refine CallX.exact (s119 _ _ _) rfl rfl ?_; rotate_right; conv => whnf) | ((first | (refine br_intro ?_ ?_ <;> intro hb <;> try simp only [brs] at hb) | refine rAx hT 8 oQBkA239_8 ?_ | omega | refine sAx ?_ | decide | assumption) <;> conv => whnf))
   all_goals first
    | (refine .ret _ ?_
       conv => whnf
       refine ⟨[], ⟨?_, rfl⟩, trivial⟩; conv => lhs; whnf
       congr 2
       clear c1 c2
       (try simp only [List.getD_cons_zero] at *)
       unfold forB
       grind)
    | (refine ⟨1, .inr ⟨rfl, ?_⟩, by omega, (by exact eAx [])⟩
       clear c1 c2
       (try simp only [List.getD_cons_zero] at *)
       unfold forB
       grind)
 · rw [hz]; conv => whnf
   repeat' (first | ((first | (refine br_intro ?_ ?_ <;> intro hb <;> try simp only [brs] at hb) | refine rAx hT 8 oQBkA239_8 ?_ | omega | refine sAx ?_ | decide | assumption) <;> conv => whnf))
   refine .ret _ ?_; conv => whnf
   refine ⟨[], ⟨?_, rfl⟩, trivial⟩; conv => lhs; whnf
def clsdE (l : List Cls) (b : Bok) : Int := if forB b ≠ 0 then forB b else if clHas l b.cls then 0 else 8
set_option maxHeartbeats 2000000 in
theorem wClassed (l : List Cls) (hl : l.length ≤ 2^40) (b : Bok) (h1 : b.key.length ≤ 2^40) (h2 : b.cls.length ≤ 2^40) : FSpec Tryz.prog 221 [.d (clss l), .d (boks [b])] [] (fun x r => x = .d (.int .i64 (clsdE l b)) ∧ r = []) := by
 have c1 := wFormed b h1 h2; have c2 := wHasClass l hl b.cls; have hD : clsdE l b = if forB b ≠ 0 then forB b else if clHas l b.cls then 0 else 8 := rfl; generalize forB b = F at c1 hD; generalize clHas l b.cls = H at c2 hD; refine spec_of hT (C := []) Tryz.func221 rfl Tryz.call221 rfl rfl rfl ?_; conv => whnf
 repeat' (first | (refine CallX.exact (c1) rfl rfl ?_; rotate_right; conv => whnf) | ((first | (refine br_intro ?_ ?_ <;> intro hb <;> try simp only [brs] at hb) | omega | refine sAx ?_ | decide | assumption) <;> conv => whnf))
 · rw [if_pos hb] at hD; rw [hD]; refine .ret _ ?_; conv => whnf
   refine ⟨[], ⟨?_, rfl⟩, trivial⟩; conv => lhs; whnf
 rw [if_neg (fun c => c hb)] at hD; refine LoopX.rule hT (C := []) (ι := Nat) (fun i => i = 0 ∨ (i = 1 ∧ H = true)) (fun i => mkSt [(0, .d (clss l)), (13, .d (boks [b])), (14, .d (.int .i64 1)), (15, .d (.int .i64 i))] []) (fun i => 1 - i) 0 (.inl rfl) (by exact eAx []) ?_; rintro i (rfl | ⟨rfl, hz⟩)
 · conv => whnf
   repeat' (first | ((first | refine pAx c2 ?_ | (refine br_intro ?_ ?_ <;> intro hb <;> try simp only [brs] at hb) | omega | refine sAx ?_ | decide | assumption) <;> conv => whnf))
   all_goals first
    | (refine ⟨1, .inr ⟨rfl, ?_⟩, by omega, (by exact eAx [])⟩
       first | exact hb | simpa using hb)
    | (rw [show H = false from by first | exact hb | simpa using hb] at hD
       rw [hD]; refine .ret _ ?_; conv => whnf
       refine ⟨[], ⟨?_, rfl⟩, trivial⟩; conv => lhs; whnf
       all_goals rfl)
 · rw [hz] at hD; rw [hD]; conv => whnf
   repeat' (first | ((first | (refine br_intro ?_ ?_ <;> intro hb <;> try simp only [brs] at hb) | omega | refine sAx ?_ | decide | assumption) <;> conv => whnf))
   refine .ret _ ?_; conv => whnf
   refine ⟨[], ⟨?_, rfl⟩, trivial⟩; conv => lhs; whnf
   rfl
def bokE (l : List Cls) (b : Bok) : Int := firstE [clssE l, clsdE l b]
theorem wBokChk (l : List Cls) (hk : clsOk l) (b : Bok) (h1 : b.key.length ≤ 2^40) (h2 : b.cls.length ≤ 2^40) : FSpec Tryz.prog 190 [.d (clss l), .d (boks [b])] [] (fun x r => x = .d (.int .i64 (bokE l b)) ∧ r = []) := by
 have c1 := z175 l hk; have c2 := wClassed l (by have := hk.1; omega) b h1 h2; have hE : bokE l b = firstE [clssE l, clsdE l b] := rfl; generalize clssE l = A at c1 hE; generalize clsdE l b = B at c2 hE; rw [hE]; refine spec_of hT (C := []) Tryz.func190 rfl Tryz.call190 rfl rfl rfl ?_; conv => whnf
 repeat' (first | (refine CallX.exact (c1) rfl rfl ?_; rotate_right; conv => whnf) | (refine CallX.exact (c2) rfl rfl ?_; rotate_right; conv => whnf) | ((first | refine CallX.pure (s105 [_, _] (by simp)) ⟨SV.le_lit (by rfl) (by rfl), trivial⟩ rfl ?_ | (refine br_intro ?_ ?_ <;> intro hb <;> try simp only [brs] at hb) | omega | refine sAx ?_ | decide | assumption) <;> conv => whnf))
 refine .ret _ ?_; conv => whnf
 refine ⟨[], ⟨?_, rfl⟩, trivial⟩; conv => lhs; whnf
def oQOfD152_1 : OL := [(0, []), (1, []), (2, []), (3, []), (4, rg 4), (5, rg 4), (6, []), (7, []), (8, []), (9, [8]), (10, rg 10), (11, [9]), (12, [])]
def oQOfD152_2 : OL := [(0, []), (1, []), (2, []), (3, []), (4, rg 4), (5, rg 4), (6, []), (7, []), (8, []), (9, [8]), (10, rg 10), (11, [9]), (12, [])]
def oQOfD152_3 : OL := [(0, []), (1, []), (2, []), (3, []), (4, []), (5, []), (6, rg 6), (7, rg 6), (9, rg 8), (14, [0, 1, 2, 3, 4, 5, 6, 7, 9]), (15, [0, 1, 2, 3, 4, 5, 6, 7, 9]), (16, [0, 1, 2, 3, 4, 5, 6, 7, 9]), (17, [0, 1, 2, 3, 4, 5, 6, 7, 9]), (8, [9, 14, 15, 16, 17]), (10, [14, 15, 16, 17]), (11, [14, 15, 16, 17]), (12, [14, 15, 16, 17]), (13, [14, 15, 16, 17]), (18, []), (19, []), (20, []), (21, []), (22, []), (23, [])]
def oQOfD152_6 : OL := [(0, []), (1, []), (2, []), (3, []), (4, rg 4), (5, rg 4), (6, rg 6), (7, [])]
def bookE (h : Hou) (s : Off) (b : Bok) : Int := firstE [bokE h.flt.cls b, if (s.bks.has b.key || s.his.has b.key) then 6 else 0, 0]
def bookS (h : Hou) (s : Off) (b : Bok) : Off := if bookE h s b = 0 then { s with bks := s.bks.put b.key b } else s
def few (m : List UInt8 → Bool) : Prop := ∃ L : List (List UInt8), L.length < 500 ∧ ∀ k, m k = true → k ∈ L
theorem few.kb {m : List UInt8 → Bool} (h : few m) {clock : Nat} {kb : List (List DV × Nat)} (hk : KB [.str] (fun K => m (keyE K)) clock kb) : kb.length < 500 := by
 obtain ⟨L, h1, h2⟩ := h
 have := hk.le (L.map fun x => [.str x]) (fun key hw hh => by
  obtain ⟨s, rfl⟩ := wk_str1 hw
  exact List.mem_map.2 ⟨s, h2 s hh, rfl⟩)
 rw [List.length_map] at this; omega
set_option maxHeartbeats 4000000 in
theorem wBook (h : Hou) (hc : clsOk h.flt.cls) (vm : Mp (List UInt8)) (sm : Mp Bool) (s : Off) (b : Bok) (h1 : b.key.length ≤ 2^40) (h2 : b.cls.length ≤ 2^40) (hf : few s.bks.has) :
 FSpec Tryz.prog 152 [.ptr 1000001 0, .agg ((bkF b).map .d)] (offR h vm sm s) (fun y r => y = .d (.int .i64 (bookE h s b)) ∧ r = offO h vm sm (bookS h s b)) := by
 have c1 := wBokChk h.flt.cls hc b h1 h2; generalize hC : bokE h.flt.cls b = C at c1; have hcn : ∀ clock kb, KB [.str] (fun K => s.bks.has (keyE K)) clock kb → kb.length < 500 := fun clock kb hk => hf.kb hk
 rcases hv : s.his.val b.key with _ | g
 · skip
   refine spec_of hT (C := []) Tryz.func152 rfl Tryz.call152 rfl rfl rfl ?_; conv => whnf
   repeat' (first | ((first | (refine RegX.cnt (id := 3) 1000007 rfl ?_; intro clock kb hKB; have hk5 := hcn clock kb hKB; have hk6 : ¬ (500 : Int) ≤ (kb.length : Int) := (by omega)) | refine RegX.unc (id := 6) 1000007 rfl ?_) <;> conv => whnf) | (refine CallX.exact (s107 _ _) rfl rfl ?_; rotate_right; conv => whnf) | ((first | (refine And.intro (rfl : zrow _ = some (hiO none)) ?_; refine rowSV_eq (row' := hiO none) (congrArg hiO hv) ?_) | refine And.intro (rfl : zrow _ = some (ssF ss0)) ?_ | refine And.intro (rfl : zrow _ = some [.bool false]) ?_ | refine And.intro (rfl : zrow _ = some (sF1 [])) ?_ | refine And.intro (rfl : zrow _ = some [.str []]) ?_ | refine And.intro (rfl : zrow _ = some (bkF bk0)) ?_ | refine And.intro (rfl : zrow _ = some (hiO none)) ?_ | refine And.intro (rfl : zrow _ = some [.int .i64 0]) ?_ | refine CallX.pure c1 ⟨lr, SV.le_lit rfl rfl, trivial⟩ rfl ?_ | refine CallX.pure (s105 [_, _, _] (by simp)) ⟨SV.le_lit (by rfl) (by rfl), trivial⟩ rfl ?_ | (refine br_intro ?_ ?_ <;> intro hb <;> try simp only [brs] at hb) | refine rAx hT 1 oQOfD152_1 ?_ | refine rAx hT 2 oQOfD152_2 ?_ | refine rAx hT 3 oQOfD152_3 ?_ | refine rAx hT 6 oQOfD152_6 ?_ | omega | refine sAx ?_ | decide | assumption) <;> conv => whnf))
   all_goals first
    | (have hS : bookS h s b = (s) := by
        clear c1 hcn hKB hf; unfold bookS bookE; rw [hC]
        (try simp only [keyE] at *); first | (simp_all [firstE]; done) | (simp_all [firstE]; grind) | grind [firstE]
       rw [hS]; refine .ent _ _ (Entails.mk' (ts := [(4, .d (.int .i64 (bookE h s b)))]) (rs := offO h vm sm (s)) rq3 rfl rfl ⟨SV.le_int (by clear c1 hcn hKB hf; unfold bookE; rw [hC]; (try simp only [keyE] at *); first | (simp_all [firstE]; done) | (simp_all [firstE]; grind) | grind [firstE]), trivial⟩ ⟨rr, rr, rr, rr, rr, rr, Res.le_mapB fun _ _ => ⟨rfl, rfl⟩, rr, rr, rr, trivial⟩) ?_; refine .ret _ ?_; conv => whnf
       exact ⟨_, ⟨rfl, rfl⟩, rr, rr, rr, rr, rr, rr, rr, rr, rr, rr, trivial⟩)
    | (have hS : bookS h s b = ({ s with bks := s.bks.put b.key b }) := by
        clear c1 hcn hKB hf; unfold bookS bookE; rw [hC]
        (try simp only [keyE] at *); first | (simp_all [firstE]; done) | (simp_all [firstE]; grind) | grind [firstE]
       rw [hS]; refine .ent _ _ (Entails.mk' (ts := [(4, .d (.int .i64 (bookE h s b)))]) (rs := offO h vm sm ({ s with bks := s.bks.put b.key b })) rq3 rfl rfl ⟨SV.le_int (by clear c1 hcn hKB hf; unfold bookE; rw [hC]; (try simp only [keyE] at *); first | (simp_all [firstE]; done) | (simp_all [firstE]; grind) | grind [firstE]), trivial⟩ ⟨rr, rr, rr, rr, rr, rr, mpS_put, rr, rr, rr, trivial⟩) ?_; refine .ret _ ?_; conv => whnf
       exact ⟨_, ⟨rfl, rfl⟩, rr, rr, rr, rr, rr, rr, rr, rr, rr, rr, trivial⟩)
 · skip
   refine spec_of hT (C := []) Tryz.func152 rfl Tryz.call152 rfl rfl rfl ?_; conv => whnf
   repeat' (first | ((first | (refine RegX.cnt (id := 3) 1000007 rfl ?_; intro clock kb hKB; have hk5 := hcn clock kb hKB; have hk6 : ¬ (500 : Int) ≤ (kb.length : Int) := (by omega)) | refine RegX.unc (id := 6) 1000007 rfl ?_) <;> conv => whnf) | (refine CallX.exact (s107 _ _) rfl rfl ?_; rotate_right; conv => whnf) | ((first | (refine And.intro (rfl : zrow _ = some (hiO none)) ?_; refine rowSV_eq (row' := hiF g) (congrArg hiO hv) ?_) | refine And.intro (rfl : zrow _ = some (ssF ss0)) ?_ | refine And.intro (rfl : zrow _ = some [.bool false]) ?_ | refine And.intro (rfl : zrow _ = some (sF1 [])) ?_ | refine And.intro (rfl : zrow _ = some [.str []]) ?_ | refine And.intro (rfl : zrow _ = some (bkF bk0)) ?_ | refine And.intro (rfl : zrow _ = some (hiO none)) ?_ | refine And.intro (rfl : zrow _ = some [.int .i64 0]) ?_ | refine CallX.pure c1 ⟨lr, SV.le_lit rfl rfl, trivial⟩ rfl ?_ | refine CallX.pure (s105 [_, _, _] (by simp)) ⟨SV.le_lit (by rfl) (by rfl), trivial⟩ rfl ?_ | (refine br_intro ?_ ?_ <;> intro hb <;> try simp only [brs] at hb) | refine rAx hT 1 oQOfD152_1 ?_ | refine rAx hT 2 oQOfD152_2 ?_ | refine rAx hT 3 oQOfD152_3 ?_ | refine rAx hT 6 oQOfD152_6 ?_ | omega | refine sAx ?_ | decide | assumption) <;> conv => whnf))
   all_goals first
    | (have hS : bookS h s b = (s) := by
        clear c1 hcn hKB hf; unfold bookS bookE; rw [hC]
        (try simp only [keyE] at *); first | (simp_all [firstE]; done) | (simp_all [firstE]; grind) | grind [firstE]
       rw [hS]; refine .ent _ _ (Entails.mk' (ts := [(4, .d (.int .i64 (bookE h s b)))]) (rs := offO h vm sm (s)) rq3 rfl rfl ⟨SV.le_int (by clear c1 hcn hKB hf; unfold bookE; rw [hC]; (try simp only [keyE] at *); first | (simp_all [firstE]; done) | (simp_all [firstE]; grind) | grind [firstE]), trivial⟩ ⟨rr, rr, rr, rr, rr, rr, Res.le_mapB fun _ _ => ⟨rfl, rfl⟩, rr, rr, rr, trivial⟩) ?_; refine .ret _ ?_; conv => whnf
       exact ⟨_, ⟨rfl, rfl⟩, rr, rr, rr, rr, rr, rr, rr, rr, rr, rr, trivial⟩)
    | (have hS : bookS h s b = ({ s with bks := s.bks.put b.key b }) := by
        clear c1 hcn hKB hf; unfold bookS bookE; rw [hC]
        (try simp only [keyE] at *); first | (simp_all [firstE]; done) | (simp_all [firstE]; grind) | grind [firstE]
       rw [hS]; refine .ent _ _ (Entails.mk' (ts := [(4, .d (.int .i64 (bookE h s b)))]) (rs := offO h vm sm ({ s with bks := s.bks.put b.key b })) rq3 rfl rfl ⟨SV.le_int (by clear c1 hcn hKB hf; unfold bookE; rw [hC]; (try simp only [keyE] at *); first | (simp_all [firstE]; done) | (simp_all [firstE]; grind) | grind [firstE]), trivial⟩ ⟨rr, rr, rr, rr, rr, rr, mpS_put, rr, rr, rr, trivial⟩) ?_; refine .ret _ ?_; conv => whnf
       exact ⟨_, ⟨rfl, rfl⟩, rr, rr, rr, rr, rr, rr, rr, rr, rr, rr, trivial⟩)
def oQOfE188_1 : OL := [(0, []), (1, []), (2, []), (3, []), (4, rg 4), (5, rg 4), (6, []), (7, rg 7), (12, rg 8), (8, [12]), (9, [12]), (10, [12]), (11, [12, 10]), (13, [11]), (14, [])]
def oQOfE188_2 : OL := [(0, []), (1, []), (2, []), (3, []), (4, rg 4), (5, rg 4), (6, rg 6), (7, rg 6), (8, rg 4), (9, []), (11, rg 10), (12, rg 10), (10, [11, 12]), (13, []), (14, []), (15, []), (16, [])]
def oQOfE153_1 : OL := [(0, []), (1, []), (2, []), (3, []), (4, rg 4), (5, rg 4), (6, rg 4), (7, rg 4), (8, rg 8), (9, rg 8), (10, rg 8), (11, rg 8), (12, rg 12), (13, rg 12), (14, rg 12), (15, rg 12), (16, [4, 5, 6, 7, 8, 9, 10, 11, 12, 13, 14, 15]), (17, [8, 9, 10, 11, 12, 13, 14, 15]), (18, [12, 13, 14, 15]), (19, [])]
def oQOfE153_2 : OL := [(0, []), (1, [0]), (2, [0, 1]), (3, [0, 1, 2]), (4, [0, 1, 2]), (5, [0, 1, 2]), (6, [0, 1, 2]), (7, [0, 1]), (8, rg 8), (9, rg 9), (10, rg 10), (11, rg 11), (12, rg 11), (13, rg 11), (14, rg 11), (15, rg 15), (16, rg 15), (17, rg 15), (18, rg 15), (19, rg 9), (24, rg 20), (20, [24]), (21, [24]), (22, [24]), (23, [24, 22]), (25, [23]), (26, [])]
def oQOfE153_8 : OL := [(0, []), (2, [0]), (3, [0]), (14, [0, 2, 3]), (15, [0, 2, 3, 14]), (17, [0, 2, 3, 14, 15]), (18, [0, 2, 3, 14, 15]), (19, [0, 2, 3, 14, 15]), (20, [0, 2, 3, 14, 15]), (1, [2, 3, 14, 15, 17, 18, 19, 20]), (4, [14, 15, 17, 18, 19, 20]), (5, [14, 15, 17, 18, 19, 20]), (6, [14, 15, 17, 18, 19, 20]), (7, [14, 15, 17, 18, 19, 20]), (8, [14, 15, 17, 18, 19, 20]), (9, [14, 15, 17, 18, 19, 20, 5, 6, 7, 8]), (10, [14, 15, 17, 18, 19, 20]), (11, [14, 15, 17, 18, 19, 20]), (12, [14, 15, 17, 18, 19, 20]), (13, [14, 15, 17, 18, 19, 20]), (16, [17, 18, 19, 20]), (21, []), (22, []), (23, []), (24, []), (25, []), (26, [])]
def oQOfE153_12 : OL := [(0, []), (1, []), (2, []), (3, []), (4, rg 4), (5, rg 5), (6, [])]
abbrev offRB (h : Hou) (vm : Mp (List UInt8)) (sm : Mp Bool) (s : Off) (clock : Nat) (kb : List (List DV × Nat)) : List (Nat × Res) :=
 [(1000001, offC h), (1000002, mpS false [.str []] sF1 vm), (1000003, mpS false [.bool false] bF1 sm), (1000004, mpS true (ssF ss0) ssF s.sts), (1000005, evB s.log), (1000006, atM s.ats), (1000007, mpS true (bkF bk0) bkF s.bks), (1000008, .mapB false true [.str] (hiO none) (fun K => s.his.has (keyE K)) (fun K => hiO (s.his.val (keyE K))) clock kb), (1000010, mpS false [.int .i64 0] iF1 s.paid), (1000011, rfB s.ref)]
set_option maxHeartbeats 2000000 in
theorem wCanB (h : Hou) (vm : Mp (List UInt8)) (sm : Mp Bool) (s : Off) (x : Evn) (clock : Nat) (kb : List (List DV × Nat)) : FSpec Tryz.prog 188 [.ptr 1000001 0, .agg ((evF x).map .d)] (offRB h vm sm s clock kb) (fun y r => y = .d (.int .i64 (canE s x)) ∧ r = offRB h vm sm s clock kb) := by
 refine spec_of hT (C := []) Tryz.func188 rfl Tryz.call188 rfl rfl rfl ?_; conv => whnf
 repeat' (first | (refine CallX.pure (wFol _ x) ⟨lr, lr, trivial⟩ rfl ?_; conv => whnf) | (refine CallX.exact (s107 _ _) rfl rfl ?_; rotate_right; conv => whnf) | ((first | refine And.intro (rfl : zrow _ = some (ssF ss0)) ?_ | refine And.intro (rfl : zrow _ = some [DV.bool false]) ?_ | refine CallX.pure (s105 [_, _] (by simp)) ⟨SV.le_lit (by rfl) (by rfl), trivial⟩ rfl ?_ | (refine br_intro ?_ ?_ <;> intro hb <;> try simp only [brs] at hb) | refine rAx hT 1 oQOfE188_1 ?_ | refine rAx hT 2 oQOfE188_2 ?_ | omega | refine sAx ?_ | decide | assumption) <;> conv => whnf))
 refine .ret _ ?_; conv => whnf
 exact ⟨offRB h vm sm s clock kb, ⟨rfl, rfl⟩, rr, rr, rr, rr, rr, rr, rr, rr, rr, rr, trivial⟩
def stHi (at0 : Int) (t : Tol) : Hir := startH (t.texts.getD 0 []) (t.texts.getD 1 []) at0 (t.nums.getD 0 0) (t.texts.getD 2 []) ⟨at0, t.texts.getD 3 [], t.nums.getD 1 0, t.nums.getD 2 0⟩
def stEv (at0 : Int) (t : Tol) : Evn := ⟨at0, t.texts.getD 2 [], t.texts.getD 3 [], 2, []⟩
def stE (vm : Mp (List UInt8)) (sm : Mp Bool) (s : Off) (at0 : Int) (t : Tol) : Int :=
 if hirE (stHi at0 t) ≠ 0 then hirE (stHi at0 t) else firstE [if s.his.has (t.texts.getD 0 []) then 6 else 0, if (!vm.has (t.texts.getD 2 []) || !sm.val (t.texts.getD 3 [])) then 8 else 0, canE s (stEv at0 t), 0]
def stS (vm : Mp (List UInt8)) (sm : Mp Bool) (s : Off) (at0 : Int) (t : Tol) : Off := if stE vm sm s at0 t = 0 then { sayS s (stEv at0 t) with his := s.his.put (t.texts.getD 0 []) (some (stHi at0 t)), bks := s.bks.del (t.texts.getD 0 []) bk0 } else s
set_option maxHeartbeats 4000000 in
theorem wSt (h : Hou) (vm : Mp (List UInt8)) (sm : Mp Bool) (s : Off) (hl : s.log.length ≤ 2^20) (at0 : Int) (t : Tol) (h1 : 4 ≤ t.texts.length) (h2 : 3 ≤ t.nums.length) (h3 : ∀ j, (t.texts.getD j []).length ≤ 2^40) (hf : few s.his.has) :
 FSpec Tryz.prog 153 [.ptr 1000001 0, .d (.int .i64 at0), .agg ((tolF t).map .d)] (offR h vm sm s) (fun y r => y = .d (.int .i64 (stE vm sm s at0 t)) ∧ r = offO h vm sm (stS vm sm s at0 t)) := by
 have c1 := wStart (t.texts.getD 0 []) (t.texts.getD 1 []) at0 (t.nums.getD 0 0) (t.texts.getD 2 []) ⟨at0, t.texts.getD 3 [], t.nums.getD 1 0, t.nums.getD 2 0⟩ (h3 0) (h3 1) (h3 2) (h3 3); have c2 := wCanB h vm sm s (stEv at0 t); have c3 := wSay h vm sm s (stEv at0 t) hl
 change FSpec _ _ _ _ (fun y r => y = .tup [.agg ((hiF (if hirE (stHi at0 t) = 0 then stHi at0 t else hi0)).map .d), .d (.int .i64 (hirE (stHi at0 t)))] ∧ r = []) at c1
 have hE : stE vm sm s at0 t = if hirE (stHi at0 t) ≠ 0 then hirE (stHi at0 t) else firstE [if s.his.has (t.texts.getD 0 []) then 6 else 0, if (!vm.has (t.texts.getD 2 []) || !sm.val (t.texts.getD 3 [])) then 8 else 0, canE s (stEv at0 t), 0] := rfl; generalize canE s (stEv at0 t) = C at c2 hE; have hcn : ∀ clock kb, KB [.str] (fun K => s.his.has (keyE K)) clock kb → kb.length < 500 := fun clock kb hk => hf.kb hk
 by_cases q : hirE (stHi at0 t) = 0
 · rw [if_pos q, q] at c1; rw [if_neg (fun c => c q)] at hE; rcases hv : s.his.val (t.texts.getD 0 []) with _ | g
   · skip
     refine spec_of hT (C := []) Tryz.func153 rfl Tryz.call153 rfl rfl rfl ?_; conv => whnf
     repeat' (first | (refine RegX.cnt (id := 8) 1000008 rfl ?_; intro clock kb hKB; have hk5 := hcn clock kb hKB; have hk6 : ¬ (500 : Int) ≤ (kb.length : Int) := (by omega); conv => whnf) | (refine CallX.exact (c1) rfl rfl ?_; rotate_right; conv => whnf) | ((first | refine CallX.look (c2 clock kb) rq1 rfl ⟨lr, lr, trivial⟩ ⟨⟨_, rfl, rfl⟩, ⟨_, rfl, rfl⟩, ⟨_, rfl, rfl⟩, ⟨_, rfl, rfl⟩, ⟨_, rfl, rfl⟩, ⟨_, rfl, rfl⟩, ⟨_, rfl, rfl⟩, ⟨_, rfl, rfl⟩, ⟨_, rfl, rfl⟩, ⟨_, rfl, rfl⟩, trivial⟩ rfl rfl rfl ?_ | (refine CallX.of (c3) rq2 rfl ⟨lr, lr, trivial⟩ ⟨rr, rr, rr, rr, rr, rr, rr, Res.le_mapB fun _ _ => ⟨rfl, rfl⟩, rr, rr, trivial⟩ rfl rfl ?_; rintro y rout ⟨rfl, rfl⟩; refine ⟨rfl, ?_⟩)) <;> conv => whnf) | (refine CallX.exact (s107 _ _) rfl rfl ?_; rotate_right; conv => whnf) | ((first | (refine And.intro (rfl : zrow _ = some (hiO none)) ?_; refine rowSV_eq (row' := hiO none) (congrArg hiO hv) ?_) | refine And.intro (rfl : zrow _ = some (ssF ss0)) ?_ | refine And.intro (rfl : zrow _ = some [.bool false]) ?_ | refine And.intro (rfl : zrow _ = some (sF1 [])) ?_ | refine And.intro (rfl : zrow _ = some [.str []]) ?_ | refine And.intro (rfl : zrow _ = some (bkF bk0)) ?_ | refine And.intro (rfl : zrow _ = some (hiO none)) ?_ | refine And.intro (rfl : zrow _ = some [.int .i64 0]) ?_ | refine CallX.pure (s105 [_, _, _, _] (by simp)) ⟨SV.le_lit (by rfl) (by rfl), trivial⟩ rfl ?_ | (refine br_intro ?_ ?_ <;> intro hb <;> try simp only [brs] at hb) | refine rAx hT 1 oQOfE153_1 ?_ | refine rAx hT 2 oQOfE153_2 ?_ | refine rAx hT 8 oQOfE153_8 ?_ | refine rAx hT 12 oQOfE153_12 ?_ | omega | refine sAx ?_ | decide | assumption) <;> conv => whnf))
     all_goals first
      | (have hS : stS vm sm s at0 t = (s) := by
          (try clear hKB); clear c1 c2 c3 hcn hf h3; (try clear hv)
          unfold stS; rw [hE]
          (try simp only [keyE, show Int.toNat 0 = 0 from rfl, show Int.toNat 1 = 1 from rfl, show Int.toNat 2 = 2 from rfl, show Int.toNat 3 = 3 from rfl] at *); first | (simp_all [firstE]; done) | (simp_all [firstE]; grind) | grind [firstE]
         rw [hS]; refine .ent _ _ (Entails.mk' (ts := [(6, .d (.int .i64 (stE vm sm s at0 t)))]) (rs := offO h vm sm (s)) rq3 rfl rfl ⟨SV.le_int (by (try clear hKB); clear c1 c2 c3 hcn hf h3; (try clear hv); first | (rw [hE]; done) | (rw [hE]; (try simp only [keyE, show Int.toNat 0 = 0 from rfl, show Int.toNat 1 = 1 from rfl, show Int.toNat 2 = 2 from rfl, show Int.toNat 3 = 3 from rfl] at *); first | (simp_all [firstE]; done) | (simp_all [firstE]; grind) | grind [firstE])), trivial⟩ ⟨rr, rr, rr, rr, rr, rr, rr, Res.le_mapB fun _ _ => ⟨rfl, rfl⟩, rr, rr, trivial⟩) ?_; refine .ret _ ?_; conv => whnf
         exact ⟨_, ⟨rfl, rfl⟩, rr, rr, rr, rr, rr, rr, rr, rr, rr, rr, trivial⟩)
      | (have hS : stS vm sm s at0 t = ({ sayS s (stEv at0 t) with his := s.his.put (t.texts.getD 0 []) (some (stHi at0 t)), bks := s.bks.del (t.texts.getD 0 []) bk0 }) := by
          (try clear hKB); clear c1 c2 c3 hcn hf h3; (try clear hv)
          unfold stS; rw [hE]
          (try simp only [keyE, show Int.toNat 0 = 0 from rfl, show Int.toNat 1 = 1 from rfl, show Int.toNat 2 = 2 from rfl, show Int.toNat 3 = 3 from rfl] at *); first | (simp_all [firstE]; done) | (simp_all [firstE]; grind) | grind [firstE]
         rw [hS]; refine .ent _ _ (Entails.mk' (ts := [(6, .d (.int .i64 (stE vm sm s at0 t)))]) (rs := offO h vm sm ({ sayS s (stEv at0 t) with his := s.his.put (t.texts.getD 0 []) (some (stHi at0 t)), bks := s.bks.del (t.texts.getD 0 []) bk0 })) rq4 rfl rfl ⟨SV.le_int (by (try clear hKB); clear c1 c2 c3 hcn hf h3; (try clear hv); first | (rw [hE]; done) | (rw [hE]; (try simp only [keyE, show Int.toNat 0 = 0 from rfl, show Int.toNat 1 = 1 from rfl, show Int.toNat 2 = 2 from rfl, show Int.toNat 3 = 3 from rfl] at *); first | (simp_all [firstE]; done) | (simp_all [firstE]; grind) | grind [firstE])), trivial⟩ ⟨rr, rr, rr, rr, rr, rr, mpS_del, mpS_put (v := some (stHi at0 t)), rr, rr, trivial⟩) ?_; refine .ret _ ?_; conv => whnf
         exact ⟨_, ⟨rfl, rfl⟩, rr, rr, rr, rr, rr, rr, rr, rr, rr, rr, trivial⟩)
   · skip
     refine spec_of hT (C := []) Tryz.func153 rfl Tryz.call153 rfl rfl rfl ?_; conv => whnf
     repeat' (first | (refine RegX.cnt (id := 8) 1000008 rfl ?_; intro clock kb hKB; have hk5 := hcn clock kb hKB; have hk6 : ¬ (500 : Int) ≤ (kb.length : Int) := (by omega); conv => whnf) | (refine CallX.exact (c1) rfl rfl ?_; rotate_right; conv => whnf) | ((first | refine CallX.look (c2 clock kb) rq1 rfl ⟨lr, lr, trivial⟩ ⟨⟨_, rfl, rfl⟩, ⟨_, rfl, rfl⟩, ⟨_, rfl, rfl⟩, ⟨_, rfl, rfl⟩, ⟨_, rfl, rfl⟩, ⟨_, rfl, rfl⟩, ⟨_, rfl, rfl⟩, ⟨_, rfl, rfl⟩, ⟨_, rfl, rfl⟩, ⟨_, rfl, rfl⟩, trivial⟩ rfl rfl rfl ?_ | (refine CallX.of (c3) rq2 rfl ⟨lr, lr, trivial⟩ ⟨rr, rr, rr, rr, rr, rr, rr, Res.le_mapB fun _ _ => ⟨rfl, rfl⟩, rr, rr, trivial⟩ rfl rfl ?_; rintro y rout ⟨rfl, rfl⟩; refine ⟨rfl, ?_⟩)) <;> conv => whnf) | (refine CallX.exact (s107 _ _) rfl rfl ?_; rotate_right; conv => whnf) | ((first | (refine And.intro (rfl : zrow _ = some (hiO none)) ?_; refine rowSV_eq (row' := hiF g) (congrArg hiO hv) ?_) | refine And.intro (rfl : zrow _ = some (ssF ss0)) ?_ | refine And.intro (rfl : zrow _ = some [.bool false]) ?_ | refine And.intro (rfl : zrow _ = some (sF1 [])) ?_ | refine And.intro (rfl : zrow _ = some [.str []]) ?_ | refine And.intro (rfl : zrow _ = some (bkF bk0)) ?_ | refine And.intro (rfl : zrow _ = some (hiO none)) ?_ | refine And.intro (rfl : zrow _ = some [.int .i64 0]) ?_ | refine CallX.pure (s105 [_, _, _, _] (by simp)) ⟨SV.le_lit (by rfl) (by rfl), trivial⟩ rfl ?_ | (refine br_intro ?_ ?_ <;> intro hb <;> try simp only [brs] at hb) | refine rAx hT 1 oQOfE153_1 ?_ | refine rAx hT 2 oQOfE153_2 ?_ | refine rAx hT 8 oQOfE153_8 ?_ | refine rAx hT 12 oQOfE153_12 ?_ | omega | refine sAx ?_ | decide | assumption) <;> conv => whnf))
     all_goals first
      | (have hS : stS vm sm s at0 t = (s) := by
          (try clear hKB); clear c1 c2 c3 hcn hf h3; (try clear hv)
          unfold stS; rw [hE]
          (try simp only [keyE, show Int.toNat 0 = 0 from rfl, show Int.toNat 1 = 1 from rfl, show Int.toNat 2 = 2 from rfl, show Int.toNat 3 = 3 from rfl] at *); first | (simp_all [firstE]; done) | (simp_all [firstE]; grind) | grind [firstE]
         rw [hS]; refine .ent _ _ (Entails.mk' (ts := [(6, .d (.int .i64 (stE vm sm s at0 t)))]) (rs := offO h vm sm (s)) rq3 rfl rfl ⟨SV.le_int (by (try clear hKB); clear c1 c2 c3 hcn hf h3; (try clear hv); first | (rw [hE]; done) | (rw [hE]; (try simp only [keyE, show Int.toNat 0 = 0 from rfl, show Int.toNat 1 = 1 from rfl, show Int.toNat 2 = 2 from rfl, show Int.toNat 3 = 3 from rfl] at *); first | (simp_all [firstE]; done) | (simp_all [firstE]; grind) | grind [firstE])), trivial⟩ ⟨rr, rr, rr, rr, rr, rr, rr, Res.le_mapB fun _ _ => ⟨rfl, rfl⟩, rr, rr, trivial⟩) ?_; refine .ret _ ?_; conv => whnf
         exact ⟨_, ⟨rfl, rfl⟩, rr, rr, rr, rr, rr, rr, rr, rr, rr, rr, trivial⟩)
      | (have hS : stS vm sm s at0 t = ({ sayS s (stEv at0 t) with his := s.his.put (t.texts.getD 0 []) (some (stHi at0 t)), bks := s.bks.del (t.texts.getD 0 []) bk0 }) := by
          (try clear hKB); clear c1 c2 c3 hcn hf h3; (try clear hv)
          unfold stS; rw [hE]
          (try simp only [keyE, show Int.toNat 0 = 0 from rfl, show Int.toNat 1 = 1 from rfl, show Int.toNat 2 = 2 from rfl, show Int.toNat 3 = 3 from rfl] at *); first | (simp_all [firstE]; done) | (simp_all [firstE]; grind) | grind [firstE]
         rw [hS]; refine .ent _ _ (Entails.mk' (ts := [(6, .d (.int .i64 (stE vm sm s at0 t)))]) (rs := offO h vm sm ({ sayS s (stEv at0 t) with his := s.his.put (t.texts.getD 0 []) (some (stHi at0 t)), bks := s.bks.del (t.texts.getD 0 []) bk0 })) rq4 rfl rfl ⟨SV.le_int (by (try clear hKB); clear c1 c2 c3 hcn hf h3; (try clear hv); first | (rw [hE]; done) | (rw [hE]; (try simp only [keyE, show Int.toNat 0 = 0 from rfl, show Int.toNat 1 = 1 from rfl, show Int.toNat 2 = 2 from rfl, show Int.toNat 3 = 3 from rfl] at *); first | (simp_all [firstE]; done) | (simp_all [firstE]; grind) | grind [firstE])), trivial⟩ ⟨rr, rr, rr, rr, rr, rr, mpS_del, mpS_put (v := some (stHi at0 t)), rr, rr, trivial⟩) ?_; refine .ret _ ?_; conv => whnf
         exact ⟨_, ⟨rfl, rfl⟩, rr, rr, rr, rr, rr, rr, rr, rr, rr, rr, trivial⟩)
 · rw [if_neg q] at c1; rw [if_pos q] at hE; generalize hirE (stHi at0 t) = X at c1 hE q; refine spec_of hT (C := []) Tryz.func153 rfl Tryz.call153 rfl rfl rfl ?_; conv => whnf
   repeat' (first | (refine CallX.exact (c1) rfl rfl ?_; rotate_right; conv => whnf) | ((first | (refine br_intro ?_ ?_ <;> intro hb <;> try simp only [brs] at hb) | refine rAx hT 1 oQOfE153_1 ?_ | refine rAx hT 2 oQOfE153_2 ?_ | refine rAx hT 8 oQOfE153_8 ?_ | refine rAx hT 12 oQOfE153_12 ?_ | omega | refine sAx ?_ | decide | assumption) <;> conv => whnf))
   all_goals first
    | (exfalso; omega)
    | (have hS : stS vm sm s at0 t = (s) := by
        (try clear hKB); clear c1 c2 c3 hcn hf h3; (try clear hv)
        unfold stS; rw [hE]
        (try simp only [keyE, show Int.toNat 0 = 0 from rfl, show Int.toNat 1 = 1 from rfl, show Int.toNat 2 = 2 from rfl, show Int.toNat 3 = 3 from rfl] at *); first | (simp_all [firstE]; done) | (simp_all [firstE]; grind) | grind [firstE]
       rw [hS]; refine .ent _ _ (Entails.mk' (ts := [(6, .d (.int .i64 (stE vm sm s at0 t)))]) (rs := offO h vm sm (s)) rq3 rfl rfl ⟨SV.le_int (by (try clear hKB); clear c1 c2 c3 hcn hf h3; (try clear hv); first | (rw [hE]; done) | (rw [hE]; (try simp only [keyE, show Int.toNat 0 = 0 from rfl, show Int.toNat 1 = 1 from rfl, show Int.toNat 2 = 2 from rfl, show Int.toNat 3 = 3 from rfl] at *); first | (simp_all [firstE]; done) | (simp_all [firstE]; grind) | grind [firstE])), trivial⟩ ⟨rr, rr, rr, rr, rr, rr, rr, rr, rr, rr, trivial⟩) ?_; refine .ret _ ?_; conv => whnf
       exact ⟨_, ⟨rfl, rfl⟩, rr, rr, rr, rr, rr, rr, rr, rr, rr, rr, trivial⟩)
def oQOfF155_19 : OL := [(0, []), (1, [0]), (2, [0]), (3, [0]), (4, [0]), (5, []), (6, []), (7, []), (8, [7]), (9, [8]), (10, [])]
def oQOfF155_22 : OL := [(0, []), (1, [0]), (2, [0, 1]), (3, [0, 1, 2]), (4, [0, 1, 2]), (5, [0, 1, 2]), (6, [0, 1, 2]), (7, rg 7), (8, rg 7), (9, rg 7), (10, rg 7), (11, [0]), (12, []), (13, []), (14, []), (15, [14]), (16, [15]), (17, [])]
def oQOfF155_11 : OL := [(0, []), (1, []), (2, []), (3, []), (4, rg 4), (5, rg 4), (6, rg 4), (7, rg 4), (8, [4, 5, 6, 7]), (9, [])]
def oQOfF155_12 : OL := [(0, []), (1, [0]), (2, [0, 1]), (3, [0, 1]), (4, [0, 1]), (5, [0, 1]), (6, rg 6), (7, rg 6), (8, rg 6), (9, rg 6), (10, []), (11, rg 11), (12, [])]
def oQOfF155_13 : OL := [(0, []), (1, [0]), (2, [0, 1]), (3, [0, 1]), (4, [0, 1]), (5, [0, 1]), (6, rg 6), (7, rg 6), (8, rg 6), (9, rg 6), (10, []), (11, rg 11), (12, [])]
def oQOfF155_40 : OL := [(0, []), (1, []), (2, []), (3, []), (4, rg 4), (5, rg 5), (6, [])]
def oldV (g : Hir) : List UInt8 := (g.legs.getD ((g.legs.length : Int) - 1).toNat lg0).veh
def chIn (at0 : Int) (t : Tol) : Rdg := ⟨at0, (t.texts.getD 1 []), (t.nums.getD 0 0), (t.nums.getD 1 0)⟩
def chOut (at0 : Int) (t : Tol) : Rdg := ⟨at0, (t.texts.getD 1 []), (t.nums.getD 2 0), (t.nums.getD 3 0)⟩
def chNext (g : Hir) (at0 : Int) (t : Tol) : Hir := if t.word = [101, 120, 116, 101, 110, 100] then xtH g (t.nums.getD 0 0) else if t.word = [99, 108, 111, 115, 101] then clH g (chIn at0 t) else exH g (chIn at0 t) (t.texts.getD 2 []) (chOut at0 t)
def chEvs (g : Hir) (at0 : Int) (t : Tol) : List Evn := if t.word = [101, 120, 116, 101, 110, 100] then [] else if t.word = [99, 108, 111, 115, 101] then [⟨at0, oldV g, (t.texts.getD 1 []), 3, []⟩] else [⟨at0, oldV g, (t.texts.getD 1 []), 3, []⟩, ⟨at0, (t.texts.getD 2 []), (t.texts.getD 1 []), 2, []⟩]
def chKn (vm : Mp (List UInt8)) (sm : Mp Bool) (t : Tol) : Bool := if t.word = [101, 120, 116, 101, 110, 100] then true else if t.word = [99, 108, 111, 115, 101] then sm.val (t.texts.getD 1 []) else (sm.val (t.texts.getD 1 []) && vm.has (t.texts.getD 2 []))
def canL (s : Off) (l : List Evn) : Int := firstAt (fun i => canE s (l.getD i ev0)) l.length
def sayL (s : Off) (l : List Evn) : Off := l.foldl sayS s
def chG (vm : Mp (List UInt8)) (sm : Mp Bool) (s : Off) (g : Hir) (at0 : Int) (t : Tol) : Int :=
 if firstE [mdE g (chNext g at0 t), if (!chKn vm sm t) then 8 else 0] ≠ 0 then firstE [mdE g (chNext g at0 t), if (!chKn vm sm t) then 8 else 0] else canL s (chEvs g at0 t)
def chE (vm : Mp (List UInt8)) (sm : Mp Bool) (s : Off) (at0 : Int) (t : Tol) : Int := if s.his.has (t.texts.getD 0 []) then chG vm sm s ((s.his.val (t.texts.getD 0 [])).getD hi0) at0 t else 8
def chS (vm : Mp (List UInt8)) (sm : Mp Bool) (s : Off) (at0 : Int) (t : Tol) : Off :=
 if chE vm sm s at0 t = 0 then { sayL s (chEvs ((s.his.val (t.texts.getD 0 [])).getD hi0) at0 t) with his := (sayL s (chEvs ((s.his.val (t.texts.getD 0 [])).getD hi0) at0 t)).his.put (t.texts.getD 0 []) (some (chNext ((s.his.val (t.texts.getD 0 [])).getD hi0) at0 t)) } else s
theorem sayL_log (s : Off) (l : List Evn) : (sayL s l).log = s.log ++ l := by
 unfold sayL
 induction l generalizing s with
 | nil => simp
 | cons x l ih => rw [List.foldl_cons, ih]; simp [sayS]
theorem sayL_take (s : Off) (l : List Evn) (i : Nat) (hi : i < l.length) : sayL s (l.take (i + 1)) = sayS (sayL s (l.take i)) (l.getD i ev0) := by
 unfold sayL; rw [List.take_add_one, List.getElem?_eq_getElem hi, Option.toList_some, List.foldl_append, List.getD_eq_getElem?_getD, List.getElem?_eq_getElem hi]; rfl
abbrev offC60 (h : Hou) : Res := .cells 114 (houC h ++ [.mp 1000002, .mp 1000003, .mp 1000004, .buf 60, .mp 1000006, .mp 1000007, .mp 1000008, .mp 1000010, .buf 1000011])
set_option maxHeartbeats 8000000 in
theorem wChange (h : Hou) (vm : Mp (List UInt8)) (sm : Mp Bool) (s : Off) (hl : s.log.length ≤ 2^19) (at0 : Int) (t : Tol) (h1 : 1 ≤ t.texts.length) (hx : t.word = [101, 120, 116, 101, 110, 100] → 1 ≤ t.nums.length) (hc : t.word = [99, 108, 111, 115, 101] → 2 ≤ t.texts.length ∧ 2 ≤ t.nums.length)
 (hs : t.word ≠ [101, 120, 116, 101, 110, 100] → t.word ≠ [99, 108, 111, 115, 101] → 3 ≤ t.texts.length ∧ 4 ≤ t.nums.length) (h3 : ∀ j, (t.texts.getD j []).length ≤ 2^40) (g : Hir) (hh : s.his.has (t.texts.getD 0 []) = true) (hv : s.his.val (t.texts.getD 0 []) = some g) (hg : hiL g) (hg1 : 1 ≤ g.legs.length) (hg2 : g.legs.length < 2^19) :
 FSpec Tryz.prog 155 [.ptr 1000001 0, .d (.int .i64 at0), .agg ((tolF t).map .d)] (offR h vm sm s) (fun y r => y = .d (.int .i64 (chE vm sm s at0 t)) ∧ r = offO h vm sm (chS vm sm s at0 t)) := by
 have cX := wExt g hg (t.nums.getD 0 0); have cC := wCls g hg (chIn at0 t) (h3 1); have cE := wExc g hg hg2 (chIn at0 t) (h3 1) (t.texts.getD 2 []) (h3 2) (chOut at0 t) (h3 1)
 by_cases w1 : t.word = [101, 120, 116, 101, 110, 100]
 · skip
   have hN : chNext g at0 t = xtH g (t.nums.getD 0 0) := by unfold chNext; rw [if_pos w1]
   have hEv : chEvs g at0 t = [] := by unfold chEvs; rw [if_pos w1]
   have hKn : chKn vm sm t = true := by unfold chKn; rw [if_pos w1]
   have hx1 := hx w1
   by_cases hm : mdE g (xtH g (t.nums.getD 0 0)) = 0
   · have hH : mdH g (xtH g (t.nums.getD 0 0)) = xtH g (t.nums.getD 0 0) := if_pos hm; rw [hH, hm] at cX; obtain ⟨N, hNe⟩ : ∃ N, N = xtH g (t.nums.getD 0 0) := ⟨_, rfl⟩; rw [← hNe] at cX; obtain ⟨EV, hEVe⟩ : ∃ EV, EV = ([] : List Evn) := ⟨_, rfl⟩; have hEl : EV.length ≤ 2 := by rw [hEVe]; simp
     have hG0 : chKn vm sm t = true → chE vm sm s at0 t = canL s EV := fun kk => by
      unfold chE chG; rw [if_pos hh, hv]; show (if firstE [mdE g (chNext g at0 t), if (!chKn vm sm t) = true then 8 else 0] ≠ 0 then firstE [mdE g (chNext g at0 t), if (!chKn vm sm t) = true then 8 else 0] else canL s (chEvs g at0 t)) = _; rw [hN, hm, kk, hEv, ← hEVe]; rw [if_neg (by simp [firstE])]
     refine spec_of hT (C := []) Tryz.func155 rfl Tryz.call155 rfl rfl rfl ?_; conv => whnf
     repeat' (first | ((first | refine pAx cX ?_ | refine pAx cC ?_ | refine pAx cE ?_) <;> conv => whnf) | (refine CallX.exact (s107 _ _) rfl rfl ?_; rotate_right; conv => whnf) | ((first | (refine And.intro (rfl : zrow _ = some (hiO none)) ?_; refine rowSV_eq (row' := hiF g) (congrArg hiO hv) ?_) | refine And.intro (rfl : zrow _ = some (ssF ss0)) ?_ | refine And.intro (rfl : zrow _ = some [.bool false]) ?_ | refine And.intro (rfl : zrow _ = some (sF1 [])) ?_ | refine And.intro (rfl : zrow _ = some [.str []]) ?_ | refine And.intro (rfl : zrow _ = some (bkF bk0)) ?_ | refine And.intro (rfl : zrow _ = some (hiO none)) ?_ | refine And.intro (rfl : zrow _ = some [.int .i64 0]) ?_ | refine CallX.pure (s105 [_, _] (by simp)) ⟨SV.le_lit (by rfl) (by rfl), trivial⟩ rfl ?_ | (refine br_intro ?_ ?_ <;> intro hb <;> try simp only [brs] at hb) | refine rAx hT 19 oQOfF155_19 ?_ | refine rAx hT 22 oQOfF155_22 ?_ | refine rAx hT 11 oQOfF155_11 ?_ | refine rAx hT 12 oQOfF155_12 ?_ | refine rAx hT 13 oQOfF155_13 ?_ | refine rAx hT 40 oQOfF155_40 ?_ | omega | refine sAx ?_ | decide | assumption) <;> conv => whnf))
     all_goals try (exfalso; contradiction)
     all_goals first
      | (exfalso; have q : s.his.has (t.texts.getD 0 []) = false := hb; rw [hh] at q; cases q)
      | (exfalso; clear cX cC cE; apply hb; simp [firstE]; done)
      | (have hkf : (true) = false := by
          clear cX cC cE
          cases kq : (true) with
          | false => rfl
          | true =>
            exfalso; trivial
         have hE1 : chE vm sm s at0 t = 8 := by
          unfold chE chG; rw [if_pos hh, hv]; show (if firstE [mdE g (chNext g at0 t), if (!chKn vm sm t) = true then 8 else 0] ≠ 0 then firstE [mdE g (chNext g at0 t), if (!chKn vm sm t) = true then 8 else 0] else canL s (chEvs g at0 t)) = _; rw [hN, hm, hKn, hkf]; simp [firstE]
         have hS1 : chS vm sm s at0 t = s := by unfold chS; rw [if_neg (by rw [hE1]; decide)]
         rw [hE1, hS1]; refine .ent _ _ (Entails.mk' (ts := [(6, .d (.int .i64 8))]) (rs := offO h vm sm s) rq3 rfl rfl ⟨SV.le_int (by clear cX cC cE; rfl), trivial⟩ ⟨rr, rr, rr, rr, rr, rr, rr, rr, rr, rr, trivial⟩) ?_; refine .ret _ ?_; conv => whnf
         exact ⟨_, ⟨rfl, rfl⟩, rr, rr, rr, rr, rr, rr, rr, rr, rr, rr, trivial⟩)
      | skip
     have hG := hG0 (hKn.trans rfl)
     refine LoopX.rule hT (C := []) (ι := Nat) (fun i => i ≤ EV.length ∧ ∀ j, j < i → canE s (EV.getD j ev0) = 0)
      (fun i => mkSt [(0, .ptr 1000001 0), (7, .d (.str (t.texts.getD 0 []))), (10, .ptr 10 0), (12, .d (evns EV)), (172, .d (evns EV)), (173, .d (.int .i64 EV.length)), (174, .d (.int .i64 i))] ((10, .cells 146 ((hiF N).map .d)) :: offR h vm sm s))
      (fun i => EV.length - i) 0 ⟨by omega, fun j hj => by omega⟩ ?_ ?_
     · refine Entails.mk' rq5 rfl rfl ⟨lr, lr, lr, (by subst hEVe; exact SV.le_nilS), (by subst hEVe; exact SV.le_nilS), (by subst hEVe; exact lr), lr, trivial⟩ ⟨rr, rr, rr, rr, rr, rr, rr, rr, rr, rr, rr, trivial⟩
     rintro i ⟨p1, p2⟩; have e1 : (i : Int).toNat = i := Int.toNat_natCast i; conv => whnf
     repeat' (first | ((first | (refine oAx (wCan h vm sm s (EV.getD (i : Int).toNat ev0)) rq1 ?_; rintro y rout ⟨rfl, rfl⟩; refine ⟨rfl, ?_⟩) | (refine And.intro (by unfold inI64; omega) ?_) | (refine br_intro ?_ ?_ <;> intro hb <;> try simp only [brs] at hb) | refine rAx hT 19 oQOfF155_19 ?_ | refine rAx hT 22 oQOfF155_22 ?_ | refine rAx hT 11 oQOfF155_11 ?_ | refine rAx hT 12 oQOfF155_12 ?_ | refine rAx hT 13 oQOfF155_13 ?_ | refine rAx hT 40 oQOfF155_40 ?_ | omega | refine sAx ?_ | decide | assumption) <;> conv => whnf))
     all_goals first
      | (exact ⟨i + 1, ⟨by omega, first_step p2 (by first | exact hb | simpa using hb)⟩, by omega, Entails.mk' rq5 rfl rfl ⟨lr, lr, lr, lr, lr, lr, lr, trivial⟩ ⟨rr, rr, rr, rr, rr, rr, rr, rr, rr, rr, rr, trivial⟩⟩)
      | (have hE1 : chE vm sm s at0 t = canE s (EV.getD i ev0) := hG.trans (firstAt_eq (f := fun i => canE s (EV.getD i ev0)) (by omega) p2 hb rfl)
         have hS1 : chS vm sm s at0 t = s := by unfold chS; rw [if_neg (by rw [hE1]; exact hb)]
         rw [hE1, hS1]; refine .ent _ _ (Entails.mk' (ts := [(6, .d (.int .i64 (canE s (EV.getD i ev0))))]) (rs := offO h vm sm s) rq3 rfl rfl ⟨lr, trivial⟩ ⟨rr, rr, rr, rr, rr, rr, rr, rr, rr, rr, trivial⟩) ?_; refine .ret _ ?_; conv => whnf
         exact ⟨_, ⟨rfl, rfl⟩, rr, rr, rr, rr, rr, rr, rr, rr, rr, rr, trivial⟩)
      | skip
     have hz : canL s EV = 0 := firstAt_zero fun j hj => p2 j (by omega)
     have hE0 : chE vm sm s at0 t = 0 := hG.trans hz
     have hS0 : chS vm sm s at0 t = { sayL s EV with his := (sayL s EV).his.put (t.texts.getD 0 []) (some N) } := by
      unfold chS; rw [if_pos hE0, hv]; show ({ sayL s (chEvs g at0 t) with his := (sayL s (chEvs g at0 t)).his.put (t.texts.getD 0 []) (some (chNext g at0 t)) } : Off) = _; rw [hEv, hN, ← hEVe, ← hNe]
     rw [hE0, hS0]
     refine LoopX.rule hT (C := []) (ι := Nat) (fun i => i ≤ EV.length)
      (fun i => mkSt [(0, .ptr 1000001 0), (7, .d (.str (t.texts.getD 0 []))), (10, .ptr 10 0), (185, .d (evns EV)), (186, .d (.int .i64 EV.length)), (187, .d (.int .i64 i))] ((10, .cells 146 ((hiF N).map .d)) :: [(1000001, offC60 h), (1000002, mpS false [.str []] sF1 vm), (1000003, mpS false [.bool false] bF1 sm), (1000004, mpS true (ssF ss0) ssF (sayL s (EV.take i)).sts), (60, evB (sayL s (EV.take i)).log), (1000006, atM (sayL s (EV.take i)).ats), (1000007, mpS true (bkF bk0) bkF (sayL s (EV.take i)).bks), (1000008, mpS true (hiO none) hiO (sayL s (EV.take i)).his), (1000010, mpS false [.int .i64 0] iF1 (sayL s (EV.take i)).paid), (1000011, rfB (sayL s (EV.take i)).ref)]))
      (fun i => EV.length - i) 0 (by omega) ?_ ?_
     · refine Entails.mk' rq6 rfl rfl ⟨lr, lr, lr, lr, lr, lr, trivial⟩ ⟨rr, rr, rr, rr, rr, rr, rr, rr, rr, rr, rr, trivial⟩
     clear p1 p2 e1; rintro i p1; have e1 : (i : Int).toNat = i := Int.toNat_natCast i; conv => whnf
     repeat' (first | ((first | (refine oAx (wSay h vm sm (sayL s (EV.take i)) (EV.getD (i : Int).toNat ev0) (by rw [sayL_log, List.length_append, List.length_take]; omega)) rq7 ?_; rintro y rout ⟨rfl, rfl⟩; refine ⟨rfl, ?_⟩) | (refine And.intro (by unfold inI64; omega) ?_) | (refine br_intro ?_ ?_ <;> intro hb <;> try simp only [brs] at hb) | refine rAx hT 19 oQOfF155_19 ?_ | refine rAx hT 22 oQOfF155_22 ?_ | refine rAx hT 11 oQOfF155_11 ?_ | refine rAx hT 12 oQOfF155_12 ?_ | refine rAx hT 13 oQOfF155_13 ?_ | refine rAx hT 40 oQOfF155_40 ?_ | omega | refine sAx ?_ | decide | assumption) <;> conv => whnf))
     all_goals first
      | (refine ⟨i + 1, by omega, by omega, ?_⟩
         have hT := sayL_take s EV i (by omega)
         dsimp only
         rw [hT]
         exact Entails.mk' rq8 rfl rfl ⟨lr, lr, lr, lr, lr, lr, trivial⟩ ⟨rr, rr, rr, rr, rr, rr, rr, rr, rr, rr, rr, trivial⟩)
      | (have hi : EV.take i = EV := List.take_of_length_le (by omega)
         rw [hi]; refine .ent _ _ (Entails.mk' (ts := [(6, .d (.int .i64 0))]) (rs := offO h vm sm ({ sayL s EV with his := (sayL s EV).his.put (t.texts.getD 0 []) (some N) })) rq4 rfl rfl ⟨lr, trivial⟩ ⟨rr, rr, rr, rr, rr, rr, rr, mpS_put (v := some N), rr, rr, trivial⟩) ?_; refine .ret _ ?_; conv => whnf
         exact ⟨_, ⟨rfl, rfl⟩, rr, rr, rr, rr, rr, rr, rr, rr, rr, rr, trivial⟩)
   · have hH : mdH g (xtH g (t.nums.getD 0 0)) = hi0 := if_neg hm
     have hE1 : chE vm sm s at0 t = mdE g (xtH g (t.nums.getD 0 0)) := by
      unfold chE chG; rw [if_pos hh, hv]; show (if firstE [mdE g (chNext g at0 t), if (!chKn vm sm t) = true then 8 else 0] ≠ 0 then firstE [mdE g (chNext g at0 t), if (!chKn vm sm t) = true then 8 else 0] else canL s (chEvs g at0 t)) = _; rw [hN]; generalize mdE g (xtH g (t.nums.getD 0 0)) = X at hm ⊢; simp [firstE, hm]
     have hS1 : chS vm sm s at0 t = s := by unfold chS; rw [if_neg (by rw [hE1]; exact hm)]
     rw [hE1, hS1]; rw [hH] at cX; clear hE1 hS1 hH hN; generalize mdE g (xtH g (t.nums.getD 0 0)) = X at cX hm; refine spec_of hT (C := []) Tryz.func155 rfl Tryz.call155 rfl rfl rfl ?_; conv => whnf
     repeat' (first | ((first | refine pAx cX ?_ | refine pAx cC ?_ | refine pAx cE ?_) <;> conv => whnf) | (refine CallX.exact (s107 _ _) rfl rfl ?_; rotate_right; conv => whnf) | ((first | (refine And.intro (rfl : zrow _ = some (hiO none)) ?_; refine rowSV_eq (row' := hiF g) (congrArg hiO hv) ?_) | refine And.intro (rfl : zrow _ = some (ssF ss0)) ?_ | refine And.intro (rfl : zrow _ = some [.bool false]) ?_ | refine And.intro (rfl : zrow _ = some (sF1 [])) ?_ | refine And.intro (rfl : zrow _ = some [.str []]) ?_ | refine And.intro (rfl : zrow _ = some (bkF bk0)) ?_ | refine And.intro (rfl : zrow _ = some (hiO none)) ?_ | refine And.intro (rfl : zrow _ = some [.int .i64 0]) ?_ | refine CallX.pure (s105 [_, _] (by simp)) ⟨SV.le_lit (by rfl) (by rfl), trivial⟩ rfl ?_ | (refine br_intro ?_ ?_ <;> intro hb <;> try simp only [brs] at hb) | refine rAx hT 19 oQOfF155_19 ?_ | refine rAx hT 22 oQOfF155_22 ?_ | refine rAx hT 11 oQOfF155_11 ?_ | refine rAx hT 12 oQOfF155_12 ?_ | refine rAx hT 13 oQOfF155_13 ?_ | refine rAx hT 40 oQOfF155_40 ?_ | omega | refine sAx ?_ | decide | assumption) <;> conv => whnf))
     all_goals try (exfalso; contradiction)
     all_goals first
      | (exfalso; have q : s.his.has (t.texts.getD 0 []) = false := hb; rw [hh] at q; cases q)
      | (exfalso; clear cX cC cE; simp [firstE, hm] at hb; done)
      | (refine .ent _ _ (Entails.mk' (ts := [(6, .d (.int .i64 X))]) (rs := offO h vm sm s) rq3 rfl rfl ⟨SV.le_int (by simp [firstE, hm]), trivial⟩ ⟨rr, rr, rr, rr, rr, rr, rr, rr, rr, rr, trivial⟩) ?_
         refine .ret _ ?_; conv => whnf
         exact ⟨_, ⟨rfl, rfl⟩, rr, rr, rr, rr, rr, rr, rr, rr, rr, rr, trivial⟩)
 by_cases w2 : t.word = [99, 108, 111, 115, 101]
 · skip
   have hN : chNext g at0 t = clH g (chIn at0 t) := by unfold chNext; rw [if_neg w1, if_pos w2]
   have hEv : chEvs g at0 t = [⟨at0, oldV g, (t.texts.getD 1 []), 3, []⟩] := by unfold chEvs; rw [if_neg w1, if_pos w2]
   have hKn : chKn vm sm t = sm.val (t.texts.getD 1 []) := by unfold chKn; rw [if_neg w1, if_pos w2]
   obtain ⟨hc1, hc2⟩ := hc w2
   by_cases hm : mdE g (clH g (chIn at0 t)) = 0
   · have hH : mdH g (clH g (chIn at0 t)) = clH g (chIn at0 t) := if_pos hm; rw [hH, hm] at cC; obtain ⟨N, hNe⟩ : ∃ N, N = clH g (chIn at0 t) := ⟨_, rfl⟩; rw [← hNe] at cC; obtain ⟨EV, hEVe⟩ : ∃ EV, EV = ([⟨at0, oldV g, (t.texts.getD 1 []), 3, []⟩] : List Evn) := ⟨_, rfl⟩; have hEl : EV.length ≤ 2 := by rw [hEVe]; simp
     have hG0 : chKn vm sm t = true → chE vm sm s at0 t = canL s EV := fun kk => by
      unfold chE chG; rw [if_pos hh, hv]; show (if firstE [mdE g (chNext g at0 t), if (!chKn vm sm t) = true then 8 else 0] ≠ 0 then firstE [mdE g (chNext g at0 t), if (!chKn vm sm t) = true then 8 else 0] else canL s (chEvs g at0 t)) = _; rw [hN, hm, kk, hEv, ← hEVe]; rw [if_neg (by simp [firstE])]
     refine spec_of hT (C := []) Tryz.func155 rfl Tryz.call155 rfl rfl rfl ?_; conv => whnf
     repeat' (first | ((first | refine pAx cX ?_ | refine pAx cC ?_ | refine pAx cE ?_) <;> conv => whnf) | (refine CallX.exact (s107 _ _) rfl rfl ?_; rotate_right; conv => whnf) | ((first | (refine And.intro (rfl : zrow _ = some (hiO none)) ?_; refine rowSV_eq (row' := hiF g) (congrArg hiO hv) ?_) | refine And.intro (rfl : zrow _ = some (ssF ss0)) ?_ | refine And.intro (rfl : zrow _ = some [.bool false]) ?_ | refine And.intro (rfl : zrow _ = some (sF1 [])) ?_ | refine And.intro (rfl : zrow _ = some [.str []]) ?_ | refine And.intro (rfl : zrow _ = some (bkF bk0)) ?_ | refine And.intro (rfl : zrow _ = some (hiO none)) ?_ | refine And.intro (rfl : zrow _ = some [.int .i64 0]) ?_ | refine CallX.pure (s105 [_, _] (by simp)) ⟨SV.le_lit (by rfl) (by rfl), trivial⟩ rfl ?_ | (refine br_intro ?_ ?_ <;> intro hb <;> try simp only [brs] at hb) | refine rAx hT 19 oQOfF155_19 ?_ | refine rAx hT 22 oQOfF155_22 ?_ | refine rAx hT 11 oQOfF155_11 ?_ | refine rAx hT 12 oQOfF155_12 ?_ | refine rAx hT 13 oQOfF155_13 ?_ | refine rAx hT 40 oQOfF155_40 ?_ | omega | refine sAx ?_ | decide | assumption) <;> conv => whnf))
     all_goals try (exfalso; contradiction)
     all_goals first
      | (exfalso; have q : s.his.has (t.texts.getD 0 []) = false := hb; rw [hh] at q; cases q)
      | (exfalso; clear cX cC cE; apply hb; simp [firstE]; done)
      | (have hkf : (sm.val (t.texts.getD 1 [])) = false := by
          clear cX cC cE
          cases kq : (sm.val (t.texts.getD 1 [])) with
          | false => rfl
          | true =>
            exfalso; exact hb (by show firstE [0, if sm.val (t.texts.getD 1 []) = false then 8 else 0] = 0; rw [kq]; rfl)
         have hE1 : chE vm sm s at0 t = 8 := by
          unfold chE chG; rw [if_pos hh, hv]; show (if firstE [mdE g (chNext g at0 t), if (!chKn vm sm t) = true then 8 else 0] ≠ 0 then firstE [mdE g (chNext g at0 t), if (!chKn vm sm t) = true then 8 else 0] else canL s (chEvs g at0 t)) = _; rw [hN, hm, hKn, hkf]; simp [firstE]
         have hS1 : chS vm sm s at0 t = s := by unfold chS; rw [if_neg (by rw [hE1]; decide)]
         rw [hE1, hS1]; refine .ent _ _ (Entails.mk' (ts := [(6, .d (.int .i64 8))]) (rs := offO h vm sm s) rq3 rfl rfl ⟨SV.le_int (by clear cX cC cE; show firstE [0, if (!sm.val (t.texts.getD 1 [])) = true then 8 else 0] = 8; rw [hkf]; rfl), trivial⟩ ⟨rr, rr, rr, rr, rr, rr, rr, rr, rr, rr, trivial⟩) ?_; refine .ret _ ?_; conv => whnf
         exact ⟨_, ⟨rfl, rfl⟩, rr, rr, rr, rr, rr, rr, rr, rr, rr, rr, trivial⟩)
      | skip
     have hG := hG0 (hKn.trans (by cases kq : sm.val (t.texts.getD 1 []) with | true => rfl | false => exact absurd (show firstE [0, if sm.val (t.texts.getD 1 []) = false then 8 else 0] = 0 from hb) (by rw [kq]; decide)))
     refine LoopX.rule hT (C := []) (ι := Nat) (fun i => i ≤ EV.length ∧ ∀ j, j < i → canE s (EV.getD j ev0) = 0)
      (fun i => mkSt [(0, .ptr 1000001 0), (7, .d (.str (t.texts.getD 0 []))), (10, .ptr 10 0), (12, .d (evns EV)), (172, .d (evns EV)), (173, .d (.int .i64 EV.length)), (174, .d (.int .i64 i))] ((10, .cells 146 ((hiF N).map .d)) :: offR h vm sm s))
      (fun i => EV.length - i) 0 ⟨by omega, fun j hj => by omega⟩ ?_ ?_
     · refine Entails.mk' rq5 rfl rfl ⟨lr, lr, lr, (by subst hEVe; exact SV.le_lit rfl rfl), (by subst hEVe; exact SV.le_lit rfl rfl), (by subst hEVe; exact lr), lr, trivial⟩ ⟨rr, rr, rr, rr, rr, rr, rr, rr, rr, rr, rr, trivial⟩
     rintro i ⟨p1, p2⟩; have e1 : (i : Int).toNat = i := Int.toNat_natCast i; conv => whnf
     repeat' (first | ((first | (refine oAx (wCan h vm sm s (EV.getD (i : Int).toNat ev0)) rq1 ?_; rintro y rout ⟨rfl, rfl⟩; refine ⟨rfl, ?_⟩) | (refine And.intro (by unfold inI64; omega) ?_) | (refine br_intro ?_ ?_ <;> intro hb <;> try simp only [brs] at hb) | refine rAx hT 19 oQOfF155_19 ?_ | refine rAx hT 22 oQOfF155_22 ?_ | refine rAx hT 11 oQOfF155_11 ?_ | refine rAx hT 12 oQOfF155_12 ?_ | refine rAx hT 13 oQOfF155_13 ?_ | refine rAx hT 40 oQOfF155_40 ?_ | omega | refine sAx ?_ | decide | assumption) <;> conv => whnf))
     all_goals first
      | (exact ⟨i + 1, ⟨by omega, first_step p2 (by first | exact hb | simpa using hb)⟩, by omega, Entails.mk' rq5 rfl rfl ⟨lr, lr, lr, lr, lr, lr, lr, trivial⟩ ⟨rr, rr, rr, rr, rr, rr, rr, rr, rr, rr, rr, trivial⟩⟩)
      | (have hE1 : chE vm sm s at0 t = canE s (EV.getD i ev0) := hG.trans (firstAt_eq (f := fun i => canE s (EV.getD i ev0)) (by omega) p2 hb rfl)
         have hS1 : chS vm sm s at0 t = s := by unfold chS; rw [if_neg (by rw [hE1]; exact hb)]
         rw [hE1, hS1]; refine .ent _ _ (Entails.mk' (ts := [(6, .d (.int .i64 (canE s (EV.getD i ev0))))]) (rs := offO h vm sm s) rq3 rfl rfl ⟨lr, trivial⟩ ⟨rr, rr, rr, rr, rr, rr, rr, rr, rr, rr, trivial⟩) ?_; refine .ret _ ?_; conv => whnf
         exact ⟨_, ⟨rfl, rfl⟩, rr, rr, rr, rr, rr, rr, rr, rr, rr, rr, trivial⟩)
      | skip
     have hz : canL s EV = 0 := firstAt_zero fun j hj => p2 j (by omega)
     have hE0 : chE vm sm s at0 t = 0 := hG.trans hz
     have hS0 : chS vm sm s at0 t = { sayL s EV with his := (sayL s EV).his.put (t.texts.getD 0 []) (some N) } := by
      unfold chS; rw [if_pos hE0, hv]; show ({ sayL s (chEvs g at0 t) with his := (sayL s (chEvs g at0 t)).his.put (t.texts.getD 0 []) (some (chNext g at0 t)) } : Off) = _; rw [hEv, hN, ← hEVe, ← hNe]
     rw [hE0, hS0]
     refine LoopX.rule hT (C := []) (ι := Nat) (fun i => i ≤ EV.length)
      (fun i => mkSt [(0, .ptr 1000001 0), (7, .d (.str (t.texts.getD 0 []))), (10, .ptr 10 0), (185, .d (evns EV)), (186, .d (.int .i64 EV.length)), (187, .d (.int .i64 i))] ((10, .cells 146 ((hiF N).map .d)) :: [(1000001, offC60 h), (1000002, mpS false [.str []] sF1 vm), (1000003, mpS false [.bool false] bF1 sm), (1000004, mpS true (ssF ss0) ssF (sayL s (EV.take i)).sts), (60, evB (sayL s (EV.take i)).log), (1000006, atM (sayL s (EV.take i)).ats), (1000007, mpS true (bkF bk0) bkF (sayL s (EV.take i)).bks), (1000008, mpS true (hiO none) hiO (sayL s (EV.take i)).his), (1000010, mpS false [.int .i64 0] iF1 (sayL s (EV.take i)).paid), (1000011, rfB (sayL s (EV.take i)).ref)]))
      (fun i => EV.length - i) 0 (by omega) ?_ ?_
     · refine Entails.mk' rq6 rfl rfl ⟨lr, lr, lr, lr, lr, lr, trivial⟩ ⟨rr, rr, rr, rr, rr, rr, rr, rr, rr, rr, rr, trivial⟩
     clear p1 p2 e1; rintro i p1; have e1 : (i : Int).toNat = i := Int.toNat_natCast i; conv => whnf
     repeat' (first | ((first | (refine oAx (wSay h vm sm (sayL s (EV.take i)) (EV.getD (i : Int).toNat ev0) (by rw [sayL_log, List.length_append, List.length_take]; omega)) rq7 ?_; rintro y rout ⟨rfl, rfl⟩; refine ⟨rfl, ?_⟩) | (refine And.intro (by unfold inI64; omega) ?_) | (refine br_intro ?_ ?_ <;> intro hb <;> try simp only [brs] at hb) | refine rAx hT 19 oQOfF155_19 ?_ | refine rAx hT 22 oQOfF155_22 ?_ | refine rAx hT 11 oQOfF155_11 ?_ | refine rAx hT 12 oQOfF155_12 ?_ | refine rAx hT 13 oQOfF155_13 ?_ | refine rAx hT 40 oQOfF155_40 ?_ | omega | refine sAx ?_ | decide | assumption) <;> conv => whnf))
     all_goals first
      | (refine ⟨i + 1, by omega, by omega, ?_⟩
         have hT := sayL_take s EV i (by omega)
         dsimp only
         rw [hT]
         exact Entails.mk' rq8 rfl rfl ⟨lr, lr, lr, lr, lr, lr, trivial⟩ ⟨rr, rr, rr, rr, rr, rr, rr, rr, rr, rr, rr, trivial⟩)
      | (have hi : EV.take i = EV := List.take_of_length_le (by omega)
         rw [hi]; refine .ent _ _ (Entails.mk' (ts := [(6, .d (.int .i64 0))]) (rs := offO h vm sm ({ sayL s EV with his := (sayL s EV).his.put (t.texts.getD 0 []) (some N) })) rq4 rfl rfl ⟨lr, trivial⟩ ⟨rr, rr, rr, rr, rr, rr, rr, mpS_put (v := some N), rr, rr, trivial⟩) ?_; refine .ret _ ?_; conv => whnf
         exact ⟨_, ⟨rfl, rfl⟩, rr, rr, rr, rr, rr, rr, rr, rr, rr, rr, trivial⟩)
   · have hH : mdH g (clH g (chIn at0 t)) = hi0 := if_neg hm
     have hE1 : chE vm sm s at0 t = mdE g (clH g (chIn at0 t)) := by
      unfold chE chG; rw [if_pos hh, hv]; show (if firstE [mdE g (chNext g at0 t), if (!chKn vm sm t) = true then 8 else 0] ≠ 0 then firstE [mdE g (chNext g at0 t), if (!chKn vm sm t) = true then 8 else 0] else canL s (chEvs g at0 t)) = _; rw [hN]; generalize mdE g (clH g (chIn at0 t)) = X at hm ⊢; simp [firstE, hm]
     have hS1 : chS vm sm s at0 t = s := by unfold chS; rw [if_neg (by rw [hE1]; exact hm)]
     rw [hE1, hS1]; rw [hH] at cC; clear hE1 hS1 hH hN; generalize mdE g (clH g (chIn at0 t)) = X at cC hm; refine spec_of hT (C := []) Tryz.func155 rfl Tryz.call155 rfl rfl rfl ?_; conv => whnf
     repeat' (first | ((first | refine pAx cX ?_ | refine pAx cC ?_ | refine pAx cE ?_) <;> conv => whnf) | (refine CallX.exact (s107 _ _) rfl rfl ?_; rotate_right; conv => whnf) | ((first | (refine And.intro (rfl : zrow _ = some (hiO none)) ?_; refine rowSV_eq (row' := hiF g) (congrArg hiO hv) ?_) | refine And.intro (rfl : zrow _ = some (ssF ss0)) ?_ | refine And.intro (rfl : zrow _ = some [.bool false]) ?_ | refine And.intro (rfl : zrow _ = some (sF1 [])) ?_ | refine And.intro (rfl : zrow _ = some [.str []]) ?_ | refine And.intro (rfl : zrow _ = some (bkF bk0)) ?_ | refine And.intro (rfl : zrow _ = some (hiO none)) ?_ | refine And.intro (rfl : zrow _ = some [.int .i64 0]) ?_ | refine CallX.pure (s105 [_, _] (by simp)) ⟨SV.le_lit (by rfl) (by rfl), trivial⟩ rfl ?_ | (refine br_intro ?_ ?_ <;> intro hb <;> try simp only [brs] at hb) | refine rAx hT 19 oQOfF155_19 ?_ | refine rAx hT 22 oQOfF155_22 ?_ | refine rAx hT 11 oQOfF155_11 ?_ | refine rAx hT 12 oQOfF155_12 ?_ | refine rAx hT 13 oQOfF155_13 ?_ | refine rAx hT 40 oQOfF155_40 ?_ | omega | refine sAx ?_ | decide | assumption) <;> conv => whnf))
     all_goals try (exfalso; contradiction)
     all_goals first
      | (exfalso; have q : s.his.has (t.texts.getD 0 []) = false := hb; rw [hh] at q; cases q)
      | (exfalso; clear cX cC cE; simp [firstE, hm] at hb; done)
      | (refine .ent _ _ (Entails.mk' (ts := [(6, .d (.int .i64 X))]) (rs := offO h vm sm s) rq3 rfl rfl ⟨SV.le_int (by simp [firstE, hm]), trivial⟩ ⟨rr, rr, rr, rr, rr, rr, rr, rr, rr, rr, trivial⟩) ?_
         refine .ret _ ?_; conv => whnf
         exact ⟨_, ⟨rfl, rfl⟩, rr, rr, rr, rr, rr, rr, rr, rr, rr, rr, trivial⟩)
 · skip
   have hN : chNext g at0 t = exH g (chIn at0 t) (t.texts.getD 2 []) (chOut at0 t) := by unfold chNext; rw [if_neg w1, if_neg w2]
   have hEv : chEvs g at0 t = [⟨at0, oldV g, (t.texts.getD 1 []), 3, []⟩, ⟨at0, (t.texts.getD 2 []), (t.texts.getD 1 []), 2, []⟩] := by unfold chEvs; rw [if_neg w1, if_neg w2]
   have hKn : chKn vm sm t = (sm.val (t.texts.getD 1 []) && vm.has (t.texts.getD 2 [])) := by unfold chKn; rw [if_neg w1, if_neg w2]
   obtain ⟨hs1, hs2⟩ := hs w1 w2
   by_cases hm : mdE g (exH g (chIn at0 t) (t.texts.getD 2 []) (chOut at0 t)) = 0
   · have hH : mdH g (exH g (chIn at0 t) (t.texts.getD 2 []) (chOut at0 t)) = exH g (chIn at0 t) (t.texts.getD 2 []) (chOut at0 t) := if_pos hm; rw [hH, hm] at cE; obtain ⟨N, hNe⟩ : ∃ N, N = exH g (chIn at0 t) (t.texts.getD 2 []) (chOut at0 t) := ⟨_, rfl⟩; rw [← hNe] at cE; obtain ⟨EV, hEVe⟩ : ∃ EV, EV = ([⟨at0, oldV g, (t.texts.getD 1 []), 3, []⟩, ⟨at0, (t.texts.getD 2 []), (t.texts.getD 1 []), 2, []⟩] : List Evn) := ⟨_, rfl⟩; have hEl : EV.length ≤ 2 := by rw [hEVe]; simp
     have hG0 : chKn vm sm t = true → chE vm sm s at0 t = canL s EV := fun kk => by
      unfold chE chG; rw [if_pos hh, hv]; show (if firstE [mdE g (chNext g at0 t), if (!chKn vm sm t) = true then 8 else 0] ≠ 0 then firstE [mdE g (chNext g at0 t), if (!chKn vm sm t) = true then 8 else 0] else canL s (chEvs g at0 t)) = _; rw [hN, hm, kk, hEv, ← hEVe]; rw [if_neg (by simp [firstE])]
     refine spec_of hT (C := []) Tryz.func155 rfl Tryz.call155 rfl rfl rfl ?_; conv => whnf
     repeat' (first | ((first | refine pAx cX ?_ | refine pAx cC ?_ | refine pAx cE ?_) <;> conv => whnf) | (refine CallX.exact (s107 _ _) rfl rfl ?_; rotate_right; conv => whnf) | ((first | (refine And.intro (rfl : zrow _ = some (hiO none)) ?_; refine rowSV_eq (row' := hiF g) (congrArg hiO hv) ?_) | refine And.intro (rfl : zrow _ = some (ssF ss0)) ?_ | refine And.intro (rfl : zrow _ = some [.bool false]) ?_ | refine And.intro (rfl : zrow _ = some (sF1 [])) ?_ | refine And.intro (rfl : zrow _ = some [.str []]) ?_ | refine And.intro (rfl : zrow _ = some (bkF bk0)) ?_ | refine And.intro (rfl : zrow _ = some (hiO none)) ?_ | refine And.intro (rfl : zrow _ = some [.int .i64 0]) ?_ | refine CallX.pure (s105 [_, _] (by simp)) ⟨SV.le_lit (by rfl) (by rfl), trivial⟩ rfl ?_ | (refine br_intro ?_ ?_ <;> intro hb <;> try simp only [brs] at hb) | refine rAx hT 19 oQOfF155_19 ?_ | refine rAx hT 22 oQOfF155_22 ?_ | refine rAx hT 11 oQOfF155_11 ?_ | refine rAx hT 12 oQOfF155_12 ?_ | refine rAx hT 13 oQOfF155_13 ?_ | refine rAx hT 40 oQOfF155_40 ?_ | omega | refine sAx ?_ | decide | assumption) <;> conv => whnf))
     all_goals try (exfalso; contradiction)
     all_goals first
      | (exfalso; have q : s.his.has (t.texts.getD 0 []) = false := hb; rw [hh] at q; cases q)
      | (exfalso; clear cX cC cE; apply hb; simp [firstE]; done)
      | (have hkf : ((sm.val (t.texts.getD 1 []) && vm.has (t.texts.getD 2 []))) = false := by
          clear cX cC cE
          cases kq : ((sm.val (t.texts.getD 1 []) && vm.has (t.texts.getD 2 []))) with
          | false => rfl
          | true =>
            exfalso
            (clear hc hs hx h3 hm hH; (try simp only [keyE, show Int.toNat 1 = 1 from rfl, show Int.toNat 2 = 2 from rfl] at *); first | (simp_all [firstE]; done) | grind [firstE])
         have hE1 : chE vm sm s at0 t = 8 := by
          unfold chE chG; rw [if_pos hh, hv]; show (if firstE [mdE g (chNext g at0 t), if (!chKn vm sm t) = true then 8 else 0] ≠ 0 then firstE [mdE g (chNext g at0 t), if (!chKn vm sm t) = true then 8 else 0] else canL s (chEvs g at0 t)) = _; rw [hN, hm, hKn, hkf]; simp [firstE]
         have hS1 : chS vm sm s at0 t = s := by unfold chS; rw [if_neg (by rw [hE1]; decide)]
         rw [hE1, hS1]; refine .ent _ _ (Entails.mk' (ts := [(6, .d (.int .i64 8))]) (rs := offO h vm sm s) rq3 rfl rfl ⟨SV.le_int (by clear cX cC cE; clear hc hs hx h3 hm hH; (try simp only [keyE, show Int.toNat 1 = 1 from rfl, show Int.toNat 2 = 2 from rfl] at *); first | (simp_all [firstE]; done) | grind [firstE]), trivial⟩ ⟨rr, rr, rr, rr, rr, rr, rr, rr, rr, rr, trivial⟩) ?_; refine .ret _ ?_; conv => whnf
         exact ⟨_, ⟨rfl, rfl⟩, rr, rr, rr, rr, rr, rr, rr, rr, rr, rr, trivial⟩)
      | skip
     have hG := hG0 (hKn.trans (by clear hc hs hx h3 hm hH hG0 cX cC cE; (try simp only [keyE, show Int.toNat 1 = 1 from rfl, show Int.toNat 2 = 2 from rfl] at *); first | (simp_all [firstE]; done) | grind [firstE]))
     refine LoopX.rule hT (C := []) (ι := Nat) (fun i => i ≤ EV.length ∧ ∀ j, j < i → canE s (EV.getD j ev0) = 0)
      (fun i => mkSt [(0, .ptr 1000001 0), (7, .d (.str (t.texts.getD 0 []))), (10, .ptr 10 0), (12, .d (evns EV)), (172, .d (evns EV)), (173, .d (.int .i64 EV.length)), (174, .d (.int .i64 i))] ((10, .cells 146 ((hiF N).map .d)) :: offR h vm sm s))
      (fun i => EV.length - i) 0 ⟨by omega, fun j hj => by omega⟩ ?_ ?_
     · refine Entails.mk' rq5 rfl rfl ⟨lr, lr, lr, (by subst hEVe; exact SV.le_lit rfl rfl), (by subst hEVe; exact SV.le_lit rfl rfl), (by subst hEVe; exact lr), lr, trivial⟩ ⟨rr, rr, rr, rr, rr, rr, rr, rr, rr, rr, rr, trivial⟩
     rintro i ⟨p1, p2⟩; have e1 : (i : Int).toNat = i := Int.toNat_natCast i; conv => whnf
     repeat' (first | ((first | (refine oAx (wCan h vm sm s (EV.getD (i : Int).toNat ev0)) rq1 ?_; rintro y rout ⟨rfl, rfl⟩; refine ⟨rfl, ?_⟩) | (refine And.intro (by unfold inI64; omega) ?_) | (refine br_intro ?_ ?_ <;> intro hb <;> try simp only [brs] at hb) | refine rAx hT 19 oQOfF155_19 ?_ | refine rAx hT 22 oQOfF155_22 ?_ | refine rAx hT 11 oQOfF155_11 ?_ | refine rAx hT 12 oQOfF155_12 ?_ | refine rAx hT 13 oQOfF155_13 ?_ | refine rAx hT 40 oQOfF155_40 ?_ | omega | refine sAx ?_ | decide | assumption) <;> conv => whnf))
     all_goals first
      | (exact ⟨i + 1, ⟨by omega, first_step p2 (by first | exact hb | simpa using hb)⟩, by omega, Entails.mk' rq5 rfl rfl ⟨lr, lr, lr, lr, lr, lr, lr, trivial⟩ ⟨rr, rr, rr, rr, rr, rr, rr, rr, rr, rr, rr, trivial⟩⟩)
      | (have hE1 : chE vm sm s at0 t = canE s (EV.getD i ev0) := hG.trans (firstAt_eq (f := fun i => canE s (EV.getD i ev0)) (by omega) p2 hb rfl)
         have hS1 : chS vm sm s at0 t = s := by unfold chS; rw [if_neg (by rw [hE1]; exact hb)]
         rw [hE1, hS1]; refine .ent _ _ (Entails.mk' (ts := [(6, .d (.int .i64 (canE s (EV.getD i ev0))))]) (rs := offO h vm sm s) rq3 rfl rfl ⟨lr, trivial⟩ ⟨rr, rr, rr, rr, rr, rr, rr, rr, rr, rr, trivial⟩) ?_; refine .ret _ ?_; conv => whnf
         exact ⟨_, ⟨rfl, rfl⟩, rr, rr, rr, rr, rr, rr, rr, rr, rr, rr, trivial⟩)
      | skip
     have hz : canL s EV = 0 := firstAt_zero fun j hj => p2 j (by omega)
     have hE0 : chE vm sm s at0 t = 0 := hG.trans hz
     have hS0 : chS vm sm s at0 t = { sayL s EV with his := (sayL s EV).his.put (t.texts.getD 0 []) (some N) } := by
      unfold chS; rw [if_pos hE0, hv]; show ({ sayL s (chEvs g at0 t) with his := (sayL s (chEvs g at0 t)).his.put (t.texts.getD 0 []) (some (chNext g at0 t)) } : Off) = _; rw [hEv, hN, ← hEVe, ← hNe]
     rw [hE0, hS0]
     refine LoopX.rule hT (C := []) (ι := Nat) (fun i => i ≤ EV.length)
      (fun i => mkSt [(0, .ptr 1000001 0), (7, .d (.str (t.texts.getD 0 []))), (10, .ptr 10 0), (185, .d (evns EV)), (186, .d (.int .i64 EV.length)), (187, .d (.int .i64 i))] ((10, .cells 146 ((hiF N).map .d)) :: [(1000001, offC60 h), (1000002, mpS false [.str []] sF1 vm), (1000003, mpS false [.bool false] bF1 sm), (1000004, mpS true (ssF ss0) ssF (sayL s (EV.take i)).sts), (60, evB (sayL s (EV.take i)).log), (1000006, atM (sayL s (EV.take i)).ats), (1000007, mpS true (bkF bk0) bkF (sayL s (EV.take i)).bks), (1000008, mpS true (hiO none) hiO (sayL s (EV.take i)).his), (1000010, mpS false [.int .i64 0] iF1 (sayL s (EV.take i)).paid), (1000011, rfB (sayL s (EV.take i)).ref)]))
      (fun i => EV.length - i) 0 (by omega) ?_ ?_
     · refine Entails.mk' rq6 rfl rfl ⟨lr, lr, lr, lr, lr, lr, trivial⟩ ⟨rr, rr, rr, rr, rr, rr, rr, rr, rr, rr, rr, trivial⟩
     clear p1 p2 e1; rintro i p1; have e1 : (i : Int).toNat = i := Int.toNat_natCast i; conv => whnf
     repeat' (first | ((first | (refine oAx (wSay h vm sm (sayL s (EV.take i)) (EV.getD (i : Int).toNat ev0) (by rw [sayL_log, List.length_append, List.length_take]; omega)) rq7 ?_; rintro y rout ⟨rfl, rfl⟩; refine ⟨rfl, ?_⟩) | (refine And.intro (by unfold inI64; omega) ?_) | (refine br_intro ?_ ?_ <;> intro hb <;> try simp only [brs] at hb) | refine rAx hT 19 oQOfF155_19 ?_ | refine rAx hT 22 oQOfF155_22 ?_ | refine rAx hT 11 oQOfF155_11 ?_ | refine rAx hT 12 oQOfF155_12 ?_ | refine rAx hT 13 oQOfF155_13 ?_ | refine rAx hT 40 oQOfF155_40 ?_ | omega | refine sAx ?_ | decide | assumption) <;> conv => whnf))
     all_goals first
      | (refine ⟨i + 1, by omega, by omega, ?_⟩
         have hT := sayL_take s EV i (by omega)
         dsimp only
         rw [hT]
         exact Entails.mk' rq8 rfl rfl ⟨lr, lr, lr, lr, lr, lr, trivial⟩ ⟨rr, rr, rr, rr, rr, rr, rr, rr, rr, rr, rr, trivial⟩)
      | (have hi : EV.take i = EV := List.take_of_length_le (by omega)
         rw [hi]; refine .ent _ _ (Entails.mk' (ts := [(6, .d (.int .i64 0))]) (rs := offO h vm sm ({ sayL s EV with his := (sayL s EV).his.put (t.texts.getD 0 []) (some N) })) rq4 rfl rfl ⟨lr, trivial⟩ ⟨rr, rr, rr, rr, rr, rr, rr, mpS_put (v := some N), rr, rr, trivial⟩) ?_; refine .ret _ ?_; conv => whnf
         exact ⟨_, ⟨rfl, rfl⟩, rr, rr, rr, rr, rr, rr, rr, rr, rr, rr, trivial⟩)
   · have hH : mdH g (exH g (chIn at0 t) (t.texts.getD 2 []) (chOut at0 t)) = hi0 := if_neg hm
     have hE1 : chE vm sm s at0 t = mdE g (exH g (chIn at0 t) (t.texts.getD 2 []) (chOut at0 t)) := by
      unfold chE chG; rw [if_pos hh, hv]; show (if firstE [mdE g (chNext g at0 t), if (!chKn vm sm t) = true then 8 else 0] ≠ 0 then firstE [mdE g (chNext g at0 t), if (!chKn vm sm t) = true then 8 else 0] else canL s (chEvs g at0 t)) = _; rw [hN]; generalize mdE g (exH g (chIn at0 t) (t.texts.getD 2 []) (chOut at0 t)) = X at hm ⊢; simp [firstE, hm]
     have hS1 : chS vm sm s at0 t = s := by unfold chS; rw [if_neg (by rw [hE1]; exact hm)]
     rw [hE1, hS1]; rw [hH] at cE; clear hE1 hS1 hH hN; generalize mdE g (exH g (chIn at0 t) (t.texts.getD 2 []) (chOut at0 t)) = X at cE hm; refine spec_of hT (C := []) Tryz.func155 rfl Tryz.call155 rfl rfl rfl ?_; conv => whnf
     repeat' (first | ((first | refine pAx cX ?_ | refine pAx cC ?_ | refine pAx cE ?_) <;> conv => whnf) | (refine CallX.exact (s107 _ _) rfl rfl ?_; rotate_right; conv => whnf) | ((first | (refine And.intro (rfl : zrow _ = some (hiO none)) ?_; refine rowSV_eq (row' := hiF g) (congrArg hiO hv) ?_) | refine And.intro (rfl : zrow _ = some (ssF ss0)) ?_ | refine And.intro (rfl : zrow _ = some [.bool false]) ?_ | refine And.intro (rfl : zrow _ = some (sF1 [])) ?_ | refine And.intro (rfl : zrow _ = some [.str []]) ?_ | refine And.intro (rfl : zrow _ = some (bkF bk0)) ?_ | refine And.intro (rfl : zrow _ = some (hiO none)) ?_ | refine And.intro (rfl : zrow _ = some [.int .i64 0]) ?_ | refine CallX.pure (s105 [_, _] (by simp)) ⟨SV.le_lit (by rfl) (by rfl), trivial⟩ rfl ?_ | (refine br_intro ?_ ?_ <;> intro hb <;> try simp only [brs] at hb) | refine rAx hT 19 oQOfF155_19 ?_ | refine rAx hT 22 oQOfF155_22 ?_ | refine rAx hT 11 oQOfF155_11 ?_ | refine rAx hT 12 oQOfF155_12 ?_ | refine rAx hT 13 oQOfF155_13 ?_ | refine rAx hT 40 oQOfF155_40 ?_ | omega | refine sAx ?_ | decide | assumption) <;> conv => whnf))
     all_goals try (exfalso; contradiction)
     all_goals first
      | (exfalso; have q : s.his.has (t.texts.getD 0 []) = false := hb; rw [hh] at q; cases q)
      | (exfalso; clear cX cC cE; simp [firstE, hm] at hb; done)
      | (refine .ent _ _ (Entails.mk' (ts := [(6, .d (.int .i64 X))]) (rs := offO h vm sm s) rq3 rfl rfl ⟨SV.le_int (by simp [firstE, hm]), trivial⟩ ⟨rr, rr, rr, rr, rr, rr, rr, rr, rr, rr, trivial⟩) ?_
         refine .ret _ ?_; conv => whnf
         exact ⟨_, ⟨rfl, rfl⟩, rr, rr, rr, rr, rr, rr, rr, rr, rr, rr, trivial⟩)
def oQOfG112_1 : OL := [(0, []), (1, []), (7, [0, 1]), (2, [0, 1, 7]), (3, [7]), (4, [7]), (5, [7]), (6, [7, 5]), (8, [6]), (9, [])]
def oQOfG112_4 : OL := [(1, []), (2, []), (0, [1, 2]), (3, []), (4, []), (5, []), (6, [5]), (7, [6]), (8, [])]
def oQOfG112_6 : OL := [(0, []), (1, []), (2, [0, 1]), (3, [0, 1]), (4, [0, 1]), (5, [0, 1]), (6, rg 6), (7, rg 6), (8, rg 6), (9, rg 6), (10, rg 10), (11, []), (12, rg 12), (13, [])]
def oQOfG112_12 : OL := [(0, []), (1, [0]), (2, [0]), (3, [0]), (4, [0]), (5, rg 5), (6, rg 5), (7, rg 5), (8, rg 5), (9, rg 9), (10, rg 9), (11, rg 9), (12, rg 9), (13, rg 13), (14, rg 13), (15, rg 13), (16, rg 13), (17, rg 9), (18, rg 18), (19, rg 18), (20, rg 20), (21, rg 20), (22, rg 20), (23, rg 20), (24, [0]), (25, []), (26, [])]
def oQOfG112_14 : OL := [(0, []), (1, []), (2, []), (3, []), (4, rg 4), (5, rg 4), (6, rg 4), (7, rg 4), (8, []), (9, []), (10, []), (11, [10]), (12, rg 12), (13, [11]), (14, [])]
def oQOfG112_17 : OL := [(0, []), (1, []), (2, []), (3, []), (4, rg 4), (5, rg 4), (6, rg 4), (7, rg 4), (8, [])]
def oQOfG112_22 : OL := [(0, []), (1, [0]), (2, [0]), (3, [0]), (4, [0]), (5, rg 5), (6, rg 5), (7, rg 5), (8, rg 5), (9, []), (10, [])]
structure offOk (s : Off) : Prop where
 log : s.log.length ≤ 2^18
 paid : ∀ k, -2^40 ≤ s.paid.val k ∧ s.paid.val k ≤ 2^40
 fb : few s.bks.has
 fh : few s.his.has
 non : ∀ k, s.his.has k = false → s.his.val k = none
 his : ∀ k, s.his.has k = true → ∃ g, s.his.val k = some g ∧ hiL g ∧ 1 ≤ g.legs.length ∧ g.legs.length < 2^19
theorem wFollow0 (h : Hou) (vm : Mp (List UInt8)) (sm : Mp Bool) (s : Off) (x : Ent) (hx : x.words.length ≤ 2^20) (hf : ∀ k, (formsM.val k).length ≤ 2^20) (ht : telOk formsM x.words = false) :
 FSpec Tryz.prog 112 [.ptr 1000001 0, .agg ((enF x).map .d)] ((1000009, KX) :: offR h vm sm s) (fun y r => y = .d (.int .i64 9) ∧ r = (1000009, KX) :: offO h vm sm s) := by
 have c1 := wTell formsM hf x.words hx; rw [ht] at c1; refine spec_of hT (C := []) Tryz.func112 rfl Tryz.call112 rfl rfl rfl ?_; conv => whnf
 repeat' (first | ((first | (refine oAx wForms [(1, 20)] ?_; rintro y rout ⟨rfl, rfl⟩; refine ⟨rfl, ?_⟩) | (refine oAx c1 [(1000001, 20), (1000009, 1000009)] ?_; rintro y rout ⟨rfl, rfl⟩; refine ⟨rfl, ?_⟩) | (refine br_intro ?_ ?_ <;> intro hb <;> try simp only [brs] at hb) | refine rAx hT 1 oQOfG112_1 ?_ | refine rAx hT 4 oQOfG112_4 ?_ | refine rAx hT 6 oQOfG112_6 ?_ | refine rAx hT 12 oQOfG112_12 ?_ | refine rAx hT 14 oQOfG112_14 ?_ | refine rAx hT 17 oQOfG112_17 ?_ | refine rAx hT 22 oQOfG112_22 ?_ | omega | refine sAx ?_ | decide | assumption) <;> conv => whnf))
 refine .ent _ _ (Entails.mk' (ts := [(4, .d (.int .i64 9))]) (rs := (1000009, KX) :: offO h vm sm s) rq9 rfl rfl ⟨lr, trivial⟩ ⟨rr, rr, rr, rr, rr, rr, rr, rr, rr, rr, rr, trivial⟩) ?_; refine .ret _ ?_; conv => whnf
 exact ⟨_, ⟨rfl, rfl⟩, rr, rr, rr, rr, rr, rr, rr, rr, rr, rr, rr, trivial⟩
structure tolL (t : Tol) : Prop where
 tx : ∀ j, (t.texts.getD j []).length ≤ 2^20
 nm : ∀ j, -10^9 ≤ t.nums.getD j 0 ∧ t.nums.getD j 0 ≤ 10^9
 ev : kindsM.has t.word = true → 2 ≤ t.texts.length
 lv : kindsM.has t.word = true → kindsM.val t.word = 6 → 3 ≤ t.texts.length
 bk : t.word = [98, 111, 111, 107] → 2 ≤ t.texts.length ∧ 3 ≤ t.nums.length
 cn : t.word = [99, 97, 110, 99, 101, 108] → 1 ≤ t.texts.length
 st : t.word = [115, 116, 97, 114, 116] → 4 ≤ t.texts.length ∧ 3 ≤ t.nums.length
 py : t.word = [112, 97, 121] → 1 ≤ t.texts.length ∧ 1 ≤ t.nums.length
 ch : kindsM.has t.word = false → t.word ≠ [98, 111, 111, 107] → t.word ≠ [99, 97, 110, 99, 101, 108] → t.word ≠ [115, 116, 97, 114, 116] → t.word ≠ [112, 97, 121] → 1 ≤ t.texts.length ∧ (t.word = [101, 120, 116, 101, 110, 100] → 1 ≤ t.nums.length) ∧ (t.word = [99, 108, 111, 115, 101] → 2 ≤ t.texts.length ∧ 2 ≤ t.nums.length) ∧ (t.word ≠ [101, 120, 116, 101, 110, 100] → t.word ≠ [99, 108, 111, 115, 101] → 3 ≤ t.texts.length ∧ 4 ≤ t.nums.length)
def evOf (tm : Int) (t : Tol) : Evn := ⟨tm, t.texts.getD 0 [], t.texts.getD 1 [], kindsM.val t.word, if kindsM.val t.word = 6 then t.texts.getD 2 [] else []⟩
set_option maxHeartbeats 4000000 in
theorem wFollowE (h : Hou) (vm : Mp (List UInt8)) (sm : Mp Bool) (s : Off) (hs : offOk s) (x : Ent) (hx : x.words.length ≤ 2^20) (hf : ∀ k, (formsM.val k).length ≤ 2^20) (ht : telOk formsM x.words = true) (t : Tol) (hte : telT formsM x.words = t) (hk : tolL t) (hk1 : kindsM.has t.word = true) :
 FSpec Tryz.prog 112 [.ptr 1000001 0, .agg ((enF x).map .d)] ((1000009, KX) :: offR h vm sm s) (fun y r => y = .d (.int .i64 (evtE vm sm s (evOf x.tm t))) ∧ r = (1000009, KX) :: offO h vm sm (evtS vm sm s (evOf x.tm t))) := by
 have c1 := wTell formsM hf x.words hx; rw [ht, if_pos rfl, hte] at c1; have h2 := hk.ev hk1; have h3 := hk.lv hk1; have c2 := wEvt h vm sm s (evOf x.tm t) (by have := hs.log; omega); have hEv : evOf x.tm t = ⟨x.tm, t.texts.getD 0 [], t.texts.getD 1 [], kindsM.val t.word, if kindsM.val t.word = 6 then t.texts.getD 2 [] else []⟩ := rfl; generalize evOf x.tm t = V at c2 hEv ⊢
 by_cases k6 : kindsM.val t.word = 6
 · rw [if_pos k6] at hEv; have h4 := h3 k6; subst hEv; refine spec_of hT (C := []) Tryz.func112 rfl Tryz.call112 rfl rfl rfl ?_; conv => whnf
   repeat' (first | ((first | (refine oAx wForms [(1, 20)] ?_; rintro y rout ⟨rfl, rfl⟩; refine ⟨rfl, ?_⟩) | (refine oAx wKinds [(1, 30)] ?_; rintro y rout ⟨rfl, rfl⟩; refine ⟨rfl, ?_⟩) | (refine oAx c1 [(1000001, 20), (1000009, 1000009)] ?_; rintro y rout ⟨rfl, rfl⟩; refine ⟨rfl, ?_⟩) | (refine oAx (c2) rq2 ?_; rintro y rout ⟨rfl, rfl⟩; refine ⟨rfl, ?_⟩) | refine And.intro (rfl : zrow _ = some [DV.int .i64 0]) ?_ | (refine br_intro ?_ ?_ <;> intro hb <;> try simp only [brs] at hb) | refine rAx hT 1 oQOfG112_1 ?_ | refine rAx hT 4 oQOfG112_4 ?_ | refine rAx hT 6 oQOfG112_6 ?_ | refine rAx hT 12 oQOfG112_12 ?_ | refine rAx hT 14 oQOfG112_14 ?_ | refine rAx hT 17 oQOfG112_17 ?_ | refine rAx hT 22 oQOfG112_22 ?_ | omega | refine sAx ?_ | decide | assumption) <;> conv => whnf))
   all_goals first
    | (exfalso; have q : kindsM.has t.word = false := by assumption
       rw [hk1] at q; cases q)
    | (exfalso; have q : ¬ kindsM.val t.word = 6 := by assumption
       exact q k6)
    | (exfalso; have q : kindsM.val t.word = 6 := by assumption
       exact k6 q)
    | (refine .ent _ _ (Entails.mk' (ts := [(4, .d (.int .i64 (evtE vm sm s ⟨x.tm, t.texts.getD 0 [], t.texts.getD 1 [], kindsM.val t.word, t.texts.getD 2 []⟩)))]) (rs := (1000009, KX) :: offO h vm sm (evtS vm sm s ⟨x.tm, t.texts.getD 0 [], t.texts.getD 1 [], kindsM.val t.word, t.texts.getD 2 []⟩)) rq10 rfl rfl ⟨lr, trivial⟩ ⟨rr, rr, rr, rr, rr, rr, rr, rr, rr, rr, rr, trivial⟩) ?_
       refine .ret _ ?_; conv => whnf
       exact ⟨_, ⟨rfl, rfl⟩, rr, rr, rr, rr, rr, rr, rr, rr, rr, rr, rr, trivial⟩)
 · rw [if_neg k6] at hEv; subst hEv; refine spec_of hT (C := []) Tryz.func112 rfl Tryz.call112 rfl rfl rfl ?_; conv => whnf
   repeat' (first | ((first | (refine oAx wForms [(1, 20)] ?_; rintro y rout ⟨rfl, rfl⟩; refine ⟨rfl, ?_⟩) | (refine oAx wKinds [(1, 30)] ?_; rintro y rout ⟨rfl, rfl⟩; refine ⟨rfl, ?_⟩) | (refine oAx c1 [(1000001, 20), (1000009, 1000009)] ?_; rintro y rout ⟨rfl, rfl⟩; refine ⟨rfl, ?_⟩) | (refine oAx (c2) rq2 ?_; rintro y rout ⟨rfl, rfl⟩; refine ⟨rfl, ?_⟩) | refine And.intro (rfl : zrow _ = some [DV.int .i64 0]) ?_ | (refine br_intro ?_ ?_ <;> intro hb <;> try simp only [brs] at hb) | refine rAx hT 1 oQOfG112_1 ?_ | refine rAx hT 4 oQOfG112_4 ?_ | refine rAx hT 6 oQOfG112_6 ?_ | refine rAx hT 12 oQOfG112_12 ?_ | refine rAx hT 14 oQOfG112_14 ?_ | refine rAx hT 17 oQOfG112_17 ?_ | refine rAx hT 22 oQOfG112_22 ?_ | omega | refine sAx ?_ | decide | assumption) <;> conv => whnf))
   all_goals first
    | (exfalso; have q : kindsM.has t.word = false := by assumption
       rw [hk1] at q; cases q)
    | (exfalso; have q : ¬ kindsM.val t.word = 6 := by assumption
       exact q k6)
    | (exfalso; have q : kindsM.val t.word = 6 := by assumption
       exact k6 q)
    | (refine .ent _ _ (Entails.mk' (ts := [(4, .d (.int .i64 (evtE vm sm s ⟨x.tm, t.texts.getD 0 [], t.texts.getD 1 [], kindsM.val t.word, []⟩)))]) (rs := (1000009, KX) :: offO h vm sm (evtS vm sm s ⟨x.tm, t.texts.getD 0 [], t.texts.getD 1 [], kindsM.val t.word, []⟩)) rq10 rfl rfl ⟨lr, trivial⟩ ⟨rr, rr, rr, rr, rr, rr, rr, rr, rr, rr, rr, trivial⟩) ?_
       refine .ret _ ?_; conv => whnf
       exact ⟨_, ⟨rfl, rfl⟩, rr, rr, rr, rr, rr, rr, rr, rr, rr, rr, rr, trivial⟩)
def oQOfH112_1 : OL := [(0, []), (1, []), (7, [0, 1]), (2, [0, 1, 7]), (3, [7]), (4, [7]), (5, [7]), (6, [7, 5]), (8, [6]), (9, [])]
def oQOfH112_4 : OL := [(1, []), (2, []), (0, [1, 2]), (3, []), (4, []), (5, []), (6, [5]), (7, [6]), (8, [])]
def oQOfH112_6 : OL := [(0, []), (1, []), (2, [0, 1]), (3, [0, 1]), (4, [0, 1]), (5, [0, 1]), (6, rg 6), (7, rg 6), (8, rg 6), (9, rg 6), (10, rg 10), (11, []), (12, rg 12), (13, [])]
def oQOfH112_12 : OL := [(0, []), (1, [0]), (2, [0]), (3, [0]), (4, [0]), (5, rg 5), (6, rg 5), (7, rg 5), (8, rg 5), (9, rg 9), (10, rg 9), (11, rg 9), (12, rg 9), (13, rg 13), (14, rg 13), (15, rg 13), (16, rg 13), (17, rg 9), (18, rg 18), (19, rg 18), (20, rg 20), (21, rg 20), (22, rg 20), (23, rg 20), (24, [0]), (25, []), (26, [])]
def oQOfH112_14 : OL := [(0, []), (1, []), (2, []), (3, []), (4, rg 4), (5, rg 4), (6, rg 4), (7, rg 4), (8, []), (9, []), (10, []), (11, [10]), (12, rg 12), (13, [11]), (14, [])]
def oQOfH112_17 : OL := [(0, []), (1, []), (2, []), (3, []), (4, rg 4), (5, rg 4), (6, rg 4), (7, rg 4), (8, [])]
def oQOfH112_22 : OL := [(0, []), (1, [0]), (2, [0]), (3, [0]), (4, [0]), (5, rg 5), (6, rg 5), (7, rg 5), (8, rg 5), (9, []), (10, [])]
set_option maxHeartbeats 4000000 in
theorem wFollowB (h : Hou) (hco : clsOk h.flt.cls) (vm : Mp (List UInt8)) (sm : Mp Bool) (s : Off) (hs : offOk s) (x : Ent) (hx : x.words.length ≤ 2^20) (hf : ∀ k, (formsM.val k).length ≤ 2^20) (ht : telOk formsM x.words = true) (t : Tol) (hte : telT formsM x.words = t) (hk : tolL t) (hk1 : kindsM.has t.word = false) (hw : t.word = [98, 111, 111, 107]) :
 FSpec Tryz.prog 112 [.ptr 1000001 0, .agg ((enF x).map .d)] ((1000009, KX) :: offR h vm sm s) (fun y r => y = .d (.int .i64 (bookE h s ⟨t.texts.getD 0 [], t.texts.getD 1 [], t.nums.getD 0 0, t.nums.getD 1 0, x.tm, t.nums.getD 2 0⟩)) ∧ r = (1000009, KX) :: offO h vm sm (bookS h s ⟨t.texts.getD 0 [], t.texts.getD 1 [], t.nums.getD 0 0, t.nums.getD 1 0, x.tm, t.nums.getD 2 0⟩)) := by
 have c1 := wTell formsM hf x.words hx; rw [ht, if_pos rfl, hte] at c1; obtain ⟨l1, l2⟩ := hk.bk hw; have l3 := hk.tx; have c2 := wBook h hco vm sm s ⟨t.texts.getD 0 [], t.texts.getD 1 [], t.nums.getD 0 0, t.nums.getD 1 0, x.tm, t.nums.getD 2 0⟩ (by have := l3 0; show (t.texts.getD 0 []).length ≤ _; omega) (by have := l3 1; show (t.texts.getD 1 []).length ≤ _; omega) hs.fb; refine spec_of hT (C := []) Tryz.func112 rfl Tryz.call112 rfl rfl rfl ?_; conv => whnf
 repeat' (first | ((first | (refine oAx wForms [(1, 20)] ?_; rintro y rout ⟨rfl, rfl⟩; refine ⟨rfl, ?_⟩) | (refine oAx wKinds [(1, 30)] ?_; rintro y rout ⟨rfl, rfl⟩; refine ⟨rfl, ?_⟩) | (refine oAx c1 [(1000001, 20), (1000009, 1000009)] ?_; rintro y rout ⟨rfl, rfl⟩; refine ⟨rfl, ?_⟩) | refine And.intro (rfl : zrow _ = some [DV.int .i64 0]) ?_ | (refine oAx (c2) rq2 ?_; rintro y rout ⟨rfl, rfl⟩; refine ⟨rfl, ?_⟩) | (refine br_intro ?_ ?_ <;> intro hb <;> try simp only [brs] at hb) | refine rAx hT 1 oQOfH112_1 ?_ | refine rAx hT 4 oQOfH112_4 ?_ | refine rAx hT 6 oQOfH112_6 ?_ | refine rAx hT 12 oQOfH112_12 ?_ | refine rAx hT 14 oQOfH112_14 ?_ | refine rAx hT 17 oQOfH112_17 ?_ | refine rAx hT 22 oQOfH112_22 ?_ | omega | refine sAx ?_ | decide | assumption) <;> conv => whnf))
 all_goals try (exfalso; contradiction)
 all_goals try (exfalso; have q : kindsM.has t.word = true := by assumption
                rw [hk1] at q; cases q)
 all_goals
  refine .ent _ _ (Entails.mk' (ts := [(4, .d (.int .i64 (bookE h s ⟨t.texts.getD 0 [], t.texts.getD 1 [], t.nums.getD 0 0, t.nums.getD 1 0, x.tm, t.nums.getD 2 0⟩)))]) (rs := (1000009, KX) :: offO h vm sm (bookS h s ⟨t.texts.getD 0 [], t.texts.getD 1 [], t.nums.getD 0 0, t.nums.getD 1 0, x.tm, t.nums.getD 2 0⟩)) rq10 rfl rfl ⟨lr, trivial⟩ ⟨rr, rr, rr, rr, rr, rr, rr, rr, rr, rr, rr, trivial⟩) ?_; refine .ret _ ?_; conv => whnf
  exact ⟨_, ⟨rfl, rfl⟩, rr, rr, rr, rr, rr, rr, rr, rr, rr, rr, rr, trivial⟩
set_option maxHeartbeats 4000000 in
theorem wFollowS (h : Hou) (hco : clsOk h.flt.cls) (vm : Mp (List UInt8)) (sm : Mp Bool) (s : Off) (hs : offOk s) (x : Ent) (hx : x.words.length ≤ 2^20) (hf : ∀ k, (formsM.val k).length ≤ 2^20) (ht : telOk formsM x.words = true) (t : Tol) (hte : telT formsM x.words = t) (hk : tolL t) (hk1 : kindsM.has t.word = false) (hw : t.word = [115, 116, 97, 114, 116]) (hw1 : ¬ t.word = [98, 111, 111, 107]) (hw2 : ¬ t.word = [99, 97, 110, 99, 101, 108]) :
 FSpec Tryz.prog 112 [.ptr 1000001 0, .agg ((enF x).map .d)] ((1000009, KX) :: offR h vm sm s) (fun y r => y = .d (.int .i64 (stE vm sm s x.tm t)) ∧ r = (1000009, KX) :: offO h vm sm (stS vm sm s x.tm t)) := by
 have c1 := wTell formsM hf x.words hx; rw [ht, if_pos rfl, hte] at c1; obtain ⟨l1, l2⟩ := hk.st hw; have l3 := hk.tx; have c2 := wSt h vm sm s (by have := hs.log; omega) x.tm t l1 l2 (fun j => by have := l3 j; omega) hs.fh; refine spec_of hT (C := []) Tryz.func112 rfl Tryz.call112 rfl rfl rfl ?_; conv => whnf
 repeat' (first | ((first | (refine oAx wForms [(1, 20)] ?_; rintro y rout ⟨rfl, rfl⟩; refine ⟨rfl, ?_⟩) | (refine oAx wKinds [(1, 30)] ?_; rintro y rout ⟨rfl, rfl⟩; refine ⟨rfl, ?_⟩) | (refine oAx c1 [(1000001, 20), (1000009, 1000009)] ?_; rintro y rout ⟨rfl, rfl⟩; refine ⟨rfl, ?_⟩) | refine And.intro (rfl : zrow _ = some [DV.int .i64 0]) ?_ | (refine oAx (c2) rq2 ?_; rintro y rout ⟨rfl, rfl⟩; refine ⟨rfl, ?_⟩) | (refine br_intro ?_ ?_ <;> intro hb <;> try simp only [brs] at hb) | refine rAx hT 1 oQOfH112_1 ?_ | refine rAx hT 4 oQOfH112_4 ?_ | refine rAx hT 6 oQOfH112_6 ?_ | refine rAx hT 12 oQOfH112_12 ?_ | refine rAx hT 14 oQOfH112_14 ?_ | refine rAx hT 17 oQOfH112_17 ?_ | refine rAx hT 22 oQOfH112_22 ?_ | omega | refine sAx ?_ | decide | assumption) <;> conv => whnf))
 all_goals try (exfalso; contradiction)
 all_goals try (exfalso; have q : kindsM.has t.word = true := by assumption
                rw [hk1] at q; cases q)
 all_goals
  refine .ent _ _ (Entails.mk' (ts := [(4, .d (.int .i64 (stE vm sm s x.tm t)))]) (rs := (1000009, KX) :: offO h vm sm (stS vm sm s x.tm t)) rq10 rfl rfl ⟨lr, trivial⟩ ⟨rr, rr, rr, rr, rr, rr, rr, rr, rr, rr, rr, trivial⟩) ?_; refine .ret _ ?_; conv => whnf
  exact ⟨_, ⟨rfl, rfl⟩, rr, rr, rr, rr, rr, rr, rr, rr, rr, rr, rr, trivial⟩
set_option maxHeartbeats 4000000 in
theorem wFollowP (h : Hou) (hco : clsOk h.flt.cls) (vm : Mp (List UInt8)) (sm : Mp Bool) (s : Off) (hs : offOk s) (x : Ent) (hx : x.words.length ≤ 2^20) (hf : ∀ k, (formsM.val k).length ≤ 2^20) (ht : telOk formsM x.words = true) (t : Tol) (hte : telT formsM x.words = t) (hk : tolL t) (hk1 : kindsM.has t.word = false) (hw : t.word = [112, 97, 121]) (hw1 : ¬ t.word = [98, 111, 111, 107]) (hw2 : ¬ t.word = [99, 97, 110, 99, 101, 108]) (hw3 : ¬ t.word = [115, 116, 97, 114, 116]) :
 FSpec Tryz.prog 112 [.ptr 1000001 0, .agg ((enF x).map .d)] ((1000009, KX) :: offR h vm sm s) (fun y r => y = .d (.int .i64 (payE s (t.texts.getD 0 []) (t.nums.getD 0 0))) ∧ r = (1000009, KX) :: offO h vm sm (payS s (t.texts.getD 0 []) (t.nums.getD 0 0))) := by
 have c1 := wTell formsM hf x.words hx; rw [ht, if_pos rfl, hte] at c1; obtain ⟨l1, l2⟩ := hk.py hw; have l3 := hk.nm 0; have c2 := wPay h vm sm s (t.texts.getD 0 []) (t.nums.getD 0 0) (by omega) (hs.paid _); refine spec_of hT (C := []) Tryz.func112 rfl Tryz.call112 rfl rfl rfl ?_; conv => whnf
 repeat' (first | ((first | (refine oAx wForms [(1, 20)] ?_; rintro y rout ⟨rfl, rfl⟩; refine ⟨rfl, ?_⟩) | (refine oAx wKinds [(1, 30)] ?_; rintro y rout ⟨rfl, rfl⟩; refine ⟨rfl, ?_⟩) | (refine oAx c1 [(1000001, 20), (1000009, 1000009)] ?_; rintro y rout ⟨rfl, rfl⟩; refine ⟨rfl, ?_⟩) | refine And.intro (rfl : zrow _ = some [DV.int .i64 0]) ?_ | (refine oAx (c2) rq2 ?_; rintro y rout ⟨rfl, rfl⟩; refine ⟨rfl, ?_⟩) | (refine br_intro ?_ ?_ <;> intro hb <;> try simp only [brs] at hb) | refine rAx hT 1 oQOfH112_1 ?_ | refine rAx hT 4 oQOfH112_4 ?_ | refine rAx hT 6 oQOfH112_6 ?_ | refine rAx hT 12 oQOfH112_12 ?_ | refine rAx hT 14 oQOfH112_14 ?_ | refine rAx hT 17 oQOfH112_17 ?_ | refine rAx hT 22 oQOfH112_22 ?_ | omega | refine sAx ?_ | decide | assumption) <;> conv => whnf))
 all_goals try (exfalso; contradiction)
 all_goals try (exfalso; have q : kindsM.has t.word = true := by assumption
                rw [hk1] at q; cases q)
 all_goals
  refine .ent _ _ (Entails.mk' (ts := [(4, .d (.int .i64 (payE s (t.texts.getD 0 []) (t.nums.getD 0 0))))]) (rs := (1000009, KX) :: offO h vm sm (payS s (t.texts.getD 0 []) (t.nums.getD 0 0))) rq10 rfl rfl ⟨lr, trivial⟩ ⟨rr, rr, rr, rr, rr, rr, rr, rr, rr, rr, rr, trivial⟩) ?_; refine .ret _ ?_; conv => whnf
  exact ⟨_, ⟨rfl, rfl⟩, rr, rr, rr, rr, rr, rr, rr, rr, rr, rr, rr, trivial⟩
set_option maxHeartbeats 4000000 in
theorem wFollowC (h : Hou) (hco : clsOk h.flt.cls) (vm : Mp (List UInt8)) (sm : Mp Bool) (s : Off) (hs : offOk s) (x : Ent) (hx : x.words.length ≤ 2^20) (hf : ∀ k, (formsM.val k).length ≤ 2^20) (ht : telOk formsM x.words = true) (t : Tol) (hte : telT formsM x.words = t) (hk : tolL t) (hk1 : kindsM.has t.word = false) (hw : t.word = [99, 97, 110, 99, 101, 108]) (hw1 : ¬ t.word = [98, 111, 111, 107]) :
 FSpec Tryz.prog 112 [.ptr 1000001 0, .agg ((enF x).map .d)] ((1000009, KX) :: offR h vm sm s) (fun y r => y = .d (.int .i64 (if s.bks.has (t.texts.getD 0 []) then 0 else 8)) ∧ r = (1000009, KX) :: offO h vm sm (if s.bks.has (t.texts.getD 0 []) then { s with bks := s.bks.del (t.texts.getD 0 []) bk0 } else s)) := by
 have c1 := wTell formsM hf x.words hx; rw [ht, if_pos rfl, hte] at c1; have l1 := hk.cn hw; refine spec_of hT (C := []) Tryz.func112 rfl Tryz.call112 rfl rfl rfl ?_; conv => whnf
 repeat' (first | ((first | (refine oAx wForms [(1, 20)] ?_; rintro y rout ⟨rfl, rfl⟩; refine ⟨rfl, ?_⟩) | (refine oAx wKinds [(1, 30)] ?_; rintro y rout ⟨rfl, rfl⟩; refine ⟨rfl, ?_⟩) | (refine oAx c1 [(1000001, 20), (1000009, 1000009)] ?_; rintro y rout ⟨rfl, rfl⟩; refine ⟨rfl, ?_⟩) | refine And.intro (rfl : zrow _ = some [DV.int .i64 0]) ?_ | refine And.intro (rfl : zrow _ = some (bkF bk0)) ?_ | (refine br_intro ?_ ?_ <;> intro hb <;> try simp only [brs] at hb) | refine rAx hT 1 oQOfH112_1 ?_ | refine rAx hT 4 oQOfH112_4 ?_ | refine rAx hT 6 oQOfH112_6 ?_ | refine rAx hT 12 oQOfH112_12 ?_ | refine rAx hT 14 oQOfH112_14 ?_ | refine rAx hT 17 oQOfH112_17 ?_ | refine rAx hT 22 oQOfH112_22 ?_ | omega | refine sAx ?_ | decide | assumption) <;> conv => whnf))
 all_goals try (exfalso; contradiction)
 all_goals try (exfalso; have q : kindsM.has t.word = true := by assumption
                rw [hk1] at q; cases q)
 all_goals first
  | (have q : s.bks.has (t.texts.getD 0 []) = false := by first | exact hb | assumption
     have e1 : (if s.bks.has (t.texts.getD 0 []) then (0 : Int) else 8) = 8 := by rw [q]; rfl
     have e2 : (if s.bks.has (t.texts.getD 0 []) then { s with bks := s.bks.del (t.texts.getD 0 []) bk0 } else s : Off) = s := by rw [q]; rfl
     rw [e1, e2]; refine .ent _ _ (Entails.mk' (ts := [(4, .d (.int .i64 (8)))]) (rs := (1000009, KX) :: offO h vm sm (s)) rq9 rfl rfl ⟨lr, trivial⟩ ⟨rr, rr, rr, rr, rr, rr, rr, rr, rr, rr, rr, trivial⟩) ?_; refine .ret _ ?_; conv => whnf
     exact ⟨_, ⟨rfl, rfl⟩, rr, rr, rr, rr, rr, rr, rr, rr, rr, rr, rr, trivial⟩)
  | (have q : s.bks.has (t.texts.getD 0 []) = true := by first | exact hb | assumption
     have e1 : (if s.bks.has (t.texts.getD 0 []) then (0 : Int) else 8) = 0 := by rw [q]; rfl
     have e2 : (if s.bks.has (t.texts.getD 0 []) then { s with bks := s.bks.del (t.texts.getD 0 []) bk0 } else s : Off) = { s with bks := s.bks.del (t.texts.getD 0 []) bk0 } := by rw [q]; rfl
     rw [e1, e2]; refine .ent _ _ (Entails.mk' (ts := [(4, .d (.int .i64 (0)))]) (rs := (1000009, KX) :: offO h vm sm ({ s with bks := s.bks.del (t.texts.getD 0 []) bk0 })) rq9 rfl rfl ⟨lr, trivial⟩ ⟨rr, rr, rr, rr, rr, rr, rr, mpS_del, rr, rr, rr, trivial⟩) ?_; refine .ret _ ?_; conv => whnf
     exact ⟨_, ⟨rfl, rfl⟩, rr, rr, rr, rr, rr, rr, rr, rr, rr, rr, rr, trivial⟩)
def oQOfI155_19 : OL := [(0, []), (1, [0]), (2, [0]), (3, [0]), (4, [0]), (5, []), (6, []), (7, []), (8, [7]), (9, [8]), (10, [])]
def oQOfI155_22 : OL := [(0, []), (1, [0]), (2, [0, 1]), (3, [0, 1, 2]), (4, [0, 1, 2]), (5, [0, 1, 2]), (6, [0, 1, 2]), (7, rg 7), (8, rg 7), (9, rg 7), (10, rg 7), (11, [0]), (12, []), (13, []), (14, []), (15, [14]), (16, [15]), (17, [])]
def oQOfI155_11 : OL := [(0, []), (1, []), (2, []), (3, []), (4, rg 4), (5, rg 4), (6, rg 4), (7, rg 4), (8, [4, 5, 6, 7]), (9, [])]
def oQOfI155_12 : OL := [(0, []), (1, [0]), (2, [0, 1]), (3, [0, 1]), (4, [0, 1]), (5, [0, 1]), (6, rg 6), (7, rg 6), (8, rg 6), (9, rg 6), (10, []), (11, rg 11), (12, [])]
def oQOfI155_13 : OL := [(0, []), (1, [0]), (2, [0, 1]), (3, [0, 1]), (4, [0, 1]), (5, [0, 1]), (6, rg 6), (7, rg 6), (8, rg 6), (9, rg 6), (10, []), (11, rg 11), (12, [])]
def oQOfI155_40 : OL := [(0, []), (1, []), (2, []), (3, []), (4, rg 4), (5, rg 5), (6, [])]
def oQOfI112_1 : OL := [(0, []), (1, []), (7, [0, 1]), (2, [0, 1, 7]), (3, [7]), (4, [7]), (5, [7]), (6, [7, 5]), (8, [6]), (9, [])]
def oQOfI112_4 : OL := [(1, []), (2, []), (0, [1, 2]), (3, []), (4, []), (5, []), (6, [5]), (7, [6]), (8, [])]
def oQOfI112_6 : OL := [(0, []), (1, []), (2, [0, 1]), (3, [0, 1]), (4, [0, 1]), (5, [0, 1]), (6, rg 6), (7, rg 6), (8, rg 6), (9, rg 6), (10, rg 10), (11, []), (12, rg 12), (13, [])]
def oQOfI112_12 : OL := [(0, []), (1, [0]), (2, [0]), (3, [0]), (4, [0]), (5, rg 5), (6, rg 5), (7, rg 5), (8, rg 5), (9, rg 9), (10, rg 9), (11, rg 9), (12, rg 9), (13, rg 13), (14, rg 13), (15, rg 13), (16, rg 13), (17, rg 9), (18, rg 18), (19, rg 18), (20, rg 20), (21, rg 20), (22, rg 20), (23, rg 20), (24, [0]), (25, []), (26, [])]
def oQOfI112_14 : OL := [(0, []), (1, []), (2, []), (3, []), (4, rg 4), (5, rg 4), (6, rg 4), (7, rg 4), (8, []), (9, []), (10, []), (11, [10]), (12, rg 12), (13, [11]), (14, [])]
def oQOfI112_17 : OL := [(0, []), (1, []), (2, []), (3, []), (4, rg 4), (5, rg 4), (6, rg 4), (7, rg 4), (8, [])]
def oQOfI112_22 : OL := [(0, []), (1, [0]), (2, [0]), (3, [0]), (4, [0]), (5, rg 5), (6, rg 5), (7, rg 5), (8, rg 5), (9, []), (10, [])]
set_option maxHeartbeats 2000000 in
theorem wChange0 (h : Hou) (vm : Mp (List UInt8)) (sm : Mp Bool) (s : Off) (at0 : Int) (t : Tol) (h1 : 1 ≤ t.texts.length) (hh : s.his.has (t.texts.getD 0 []) = false) (hv : s.his.val (t.texts.getD 0 []) = none) :
 FSpec Tryz.prog 155 [.ptr 1000001 0, .d (.int .i64 at0), .agg ((tolF t).map .d)] (offR h vm sm s) (fun y r => y = .d (.int .i64 (chE vm sm s at0 t)) ∧ r = offO h vm sm (chS vm sm s at0 t)) := by
 have e1 : chE vm sm s at0 t = 8 := by unfold chE; rw [hh]; rfl
 have e2 : chS vm sm s at0 t = s := by unfold chS; rw [if_neg (by rw [e1]; decide)]
 rw [e1, e2]; refine spec_of hT (C := []) Tryz.func155 rfl Tryz.call155 rfl rfl rfl ?_; conv => whnf
 repeat' (first | ((first | (refine And.intro (rfl : zrow _ = some (hiO none)) ?_; refine rowSV_eq (row' := hiO none) (congrArg hiO hv) ?_) | (refine br_intro ?_ ?_ <;> intro hb <;> try simp only [brs] at hb) | refine rAx hT 19 oQOfI155_19 ?_ | refine rAx hT 22 oQOfI155_22 ?_ | refine rAx hT 11 oQOfI155_11 ?_ | refine rAx hT 12 oQOfI155_12 ?_ | refine rAx hT 13 oQOfI155_13 ?_ | refine rAx hT 40 oQOfI155_40 ?_ | omega | refine sAx ?_ | decide | assumption) <;> conv => whnf))
 all_goals first
  | (exfalso; have q : s.his.has (t.texts.getD 0 []) = true := hb
     rw [hh] at q; cases q)
  | (refine .ent _ _ (Entails.mk' (ts := [(6, .d (.int .i64 8))]) (rs := offO h vm sm s) rq3 rfl rfl ⟨lr, trivial⟩ ⟨rr, rr, rr, rr, rr, rr, rr, rr, rr, rr, trivial⟩) ?_
     refine .ret _ ?_; conv => whnf
     exact ⟨_, ⟨rfl, rfl⟩, rr, rr, rr, rr, rr, rr, rr, rr, rr, rr, trivial⟩)
set_option maxHeartbeats 4000000 in
theorem wFollowX (h : Hou) (hco : clsOk h.flt.cls) (vm : Mp (List UInt8)) (sm : Mp Bool) (s : Off) (hs : offOk s) (x : Ent) (hx : x.words.length ≤ 2^20) (hf : ∀ k, (formsM.val k).length ≤ 2^20) (ht : telOk formsM x.words = true) (t : Tol) (hte : telT formsM x.words = t) (hk : tolL t) (hk1 : kindsM.has t.word = false) (hw : t.word ≠ [98, 111, 111, 107]) (hw1 : t.word ≠ [99, 97, 110, 99, 101, 108]) (hw2 : t.word ≠ [115, 116, 97, 114, 116]) (hw3 : t.word ≠ [112, 97, 121]) :
 FSpec Tryz.prog 112 [.ptr 1000001 0, .agg ((enF x).map .d)] ((1000009, KX) :: offR h vm sm s) (fun y r => y = .d (.int .i64 (chE vm sm s x.tm t)) ∧ r = (1000009, KX) :: offO h vm sm (chS vm sm s x.tm t)) := by
 have c1 := wTell formsM hf x.words hx; rw [ht, if_pos rfl, hte] at c1; obtain ⟨l1, l2, l3, l4⟩ := hk.ch hk1 hw hw1 hw2 hw3; have l5 := hk.tx; have hlg := hs.log
 have c2 : FSpec Tryz.prog 155 [.ptr 1000001 0, .d (.int .i64 x.tm), .agg ((tolF t).map .d)] (offR h vm sm s) (fun y r => y = .d (.int .i64 (chE vm sm s x.tm t)) ∧ r = offO h vm sm (chS vm sm s x.tm t)) := by
  cases hh : s.his.has (t.texts.getD 0 []) with
  | false => exact wChange0 h vm sm s x.tm t l1 hh (hs.non _ hh)
  | true =>
    obtain ⟨g, g1, g2, g3, g4⟩ := hs.his _ hh; exact wChange h vm sm s (by omega) x.tm t l1 l2 l3 l4 (fun j => by have := l5 j; omega) g hh g1 g2 g3 g4
 refine spec_of hT (C := []) Tryz.func112 rfl Tryz.call112 rfl rfl rfl ?_; conv => whnf
 repeat' (first | ((first | (refine oAx wForms [(1, 20)] ?_; rintro y rout ⟨rfl, rfl⟩; refine ⟨rfl, ?_⟩) | (refine oAx wKinds [(1, 30)] ?_; rintro y rout ⟨rfl, rfl⟩; refine ⟨rfl, ?_⟩) | (refine oAx c1 [(1000001, 20), (1000009, 1000009)] ?_; rintro y rout ⟨rfl, rfl⟩; refine ⟨rfl, ?_⟩) | refine And.intro (rfl : zrow _ = some [DV.int .i64 0]) ?_ | (refine oAx (c2) rq2 ?_; rintro y rout ⟨rfl, rfl⟩; refine ⟨rfl, ?_⟩) | (refine br_intro ?_ ?_ <;> intro hb <;> try simp only [brs] at hb) | refine rAx hT 1 oQOfI112_1 ?_ | refine rAx hT 4 oQOfI112_4 ?_ | refine rAx hT 6 oQOfI112_6 ?_ | refine rAx hT 12 oQOfI112_12 ?_ | refine rAx hT 14 oQOfI112_14 ?_ | refine rAx hT 17 oQOfI112_17 ?_ | refine rAx hT 22 oQOfI112_22 ?_ | omega | refine sAx ?_ | decide | assumption) <;> conv => whnf))
 all_goals try (exfalso; contradiction)
 all_goals try (exfalso; have q : kindsM.has t.word = true := by assumption
                rw [hk1] at q; cases q)
 all_goals
  refine .ent _ _ (Entails.mk' (ts := [(4, .d (.int .i64 (chE vm sm s x.tm t)))]) (rs := (1000009, KX) :: offO h vm sm (chS vm sm s x.tm t)) rq10 rfl rfl ⟨lr, trivial⟩ ⟨rr, rr, rr, rr, rr, rr, rr, rr, rr, rr, rr, trivial⟩) ?_; refine .ret _ ?_; conv => whnf
  exact ⟨_, ⟨rfl, rfl⟩, rr, rr, rr, rr, rr, rr, rr, rr, rr, rr, rr, trivial⟩
def cT (f : List UInt8) : Nat → Nat
 | 0 => 0
 | i + 1 => if f.getD i 0 = 119 then cT f i + 1 else cT f i
def cN (f : List UInt8) : Nat → Nat
 | 0 => 0
 | i + 1 => if f.getD i 0 = 119 then cN f i else cN f i + 1
theorem txF_c (f : List UInt8) (w : List (List UInt8)) : ∀ i, (txF f w i).length = cT f i
 | 0 => rfl
 | i + 1 => by
   have := txF_c f w i; unfold txF cT; split
   · rw [List.length_append, List.length_singleton, this]
   · exact this
theorem nmF_c (f : List UInt8) (w : List (List UInt8)) : ∀ i, (nmF f w i).length = cN f i
 | 0 => rfl
 | i + 1 => by
   have := nmF_c f w i; unfold nmF cN; split
   · exact this
   · rw [List.length_append, List.length_singleton, this]
theorem txF_mem (f : List UInt8) (w : List (List UInt8)) {B : Nat} (h : ∀ j, (w.getD j []).length ≤ B) : ∀ i, ∀ x ∈ txF f w i, x.length ≤ B
 | 0 => fun x hx => by cases hx
 | i + 1 => fun x hx => by
   unfold txF at hx; split at hx
   · rcases List.mem_append.1 hx with q | q
     · exact txF_mem f w h i x q
     · rw [List.mem_singleton] at q; subst q; exact h i
   · exact txF_mem f w h i x hx
theorem nmF_mem (f : List UInt8) (w : List (List UInt8)) : ∀ i, (∀ j, j < i → (f.getD j 0 = 119 ∨ numOk (w.getD j []) = true)) → ∀ n ∈ nmF f w i, -10^9 ≤ n ∧ n ≤ 10^9
 | 0 => fun _ x hx => by cases hx
 | i + 1 => fun h x hx => by
   unfold nmF at hx; split at hx
   · exact nmF_mem f w i (fun j hj => h j (by omega)) x hx
   · rename_i hc; rcases List.mem_append.1 hx with q | q
     · exact nmF_mem f w i (fun j hj => h j (by omega)) x q
     · rw [List.mem_singleton] at q; subst q; rcases h i (by omega) with r | r
       · exact absurd r hc
       · exact numN_bd r
def wordsF : List (List UInt8) := [[101, 110, 116, 101, 114], [115, 104, 111, 112], [100, 111, 110, 101], [99, 111, 109, 101], [103, 111, 110, 101], [108, 101, 97, 118, 101], [98, 111, 111, 107], [99, 97, 110, 99, 101, 108], [115, 116, 97, 114, 116], [115, 119, 97, 112], [101, 120, 116, 101, 110, 100], [99, 108, 111, 115, 101], [112, 97, 121]]
theorem formsM_mem {s : List UInt8} (h : formsM.has s = true) : s ∈ wordsF := by
 have h' : (decide (s = [112, 97, 121]) || formsM.has s) = true := by rw [h]; simp
 simp only [formsM, Mp.put, Mp.nil, Bool.or_eq_true, decide_eq_true_eq, Bool.false_eq_true, or_false] at h; unfold wordsF; simp only [List.mem_cons, List.not_mem_nil, or_false]; grind
theorem put_len {m : Mp (List UInt8)} {x v : List UInt8} {B : Nat} (h : ∀ k, (m.val k).length ≤ B) (hv : v.length ≤ B) : ∀ k, ((m.put x v).val k).length ≤ B := fun k => by
 show (if k = x then v else m.val k).length ≤ B; split
 · exact hv
 · exact h k
theorem formsM_len : ∀ s : List UInt8, (formsM.val s).length ≤ 2^20 := by
 unfold formsM
 repeat (refine put_len ?_ (by simp))
 intro k; simp [Mp.nil]
def frmOk (k : List UInt8) : Bool :=
 let c := cT (formsM.val k) (formsM.val k).length
 let n := cN (formsM.val k) (formsM.val k).length
 (!kindsM.has k || decide (2 ≤ c)) && (!(kindsM.has k && decide (kindsM.val k = 6)) || decide (3 ≤ c)) && (!decide (k = [98, 111, 111, 107]) || decide (2 ≤ c ∧ 3 ≤ n)) && (!decide (k = [99, 97, 110, 99, 101, 108]) || decide (1 ≤ c)) && (!decide (k = [115, 116, 97, 114, 116]) || decide (4 ≤ c ∧ 3 ≤ n)) && (!decide (k = [112, 97, 121]) || decide (1 ≤ c ∧ 1 ≤ n))
 && (kindsM.has k || decide (k = [98, 111, 111, 107]) || decide (k = [99, 97, 110, 99, 101, 108]) || decide (k = [115, 116, 97, 114, 116]) || decide (k = [112, 97, 121]) || (decide (1 ≤ c) && (!decide (k = [101, 120, 116, 101, 110, 100]) || decide (1 ≤ n)) && (!decide (k = [99, 108, 111, 115, 101]) || decide (2 ≤ c ∧ 2 ≤ n)) && (decide (k = [101, 120, 116, 101, 110, 100]) || decide (k = [99, 108, 111, 115, 101]) || decide (3 ≤ c ∧ 4 ≤ n))))
theorem frm_all : wordsF.all frmOk = true := by decide +kernel
theorem getD_all {α : Type} {l : List α} {d : α} {P : α → Prop} (h : ∀ x ∈ l, P x) (hd : P d) (j : Nat) : P (l.getD j d) := by
 by_cases q : j < l.length
 · rw [List.getD_eq_getElem?_getD, List.getElem?_eq_getElem q]; exact h _ (List.getElem_mem q)
 · rw [List.getD_eq_getElem?_getD, List.getElem?_eq_none (by omega)]; exact hd
theorem telT_ok {w : List UInt8} (hw : w.length ≤ 2^20) (h : telOk formsM w = true) : tolL (telT formsM w) := by
 unfold telOk at h; simp only [Bool.and_eq_true, decide_eq_true_eq] at h; obtain ⟨h1, h2, h3, h4⟩ := h; have hmem : ∀ x ∈ Lib.split w [32], x.length ≤ w.length := fun x hx => split_mem hx
 have hF := List.all_eq_true.1 frm_all _ (formsM_mem h2); have hN := of_decide_eq_true h4; obtain ⟨k, hk⟩ : ∃ k, k = telW (Lib.split w [32]) := ⟨_, rfl⟩; obtain ⟨W1, hW1⟩ : ∃ W1, W1 = (Lib.split w [32]).drop 1 := ⟨_, rfl⟩; have hl : W1.length = (formsM.val k).length := by rw [hW1, List.length_drop, hk]; omega
 have hb : ∀ j, (W1.getD j []).length ≤ 2^20 := getD_all (l := W1) (d := []) (P := fun (x : List UInt8) => x.length ≤ 2^20) (fun x hx => by rw [hW1] at hx; have := hmem x (List.mem_of_mem_drop hx); omega) (by simp); unfold telT; rw [← hk] at hF hN ⊢; rw [← hW1] at hN ⊢; rw [hl]; rw [hl] at hN; have t1 : (txF (formsM.val k) W1 (formsM.val k).length).length = cT (formsM.val k) (formsM.val k).length := txF_c _ _ _; have t2 : (nmF (formsM.val k) W1 (formsM.val k).length).length = cN (formsM.val k) (formsM.val k).length := nmF_c _ _ _; unfold frmOk at hF; simp only at hF; rw [← t1, ← t2] at hF; have m1 := txF_mem (formsM.val k) W1 hb (formsM.val k).length; have m2 := nmF_mem (formsM.val k) W1 (formsM.val k).length (fun j hj => hN j (by omega)); generalize txF (formsM.val k) W1 (formsM.val k).length = X at hF m1 ⊢; generalize nmF (formsM.val k) W1 (formsM.val k).length = Y at hF m2 ⊢; refine ⟨getD_all m1 (by simp), getD_all m2 (by decide), ?_, ?_, ?_, ?_, ?_, ?_, ?_⟩; all_goals (dsimp only; clear m1 m2 t1 t2 hN hb hmem h2 h3 h4; simp only [Bool.and_eq_true, Bool.or_eq_true, Bool.not_eq_true', decide_eq_true_eq, Bool.and_eq_false_iff, decide_eq_false_iff_not] at hF; grind)
def folE (h : Hou) (vm : Mp (List UInt8)) (sm : Mp Bool) (s : Off) (x : Ent) : Int :=
 if telOk formsM x.words = false then 9
 else if kindsM.has (telT formsM x.words).word = true then evtE vm sm s (evOf x.tm (telT formsM x.words))
 else if (telT formsM x.words).word = [98, 111, 111, 107] then bookE h s ⟨(telT formsM x.words).texts.getD 0 [], (telT formsM x.words).texts.getD 1 [], (telT formsM x.words).nums.getD 0 0, (telT formsM x.words).nums.getD 1 0, x.tm, (telT formsM x.words).nums.getD 2 0⟩
 else if (telT formsM x.words).word = [99, 97, 110, 99, 101, 108] then (if s.bks.has ((telT formsM x.words).texts.getD 0 []) then 0 else 8)
 else if (telT formsM x.words).word = [115, 116, 97, 114, 116] then stE vm sm s x.tm (telT formsM x.words)
 else if (telT formsM x.words).word = [112, 97, 121] then payE s ((telT formsM x.words).texts.getD 0 []) ((telT formsM x.words).nums.getD 0 0)
 else chE vm sm s x.tm (telT formsM x.words)
def folO (h : Hou) (vm : Mp (List UInt8)) (sm : Mp Bool) (s : Off) (x : Ent) : Off :=
 if telOk formsM x.words = false then s
 else if kindsM.has (telT formsM x.words).word = true then evtS vm sm s (evOf x.tm (telT formsM x.words))
 else if (telT formsM x.words).word = [98, 111, 111, 107] then bookS h s ⟨(telT formsM x.words).texts.getD 0 [], (telT formsM x.words).texts.getD 1 [], (telT formsM x.words).nums.getD 0 0, (telT formsM x.words).nums.getD 1 0, x.tm, (telT formsM x.words).nums.getD 2 0⟩
 else if (telT formsM x.words).word = [99, 97, 110, 99, 101, 108] then (if s.bks.has ((telT formsM x.words).texts.getD 0 []) then { s with bks := s.bks.del ((telT formsM x.words).texts.getD 0 []) bk0 } else s)
 else if (telT formsM x.words).word = [115, 116, 97, 114, 116] then stS vm sm s x.tm (telT formsM x.words)
 else if (telT formsM x.words).word = [112, 97, 121] then payS s ((telT formsM x.words).texts.getD 0 []) ((telT formsM x.words).nums.getD 0 0)
 else chS vm sm s x.tm (telT formsM x.words)
theorem wFollow (h : Hou) (hco : clsOk h.flt.cls) (vm : Mp (List UInt8)) (sm : Mp Bool) (s : Off) (hs : offOk s) (x : Ent) (hx : x.words.length ≤ 2^20) :
 FSpec Tryz.prog 112 [.ptr 1000001 0, .agg ((enF x).map .d)] ((1000009, KX) :: offR h vm sm s) (fun y r => y = .d (.int .i64 (folE h vm sm s x)) ∧ r = (1000009, KX) :: offO h vm sm (folO h vm sm s x)) := by
 unfold folE folO
 cases ht : telOk formsM x.words with
 | false => rw [if_pos (show false = false from rfl), if_pos (show false = false from rfl)]; exact wFollow0 h vm sm s x hx formsM_len ht
 | true =>
   have hk := telT_ok hx ht; rw [if_neg (show ¬ (true = false) by simp), if_neg (show ¬ (true = false) by simp)]
   by_cases q : kindsM.has (telT formsM x.words).word = true
   · rw [if_pos q, if_pos q]; exact wFollowE h vm sm s hs x hx formsM_len ht _ rfl hk q
   have q' : kindsM.has (telT formsM x.words).word = false := by simpa using q
   rw [if_neg q, if_neg q]
   by_cases q1 : (telT formsM x.words).word = [98, 111, 111, 107]
   · rw [if_pos q1, if_pos q1]; exact wFollowB h hco vm sm s hs x hx formsM_len ht _ rfl hk q' q1
   rw [if_neg q1, if_neg q1]
   by_cases q2 : (telT formsM x.words).word = [99, 97, 110, 99, 101, 108]
   · rw [if_pos q2, if_pos q2]; exact wFollowC h hco vm sm s hs x hx formsM_len ht _ rfl hk q' q2 q1
   rw [if_neg q2, if_neg q2]
   by_cases q3 : (telT formsM x.words).word = [115, 116, 97, 114, 116]
   · rw [if_pos q3, if_pos q3]; exact wFollowS h hco vm sm s hs x hx formsM_len ht _ rfl hk q' q3 q1 q2
   rw [if_neg q3, if_neg q3]
   by_cases q4 : (telT formsM x.words).word = [112, 97, 121]
   · rw [if_pos q4, if_pos q4]; exact wFollowP h hco vm sm s hs x hx formsM_len ht _ rfl hk q' q4 q1 q2 q3
   rw [if_neg q4, if_neg q4]; exact wFollowX h hco vm sm s hs x hx formsM_len ht _ rfl hk q' q1 q2 q3 q4
theorem fol_same {h : Hou} {vm : Mp (List UInt8)} {sm : Mp Bool} {s : Off} {x : Ent} (e : folE h vm sm s x ≠ 0) : folO h vm sm s x = s := by
 unfold folE at e; unfold folO; split
 · rfl
 rename_i c0; rw [if_neg c0] at e; split
 · rename_i c; rw [if_pos c] at e; unfold evtS; rw [if_neg e]
 rename_i c1; rw [if_neg c1] at e; split
 · rename_i c; rw [if_pos c] at e; unfold bookS; rw [if_neg e]
 rename_i c2; rw [if_neg c2] at e; split
 · rename_i c; rw [if_pos c] at e; split
   · rename_i d; rw [if_pos d] at e; exact absurd rfl e
   · rfl
 rename_i c3; rw [if_neg c3] at e; split
 · rename_i c; rw [if_pos c] at e; unfold stS; rw [if_neg e]
 rename_i c4; rw [if_neg c4] at e; split
 · rename_i c; rw [if_pos c] at e; unfold payS; rw [if_neg e]
 rename_i c5; rw [if_neg c5] at e; unfold chS; rw [if_neg e]
variable (h : Hou) (vm : Mp (List UInt8)) (sm : Mp Bool)
def runC (s : Off) (l : List Ent) : Off := l.foldl (folO h vm sm) s
def keepC : Off → List Ent → List Ent
 | _, [] => []
 | s, x :: l => if folE h vm sm s x = 0 then x :: keepC (folO h vm sm s x) l else keepC s l
def refC : Off → Nat → List Ent → List Rfs
 | _, _, [] => []
 | s, i, x :: l => if folE h vm sm s x = 0 then refC (folO h vm sm s x) (i + 1) l else ⟨i, folE h vm sm s x⟩ :: refC s (i + 1) l
theorem runC_keep : ∀ (l : List Ent) (s : Off), runC h vm sm s (keepC h vm sm s l) = runC h vm sm s l
 | [], s => rfl
 | x :: l, s => by
   unfold keepC; split
   · rename_i e; show runC h vm sm (folO h vm sm s x) (keepC h vm sm (folO h vm sm s x) l) = runC h vm sm (folO h vm sm s x) l; exact runC_keep l _
   · rename_i e; rw [runC_keep l s]; show runC h vm sm s l = runC h vm sm (folO h vm sm s x) l; rw [fol_same e]
theorem refC_keep : ∀ (l : List Ent) (s : Off) (j : Nat), refC h vm sm s j (keepC h vm sm s l) = []
 | [], s, j => rfl
 | x :: l, s, j => by
   unfold keepC; split
   · rename_i e; rw [refC, if_pos e]; exact refC_keep l _ _
   · exact refC_keep l s j
theorem sayL_ref (s : Off) (r : List Rfs) (l : List Evn) : sayL { s with ref := r } l = { sayL s l with ref := r } := by
 unfold sayL
 induction l generalizing s with
 | nil => rfl
 | cons x l ih =>
   rw [List.foldl_cons, List.foldl_cons]; exact ih (sayS s x)
theorem folE_ref (s : Off) (r : List Rfs) (x : Ent) : folE h vm sm { s with ref := r } x = folE h vm sm s x := rfl
variable (h : Hou) (vm : Mp (List UInt8)) (sm : Mp Bool)
theorem evtS_ref (s : Off) (r : List Rfs) (x : Evn) : evtS vm sm { s with ref := r } x = { evtS vm sm s x with ref := r } := by
 unfold evtS; rw [show evtE vm sm { s with ref := r } x = evtE vm sm s x from rfl]; split <;> rfl
theorem bookS_ref (s : Off) (r : List Rfs) (b : Bok) : bookS h { s with ref := r } b = { bookS h s b with ref := r } := by
 unfold bookS; rw [show bookE h { s with ref := r } b = bookE h s b from rfl]; split <;> rfl
theorem payS_ref (s : Off) (r : List Rfs) (k : List UInt8) (c : Int) : payS { s with ref := r } k c = { payS s k c with ref := r } := by
 unfold payS; rw [show payE { s with ref := r } k c = payE s k c from rfl]; split <;> rfl
theorem stS_ref (s : Off) (r : List Rfs) (a : Int) (t : Tol) : stS vm sm { s with ref := r } a t = { stS vm sm s a t with ref := r } := by
 unfold stS; rw [show stE vm sm { s with ref := r } a t = stE vm sm s a t from rfl]; split <;> rfl
theorem chS_ref (s : Off) (r : List Rfs) (a : Int) (t : Tol) : chS vm sm { s with ref := r } a t = { chS vm sm s a t with ref := r } := by
 unfold chS; rw [show chE vm sm { s with ref := r } a t = chE vm sm s a t from rfl]; split
 · dsimp only
   rw [sayL_ref]
 · rfl
theorem folO_ref (s : Off) (r : List Rfs) (x : Ent) : folO h vm sm { s with ref := r } x = { folO h vm sm s x with ref := r } := by
 unfold folO; split
 · rfl
 split
 · exact evtS_ref vm sm s r _
 split
 · exact bookS_ref h s r _
 split
 · split <;> rfl
 split
 · exact stS_ref vm sm s r _ _
 split
 · exact payS_ref s r _ _
 exact chS_ref vm sm s r _ _
theorem firstE_mem : ∀ {l : List Int}, firstE l = 0 → ∀ x ∈ l, x = 0
 | [], _, _, hx => by cases hx
 | y :: l, h, x, hx => by
   unfold firstE at h
   by_cases q : y = 0
   · rw [if_pos q] at h; rcases List.mem_cons.1 hx with e | e
     · rw [e]; exact q
     · exact firstE_mem h x e
   · rw [if_neg q] at h; exact absurd h q
theorem isKeyB_len {s : List UInt8} (h : isKeyB s = true) : s.length ≤ 40 := by
 unfold isKeyB at h; simp only [Bool.and_eq_true, decide_eq_true_eq] at h; exact h.2
theorem rdgE_len {r : Rdg} (h : rdgE r = 0) : r.st.length ≤ 40 := by
 unfold rdgE at h; split at h
 · exact absurd h (by decide)
 split at h
 · exact absurd h (by decide)
 rename_i _ c; exact isKeyB_len (by simpa using c)
theorem legE_K {h : Hir} {i : Nat} (e : legE h i = 0) : lgK (h.legs.getD i lg0) := by
 unfold legE at e; split at e
 · exact absurd e (by decide)
 rename_i c1; split at e
 · rename_i c; exact absurd e c
 rename_i c2; have k1 := isKeyB_len (s := (h.legs.getD i lg0).veh) (by simpa using c1); have k2 := rdgE_len (r := (h.legs.getD i lg0).out) (by simpa using c2)
 have k3 : (h.legs.getD i lg0).inn.st.length ≤ 40 := by
  by_cases q : (h.legs.getD i lg0).inn.tm = -1
  · by_cases r : (h.legs.getD i lg0).inn.st = []
    · rw [r]; simp
    · exfalso; rw [if_pos q, if_pos (fun c => r c.1)] at e; grind
  · rw [if_neg q] at e; refine rdgE_len ?_; grind
 exact ⟨by omega, by omega, by omega⟩
theorem hirE_K {g : Hir} (h : hirE g = 0) : hiL g ∧ 1 ≤ g.legs.length ∧ g.legs.length ≤ 20 ∧ (isKeyB g.key = true ∧ isKeyB g.drv = true) ∧ timE g.frm g.to = 0 ∧ ∀ i, i < g.legs.length → legE g i = 0 := by
 unfold hirE at h; split at h
 · exact absurd h (by decide)
 rename_i c1; split at h
 · rename_i c; exact absurd h c
 rename_i c2; split at h
 · exact absurd h (by decide)
 rename_i c3; split at h
 · exact absurd h (by decide)
 rename_i c4; have hA := firstAt_all h; have k1 : isKeyB g.key = true := by cases e : isKeyB g.key with | true => rfl | false => exact absurd (.inl e) c1
 have k2 : isKeyB g.drv = true := by cases e : isKeyB g.drv with | true => rfl | false => exact absurd (.inr e) c1
 refine ⟨⟨by have := isKeyB_len k1; omega, by have := isKeyB_len k2; omega, by omega, fun x hx => ?_⟩, by omega, by omega, ⟨k1, k2⟩, by simpa using c2, hA⟩; obtain ⟨i, hi, rfl⟩ := mem_getD (d := lg0) hx; exact legE_K (hA i hi)
theorem mdE_zero {g g' : Hir} (h : mdE g g' = 0) : hirE g = 0 ∧ opnH g = true ∧ hirE g' = 0 := by
 unfold mdE at h
 by_cases q : goE g = 0
 · rw [if_neg (fun c => c q)] at h; exact ⟨(goE_zero q).1, (goE_zero q).2, h⟩
 · rw [if_pos q] at h; exact absurd h q
theorem setIn_veh {l : List Leg} (r : Rdg) (j : Nat) : ((setIn l r).getD j lg0).veh = (l.getD j lg0).veh := by
 unfold setIn; rw [List.getD_eq_getElem?_getD, List.getElem?_set]
 by_cases q : ((l.length : Int) - 1).toNat = j
 · subst q; rw [if_pos rfl]
   by_cases h : ((l.length : Int) - 1).toNat < l.length
   · rw [if_pos h]; rfl
   · rw [if_neg h, List.getD_eq_getElem?_getD, List.getElem?_eq_none (by omega)]
 · rw [if_neg q, List.getD_eq_getElem?_getD]
theorem exH_ne {g : Hir} {ri ro : Rdg} {v : List UInt8} (h1 : 1 ≤ g.legs.length) (h : hirE (exH g ri v ro) = 0) : v ≠ oldV g := by
 obtain ⟨_, _, _, _, _, hA⟩ := hirE_K h; have hl : (exH g ri v ro).legs.length = g.legs.length + 1 := by show (setIn g.legs ri ++ [_]).length = _; rw [List.length_append, setIn_len, List.length_singleton]
 have e := hA g.legs.length (by omega)
 have g1 : ((exH g ri v ro).legs.getD g.legs.length lg0).veh = v := by
  show ((setIn g.legs ri ++ [_]).getD _ _).veh = _; rw [List.getD_eq_getElem?_getD, List.getElem?_append_right (by rw [setIn_len]; omega), setIn_len, Nat.sub_self]; rfl
 have g2 : ((exH g ri v ro).legs.getD (g.legs.length - 1) lg0).veh = oldV g := by
  show ((setIn g.legs ri ++ [_]).getD _ _).veh = _; rw [List.getD_eq_getElem?_getD, List.getElem?_append_left (by rw [setIn_len]; omega), ← List.getD_eq_getElem?_getD, setIn_veh]; unfold oldV; rw [show ((g.legs.length : Int) - 1).toNat = g.legs.length - 1 by omega]
 intro hv; unfold legE at e; rw [g1, g2] at e; have c : 0 < g.legs.length ∧ v = oldV g := ⟨by omega, hv⟩; grind
structure offI (m n : Nat) (s : Off) : Prop where
 log : s.log.length ≤ m
 ats : ∀ v t, s.ats v t = true ↔ ∃ x ∈ s.log, x.veh = v ∧ x.tm = t
 apt : s.log.Pairwise fun a b => ¬ (a.veh = b.veh ∧ a.tm = b.tm)
 paid : ∀ k, 0 ≤ s.paid.val k ∧ s.paid.val k ≤ 10^9
 fb : ∃ L : List (List UInt8), L.length ≤ n ∧ ∀ k, s.bks.has k = true → k ∈ L
 fh : ∃ L : List (List UInt8), L.length ≤ n ∧ ∀ k, s.his.has k = true → k ∈ L
 non : ∀ k, s.his.has k = false → s.his.val k = none
 his : ∀ k, s.his.has k = true → ∃ g, s.his.val k = some g ∧ hirE g = 0
theorem offI.ok {m n : Nat} {s : Off} (h : offI m n s) (hm : m ≤ 2^18) (hn : n < 500) : offOk s where
 log := by have := h.log; omega
 paid k := by have := h.paid k; omega
 fb := by obtain ⟨L, h1, h2⟩ := h.fb; exact ⟨L, by omega, h2⟩
 fh := by obtain ⟨L, h1, h2⟩ := h.fh; exact ⟨L, by omega, h2⟩
 non := h.non
 his k q := by
  obtain ⟨g, h1, h2⟩ := h.his k q; obtain ⟨k1, k2, k3, _⟩ := hirE_K h2; exact ⟨g, h1, k1, k2, by omega⟩
theorem offI.up {m n m' n' : Nat} {s : Off} (h : offI m n s) (hm : m ≤ m') (hn : n ≤ n') : offI m' n' s where
 log := by have := h.log; omega
 ats := h.ats
 apt := h.apt
 paid := h.paid
 fb := by obtain ⟨L, h1, h2⟩ := h.fb; exact ⟨L, by omega, h2⟩
 fh := by obtain ⟨L, h1, h2⟩ := h.fh; exact ⟨L, by omega, h2⟩
 non := h.non
 his := h.his
theorem canE_zero {s : Off} {x : Evn} (h : canE s x = 0) : s.ats x.veh x.tm = false ∧ folOk (s.sts.val x.veh) x = true := by
 unfold canE at h; have h1 := firstE_mem h _ (List.mem_cons_self ..); have h2 := firstE_mem h _ (List.mem_cons_of_mem _ (List.mem_cons_self ..)); constructor
 · cases q : s.ats x.veh x.tm with
   | false => rfl
   | true => rw [q, if_pos rfl] at h1; exact absurd h1 (by decide)
 · cases q : folOk (s.sts.val x.veh) x with
   | true => rfl
   | false => rw [q] at h2; exact absurd h2 (by decide)
theorem offI.say {m n : Nat} {s : Off} (h : offI m n s) {x : Evn} (hc : s.ats x.veh x.tm = false) : offI (m + 1) n (sayS s x) where
 log := by show (s.log ++ [x]).length ≤ _; rw [List.length_append, List.length_singleton]; have := h.log; omega
 ats v t := by
  show atPut s.ats x.veh x.tm v t = true ↔ ∃ y ∈ s.log ++ [x], y.veh = v ∧ y.tm = t; unfold atPut; rw [Bool.or_eq_true, h.ats v t]; simp only [Bool.and_eq_true, decide_eq_true_eq, List.mem_append, List.mem_singleton]; constructor
  · rintro (⟨h1, h2⟩ | ⟨y, h1, h2⟩)
    · exact ⟨x, .inr rfl, h1.symm, h2.symm⟩
    · exact ⟨y, .inl h1, h2⟩
  · rintro ⟨y, h1 | h1, h2⟩
    · exact .inr ⟨y, h1, h2⟩
    · subst h1; exact .inl ⟨h2.1.symm, h2.2.symm⟩
 apt := by
  show (s.log ++ [x]).Pairwise _; rw [List.pairwise_append]; refine ⟨h.apt, List.pairwise_singleton _ _, fun a ha b hb => ?_⟩; rw [List.mem_singleton] at hb; subst hb; intro q; have := (h.ats b.veh b.tm).2 ⟨a, ha, q⟩; rw [hc] at this; cases this
 paid := h.paid
 fb := h.fb
 fh := h.fh
 non := h.non
 his := h.his
theorem evtS_I {m n : Nat} {s : Off} (h : offI m n s) (vm : Mp (List UInt8)) (sm : Mp Bool) (x : Evn) : offI (m + 1) n (evtS vm sm s x) := by
 unfold evtS; split
 · rename_i e; unfold evtE at e; exact h.say (canE_zero (firstE_mem e _ (by simp))).1
 · exact h.up (by omega) (Nat.le_refl _)
theorem put_keys {α : Type} {n : Nat} {m : Mp α} {k : List UInt8} {v : α} (h : ∃ L : List (List UInt8), L.length ≤ n ∧ ∀ k, m.has k = true → k ∈ L) : ∃ L : List (List UInt8), L.length ≤ n + 1 ∧ ∀ j, (m.put k v).has j = true → j ∈ L := by
 obtain ⟨L, h1, h2⟩ := h; refine ⟨k :: L, by rw [List.length_cons]; omega, fun j hj => ?_⟩; have hj : (decide (j = k) || m.has j) = true := hj; rw [Bool.or_eq_true, decide_eq_true_eq] at hj; rcases hj with e | e
 · rw [e]; exact List.mem_cons_self ..
 · exact List.mem_cons_of_mem _ (h2 j e)
theorem del_keys {α : Type} {n : Nat} {m : Mp α} {k : List UInt8} {z : α} (h : ∃ L : List (List UInt8), L.length ≤ n ∧ ∀ k, m.has k = true → k ∈ L) : ∃ L : List (List UInt8), L.length ≤ n ∧ ∀ j, (m.del k z).has j = true → j ∈ L := by
 obtain ⟨L, h1, h2⟩ := h; refine ⟨L, h1, fun j hj => ?_⟩; have hj : (!decide (j = k) && m.has j) = true := hj; rw [Bool.and_eq_true] at hj; exact h2 j hj.2
theorem up_keys {n n' : Nat} {p : List UInt8 → Bool} (h : ∃ L : List (List UInt8), L.length ≤ n ∧ ∀ k, p k = true → k ∈ L) (hn : n ≤ n') : ∃ L : List (List UInt8), L.length ≤ n' ∧ ∀ k, p k = true → k ∈ L := by
 obtain ⟨L, h1, h2⟩ := h; exact ⟨L, by omega, h2⟩
theorem put_his {m : Mp (Option Hir)} {k : List UInt8} {g : Hir} (h1 : ∀ k, m.has k = false → m.val k = none) (h2 : ∀ k, m.has k = true → ∃ g, m.val k = some g ∧ hirE g = 0) (hg : hirE g = 0) :
 (∀ j, (m.put k (some g)).has j = false → (m.put k (some g)).val j = none) ∧ ∀ j, (m.put k (some g)).has j = true → ∃ g', (m.put k (some g)).val j = some g' ∧ hirE g' = 0 := by
 refine ⟨fun j hj => ?_, fun j hj => ?_⟩
 · have hj : (decide (j = k) || m.has j) = false := hj; rw [Bool.or_eq_false_iff, decide_eq_false_iff_not] at hj; show (if j = k then some g else m.val j) = none; rw [if_neg hj.1]; exact h1 j hj.2
 · have hj : (decide (j = k) || m.has j) = true := hj; show ∃ g', (if j = k then some g else m.val j) = some g' ∧ _
   by_cases q : j = k
   · rw [if_pos q]; exact ⟨g, rfl, hg⟩
   · rw [if_neg q]; refine h2 j ?_; rw [Bool.or_eq_true, decide_eq_true_eq] at hj; rcases hj with e | e
     · exact absurd e q
     · exact e
theorem bookS_I {m n : Nat} {s : Off} (h : offI m n s) (hh : Hou) (b : Bok) : offI m (n + 1) (bookS hh s b) := by
 unfold bookS; split
 · exact ⟨h.log, h.ats, h.apt, h.paid, put_keys h.fb, up_keys h.fh (by omega), h.non, h.his⟩
 · exact h.up (Nat.le_refl _) (by omega)
theorem payS_I {m n : Nat} {s : Off} (h : offI m n s) (k : List UInt8) (c : Int) : offI m n (payS s k c) := by
 unfold payS; split
 · rename_i e; unfold payE at e; have e2 := firstE_mem e _ (List.mem_cons_of_mem _ (List.mem_cons_self ..)); have e3 := firstE_mem e _ (List.mem_cons_of_mem _ (List.mem_cons_of_mem _ (List.mem_cons_self ..)))
   have k1 : 0 ≤ c ∧ c ≤ 1000000000 := by
    by_cases q : 0 ≤ c ∧ c ≤ 1000000000
    · exact q
    · rw [decide_eq_false q] at e2; exact absurd e2 (by decide)
   have k2 : ¬ 1000000000 < s.paid.val k + c := fun q => by rw [if_pos q] at e3; exact absurd e3 (by decide)
   refine ⟨h.log, h.ats, h.apt, fun j => ?_, h.fb, h.fh, h.non, h.his⟩; show 0 ≤ (if j = k then _ else s.paid.val j) ∧ (if j = k then _ else s.paid.val j) ≤ _; have := h.paid j; have := h.paid k
   by_cases q : j = k
   · rw [if_pos q]; omega
   · rw [if_neg q]; omega
 · exact h
theorem stS_I {m n : Nat} {s : Off} (h : offI m n s) (vm : Mp (List UInt8)) (sm : Mp Bool) (a : Int) (t : Tol) : offI (m + 1) (n + 1) (stS vm sm s a t) := by
 unfold stS; split
 · rename_i e; unfold stE at e
   by_cases q : hirE (stHi a t) = 0
   · rw [if_neg (fun c => c q)] at e; have k1 := (canE_zero (firstE_mem e (canE s (stEv a t)) (by simp))).1; have k2 := h.say k1; obtain ⟨k3, k4⟩ := put_his (k := t.texts.getD 0 []) h.non h.his q; exact ⟨k2.log, k2.ats, k2.apt, h.paid, up_keys (del_keys h.fb) (by omega), put_keys h.fh, k3, k4⟩
   · rw [if_pos q] at e; exact absurd e q
 · exact h.up (by omega) (by omega)
theorem chG_zero {vm : Mp (List UInt8)} {sm : Mp Bool} {s : Off} {g : Hir} {a : Int} {t : Tol} (h : chG vm sm s g a t = 0) : (hirE g = 0 ∧ opnH g = true ∧ hirE (chNext g a t) = 0) ∧ chKn vm sm t = true ∧ ∀ i, i < (chEvs g a t).length → canE s ((chEvs g a t).getD i ev0) = 0 := by
 unfold chG at h
 by_cases q : firstE [mdE g (chNext g a t), if (!chKn vm sm t) then 8 else 0] = 0
 · rw [if_neg (fun c => c q)] at h; have e2 := firstE_mem q _ (List.mem_cons_of_mem _ (List.mem_cons_self ..)); refine ⟨mdE_zero (firstE_mem q _ (List.mem_cons_self ..)), ?_, firstAt_all h⟩
   cases k : chKn vm sm t with
   | true => rfl
   | false => rw [k] at e2; exact absurd e2 (by decide)
 · rw [if_pos q] at h; exact absurd h q
theorem sayL_I {m n : Nat} {s : Off} (h : offI m n s) {vm : Mp (List UInt8)} {sm : Mp Bool} {g : Hir} {a : Int} {t : Tol} (e : chG vm sm s g a t = 0) : offI (m + 2) n (sayL s (chEvs g a t)) := by
 obtain ⟨⟨h1, h2, h3⟩, h4, h5⟩ := chG_zero e; unfold chEvs at h5 ⊢
 by_cases w1 : t.word = [101, 120, 116, 101, 110, 100]
 · rw [if_pos w1]; exact h.up (by omega) (Nat.le_refl _)
 rw [if_neg w1] at h5 ⊢
 by_cases w2 : t.word = [99, 108, 111, 115, 101]
 · rw [if_pos w2] at h5 ⊢; exact (h.say (canE_zero (h5 0 (by simp))).1).up (by omega) (Nat.le_refl _)
 rw [if_neg w2] at h5 ⊢; unfold chNext at h3; rw [if_neg w1, if_neg w2] at h3; have hne := exH_ne (by have := (hirE_K h1).2.1; omega) h3; have k1 := (canE_zero (h5 0 (by simp))).1; have k2 := (canE_zero (h5 1 (by simp))).1; refine (h.say k1).say (x := ⟨a, t.texts.getD 2 [], t.texts.getD 1 [], 2, []⟩) ?_; show ((decide (t.texts.getD 2 [] = oldV g) && decide (a = a)) || s.ats (t.texts.getD 2 []) a) = false; rw [decide_eq_false hne, Bool.false_and, Bool.false_or]; exact k2
theorem chS_I {m n : Nat} {s : Off} (h : offI m n s) (vm : Mp (List UInt8)) (sm : Mp Bool) (a : Int) (t : Tol) : offI (m + 2) (n + 1) (chS vm sm s a t) := by
 unfold chS; split
 · rename_i e; unfold chE at e
   by_cases q : s.his.has (t.texts.getD 0 []) = true
   · rw [if_pos q] at e; have k2 := sayL_I h e; obtain ⟨⟨h1, h2, h3⟩, _⟩ := chG_zero e; obtain ⟨k3, k4⟩ := put_his (k := t.texts.getD 0 []) k2.non k2.his h3; exact ⟨k2.log, k2.ats, k2.apt, k2.paid, up_keys k2.fb (by omega), put_keys k2.fh, k3, k4⟩
   · rw [if_neg q] at e; exact absurd e (by decide)
 · exact h.up (by omega) (by omega)
theorem folO_I {m n : Nat} {s : Off} (k : offI m n s) (h : Hou) (vm : Mp (List UInt8)) (sm : Mp Bool) (x : Ent) : offI (m + 2) (n + 1) (folO h vm sm s x) := by
 unfold folO; split
 · exact k.up (by omega) (by omega)
 split
 · exact (evtS_I k vm sm _).up (by omega) (by omega)
 split
 · exact (bookS_I k h _).up (by omega) (by omega)
 split
 · split
   · exact ⟨by have := k.log; show s.log.length ≤ _; omega, k.ats, k.apt, k.paid, up_keys (del_keys k.fb) (by omega), up_keys k.fh (by omega), k.non, k.his⟩
   · exact k.up (by omega) (by omega)
 split
 · exact (stS_I k vm sm _ _).up (by omega) (by omega)
 split
 · exact (payS_I k _ _).up (by omega) (by omega)
 exact chS_I k vm sm _ _
theorem runC_I {h : Hou} {vm : Mp (List UInt8)} {sm : Mp Bool} : ∀ (l : List Ent) {m n : Nat} {s : Off}, offI m n s → offI (m + 2 * l.length) (n + l.length) (runC h vm sm s l)
 | [], m, n, s, k => k
 | x :: l, m, n, s, k => (runC_I l (folO_I k h vm sm x)).up (by rw [List.length_cons]; omega) (by rw [List.length_cons]; omega)
def off0 : Off := ⟨Mp.nil ss0, [], fun _ _ => false, Mp.nil bk0, Mp.nil none, Mp.nil 0, []⟩
theorem off0_I : offI 0 0 off0 where
 log := Nat.le_refl _
 ats v t := ⟨fun h => (by cases h), fun ⟨x, h, _⟩ => (by cases h)⟩
 apt := List.Pairwise.nil
 paid k := by show (0:Int) ≤ 0 ∧ (0:Int) ≤ _; omega
 fb := ⟨[], Nat.le_refl _, fun k h => by cases h⟩
 fh := ⟨[], Nat.le_refl _, fun k h => by cases h⟩
 non k h := rfl
 his k h := by cases h
variable (h : Hou) (vm : Mp (List UInt8)) (sm : Mp Bool)
theorem runC_snoc (l : List Ent) (x : Ent) (s : Off) : runC h vm sm s (l ++ [x]) = folO h vm sm (runC h vm sm s l) x := by
 unfold runC; rw [List.foldl_append]; rfl
theorem refC_snoc (x : Ent) : ∀ (l : List Ent) (s : Off) (j : Nat), refC h vm sm s j (l ++ [x]) = refC h vm sm s j l ++ (if folE h vm sm (runC h vm sm s l) x = 0 then [] else [⟨((j + l.length : Nat) : Int), folE h vm sm (runC h vm sm s l) x⟩])
 | [], s, j => by
   show (if folE h vm sm s x = 0 then _ else _) = [] ++ (if folE h vm sm s x = 0 then _ else _)
   by_cases e : folE h vm sm s x = 0
   · rw [if_pos e, if_pos e]; rfl
   · rw [if_neg e, if_neg e]; rfl
 | y :: l, s, j => by
   have e1 : runC h vm sm s (y :: l) = runC h vm sm (folO h vm sm s y) l := rfl; have e3 : j + (y :: l).length = (j + 1) + l.length := by rw [List.length_cons]; omega
   rw [List.cons_append, refC, refC, e1, e3]
   by_cases e : folE h vm sm s y = 0
   · rw [if_pos e, if_pos e]; exact refC_snoc x l _ _
   · rw [if_neg e, if_neg e, fol_same e, refC_snoc x l s (j + 1)]; rfl
def offN (l : List Ent) (i : Nat) : Off := { runC h vm sm off0 (l.take i) with ref := refC h vm sm off0 0 (l.take i) }
theorem offN_good {l : List Ent} {i : Nat} (hi : i < l.length) (e : folE h vm sm (offN h vm sm l i) (l.getD i en0) = 0) : offN h vm sm l (i + 1) = folO h vm sm (offN h vm sm l i) (l.getD i en0) := by
 have hx : l.take (i + 1) = l.take i ++ [l.getD i en0] := by
  rw [List.take_succ_eq_append_getElem hi, List.getD_eq_getElem?_getD, List.getElem?_eq_getElem hi]; rfl
 unfold offN at e ⊢; rw [folE_ref] at e; rw [folO_ref, hx, runC_snoc, refC_snoc, if_pos e, List.append_nil]
theorem offN_bad {l : List Ent} {i : Nat} (hi : i < l.length) (e : folE h vm sm (offN h vm sm l i) (l.getD i en0) ≠ 0) : offN h vm sm l (i + 1) = { offN h vm sm l i with ref := (offN h vm sm l i).ref ++ [⟨i, folE h vm sm (offN h vm sm l i) (l.getD i en0)⟩] } := by
 have hx : l.take (i + 1) = l.take i ++ [l.getD i en0] := by
  rw [List.take_succ_eq_append_getElem hi, List.getD_eq_getElem?_getD, List.getElem?_eq_getElem hi]; rfl
 unfold offN at e ⊢; rw [folE_ref] at e ⊢; rw [hx, runC_snoc, refC_snoc, if_neg e, fol_same e, List.length_take, Nat.min_eq_left (by omega), Nat.zero_add]
theorem offI_ref {m n : Nat} {s : Off} (k : offI m n s) (r : List Rfs) : offI m n { s with ref := r } := ⟨k.log, k.ats, k.apt, k.paid, k.fb, k.fh, k.non, k.his⟩
theorem offN_I (l : List Ent) (i : Nat) (hi : i ≤ l.length) : offI (2 * i) i (offN h vm sm l i) := by
 have := runC_I (h := h) (vm := vm) (sm := sm) (l.take i) off0_I; rw [List.length_take, Nat.min_eq_left hi] at this; exact offI_ref (this.up (by omega) (by omega)) _
theorem refC_len : ∀ (l : List Ent) (s : Off) (j : Nat), (refC h vm sm s j l).length ≤ l.length
 | [], s, j => Nat.le_refl _
 | x :: l, s, j => by
   rw [refC]; split
   · have := refC_len l (folO h vm sm s x) (j + 1); rw [List.length_cons]; omega
   · have := refC_len l s (j + 1); rw [List.length_cons, List.length_cons]; omega
theorem offN_ref (l : List Ent) (i : Nat) : (offN h vm sm l i).ref.length ≤ l.length := by
 have := refC_len h vm sm (l.take i) off0 0; rw [List.length_take] at this; show (refC h vm sm off0 0 (l.take i)).length ≤ _; omega
def vmO (l : List Veh) : Mp (List UInt8) := l.foldl (fun m v => m.put v.key v.cls) (Mp.nil [])
def smO (l : List Sta) : Mp Bool := l.foldl (fun m s => m.put s.key true) (Mp.nil false)
theorem vmO_succ {l : List Veh} {i : Nat} (hi : i < l.length) : vmO (l.take (i + 1)) = (vmO (l.take i)).put (l.getD i veh0).key (l.getD i veh0).cls := by
 unfold vmO; rw [List.take_succ_eq_append_getElem hi, List.foldl_append, List.getD_eq_getElem?_getD, List.getElem?_eq_getElem hi]; rfl
theorem smO_succ {l : List Sta} {i : Nat} (hi : i < l.length) : smO (l.take (i + 1)) = (smO (l.take i)).put (l.getD i sta0).key true := by
 unfold smO; rw [List.take_succ_eq_append_getElem hi, List.foldl_append, List.getD_eq_getElem?_getD, List.getElem?_eq_getElem hi]; rfl
def offZ (h : Hou) (l : List Ent) : Off := offN h (vmO h.flt.veh) (smO h.flt.sta) l l.length
structure TOrd {α : Type} (f : α → α → Int) : Prop where
 sw : ∀ a b, f a b = - f b a
 tr : ∀ a b c, f a b < 0 → f b c < 0 → f a c < 0
 co : ∀ a b, f a b = 0 → ∀ c, f a c = f b c
theorem TOrd.co' {α : Type} {f : α → α → Int} (h : TOrd f) {a b : α} (e : f a b = 0) (c : α) : f c a = f c b := by
 rw [h.sw c a, h.sw c b, h.co a b e c]
theorem TOrd.int {α : Type} (k : α → Int) : TOrd fun a b => cmpI (k a) (k b) where
 sw a b := cmpI_sw _ _
 tr a b c h1 h2 := by rw [cmpI_lt] at *; omega
 co a b e c := by rw [cmpI_zero.1 e]
theorem TOrd.str {α : Type} (k : α → List UInt8) : TOrd fun a b => cmpS (k a) (k b) where
 sw a b := cmpS_sw _ _
 tr a b c h1 h2 := cmpS_trans h1 h2
 co a b e c := by rw [cmpS_zero.1 e]
def seq2 {α : Type} (f g : α → α → Int) : α → α → Int := fun a b => if f a b = 0 then g a b else f a b
theorem TOrd.seq {α : Type} {f g : α → α → Int} (hf : TOrd f) (hg : TOrd g) : TOrd (seq2 f g) where
 sw a b := by
  have h1 := hf.sw a b; have h2 := hg.sw a b; unfold seq2
  by_cases e : f a b = 0
  · rw [if_pos e, if_pos (by omega)]; exact h2
  · rw [if_neg e, if_neg (by omega)]; exact h1
 tr a b c h1 h2 := by
  unfold seq2 at *
  by_cases e1 : f a b = 0
  · rw [if_pos e1] at h1; have k := hf.co a b e1 c
    by_cases e2 : f b c = 0
    · rw [if_pos e2] at h2; rw [if_pos (by omega)]; exact hg.tr a b c h1 h2
    · rw [if_neg e2] at h2; rw [if_neg (by omega)]; omega
  · rw [if_neg e1] at h1
    by_cases e2 : f b c = 0
    · have k := hf.co' e2 a; rw [if_neg (by omega)]; omega
    · rw [if_neg e2] at h2; have := hf.tr a b c h1 h2; rw [if_neg (by omega)]; exact this
 co a b e c := by
  unfold seq2 at *
  by_cases e1 : f a b = 0
  · rw [if_pos e1] at e; rw [hf.co a b e1 c, hg.co a b e c]
  · rw [if_neg e1] at e; exact absurd e e1
theorem TOrd.le_tr {α : Type} {f : α → α → Int} (h : TOrd f) {a b c : α} (h1 : f a b ≤ 0) (h2 : f b c ≤ 0) : f a c ≤ 0 := by
 by_cases e1 : f a b = 0
 · rw [h.co a b e1 c]; exact h2
 · by_cases e2 : f b c = 0
   · rw [← h.co' e2 a]; exact h1
   · have := h.tr a b c (by omega) (by omega); omega
theorem pw_getD {α : Type} {R : α → α → Prop} {l : List α} (d : α) : l.Pairwise R ↔ ∀ i j, i < j → j < l.length → R (l.getD i d) (l.getD j d) := by
 rw [List.pairwise_iff_getElem]; constructor
 · intro h i j hij hj; rw [List.getD_eq_getElem?_getD, List.getD_eq_getElem?_getD, List.getElem?_eq_getElem (by omega), List.getElem?_eq_getElem hj]; exact h i j _ hj hij
 · intro h i j hi hj hij; have := h i j hij hj; rw [List.getD_eq_getElem?_getD, List.getD_eq_getElem?_getD, List.getElem?_eq_getElem hi, List.getElem?_eq_getElem hj] at this; exact this
theorem entCmp_seq : entCmp = seq2 (fun a b => cmpI a.tm b.tm) (seq2 (fun a b => cmpS a.desk b.desk) (fun a b => cmpI a.no b.no)) := by
 funext a b
 unfold entCmp seq2; simp only [firstE]; grind
theorem entCmp_ord : TOrd entCmp := by
 rw [entCmp_seq]; exact (TOrd.int (fun a : Ent => a.tm)).seq ((TOrd.str (fun a : Ent => a.desk)).seq (TOrd.int (fun a : Ent => a.no)))
structure entsR (l : List Ent) : Prop where
 len : l.length ≤ 1000
 frm : ∀ x ∈ l, frmE x = 0
 ord : l.Pairwise fun a b => entCmp a b < 0
 dup : l.Pairwise fun a b => eqE a b = false
theorem entE_zero {l : List Ent} {i : Nat} : entE l i = 0 ↔ frmE (l.getD i en0) = 0 ∧ (0 < i → entCmp (l.getD (i - 1) en0) (l.getD i en0) < 0) ∧ dupE (l.take i) (l.getD i en0) = false := by
 unfold entE
 by_cases h1 : frmE (l.getD i en0) = 0
 · rw [if_neg (fun c => c h1)]
   by_cases h2 : 0 < i ∧ 0 ≤ entCmp (l.getD (i - 1) en0) (l.getD i en0)
   · rw [if_pos h2]; exact ⟨fun h => absurd h (by decide), fun h => by have := h.2.1 h2.1; omega⟩
   · rw [if_neg h2]
     cases h3 : dupE (l.take i) (l.getD i en0) with
     | true => exact ⟨fun h => absurd h (by decide), fun h => by cases h.2.2⟩
     | false => exact ⟨fun _ => ⟨h1, fun q => by omega, rfl⟩, fun _ => rfl⟩
 · rw [if_pos h1]; exact ⟨fun h => absurd h h1, fun h => absurd h.1 h1⟩
theorem dupE_iff {l : List Ent} {x : Ent} : dupE l x = false ↔ ∀ y ∈ l, eqE y x = false := by
 show (l.any fun y => y.desk == x.desk && decide (y.no = x.no)) = false ↔ _; rw [List.any_eq_false]; refine ⟨fun h y hy => ?_, fun h y hy => ?_⟩
 · have := h y hy; unfold eqE; simpa using this
 · have := h y hy; unfold eqE at this; rw [this]; simp
theorem ents_iff {l : List Ent} : entsE l = 0 ↔ entsR l := by
 constructor
 · intro h; unfold entsE at h
   by_cases hl : 1000 < l.length
   · rw [if_pos hl] at h; exact absurd h (by decide)
   rw [if_neg hl] at h; have hA := fun i hi => entE_zero.1 (firstAt_all h i hi)
   refine ⟨by omega, fun x hx => ?_, (pw_getD en0).2 fun i j => ?_, (pw_getD en0).2 fun i j hij hj => ?_⟩
   · obtain ⟨i, hi, rfl⟩ := mem_getD (d := en0) hx; exact (hA i hi).1
   · induction j with
     | zero => intro hij; omega
     | succ j ih =>
       intro hij hj; have h1 := (hA (j + 1) hj).2.1 (by omega); rw [Nat.add_sub_cancel] at h1
       by_cases q : i = j
       · rw [q]; exact h1
       · exact entCmp_ord.tr _ _ _ (ih (by omega) (by omega)) h1
   · have h1 := dupE_iff.1 (hA j hj).2.2; refine h1 _ ?_
     have : l.getD i en0 = (l.take j).getD i en0 := by
      rw [List.getD_eq_getElem?_getD, List.getD_eq_getElem?_getD, List.getElem?_take_of_lt hij]
     rw [this]; exact getD_mem (by rw [List.length_take]; omega)
 · intro h; unfold entsE; rw [if_neg (by have := h.len; omega)]; refine firstAt_zero fun i hi => entE_zero.2 ⟨h.frm _ (getD_mem hi), fun q => (pw_getD en0).1 h.ord (i - 1) i (by omega) hi, dupE_iff.2 fun y hy => ?_⟩
   obtain ⟨j, hj, rfl⟩ := mem_getD (d := en0) hy; rw [List.length_take] at hj
   have : (l.take i).getD j en0 = l.getD j en0 := by
    rw [List.getD_eq_getElem?_getD, List.getD_eq_getElem?_getD, List.getElem?_take_of_lt (by omega)]
   rw [this]; exact (pw_getD en0).1 h.dup j i (by omega) hi
theorem entsR.sub {l m : List Ent} (h : entsR l) (hs : m.Sublist l) : entsR m :=
 ⟨Nat.le_trans hs.length_le h.len, fun x hx => h.frm x (hs.subset hx), h.ord.sublist hs, h.dup.sublist hs⟩
section
variable (h : Hou) (vm : Mp (List UInt8)) (sm : Mp Bool)
theorem keepC_sub : ∀ (l : List Ent) (s : Off), (keepC h vm sm s l).Sublist l
 | [], s => List.Sublist.refl _
 | x :: l, s => by
   unfold keepC; split
   · exact (keepC_sub l _).cons_cons x
   · exact (keepC_sub l s).cons x
theorem keepC_snoc (x : Ent) : ∀ (l : List Ent) (s : Off), keepC h vm sm s (l ++ [x]) = keepC h vm sm s l ++ (if folE h vm sm (runC h vm sm s l) x = 0 then [x] else [])
 | [], s => by
   show (if folE h vm sm s x = 0 then _ else _) = [] ++ (if folE h vm sm s x = 0 then _ else _)
   by_cases e : folE h vm sm s x = 0
   · rw [if_pos e, if_pos e]; rfl
   · rw [if_neg e, if_neg e]; rfl
 | y :: l, s => by
   have e1 : runC h vm sm s (y :: l) = runC h vm sm (folO h vm sm s y) l := rfl; rw [List.cons_append, keepC, keepC, e1]
   by_cases e : folE h vm sm s y = 0
   · rw [if_pos e, if_pos e, keepC_snoc x l _]; rfl
   · rw [if_neg e, if_neg e, fol_same e]; exact keepC_snoc x l s
def hasR (R : List Rfs) (i : Int) : Bool := R.any fun r => decide (r.ent = i)
theorem refC_ge : ∀ (l : List Ent) (s : Off) (j : Nat), ∀ r ∈ refC h vm sm s j l, (j : Int) ≤ r.ent
 | [], s, j, r, hr => by cases hr
 | x :: l, s, j, r, hr => by
   rw [refC] at hr; split at hr
   · have := refC_ge l _ (j + 1) r hr; omega
   · rcases List.mem_cons.1 hr with e | e
     · rw [e]; exact Int.le_refl _
     · have := refC_ge l s (j + 1) r e; omega
theorem hasR_lt {R : List Rfs} {i : Int} (hR : ∀ r ∈ R, i < r.ent) : hasR R i = false := by
 unfold hasR; rw [List.any_eq_false]; intro r hr; have := hR r hr; simp only [decide_eq_true_eq]; omega
theorem refC_has : ∀ (l : List Ent) (s : Off) (j i : Nat), hasR (refC h vm sm s j l) ((j + i : Nat) : Int) = true ↔ i < l.length ∧ folE h vm sm (runC h vm sm s (l.take i)) (l.getD i en0) ≠ 0
 | [], s, j, i => ⟨fun q => (by cases q), fun q => absurd q.1 (Nat.not_lt_zero _)⟩
 | x :: l, s, j, i => by
   rw [refC]
   by_cases e : folE h vm sm s x = 0
   · rw [if_pos e]
     cases i with
     | zero =>
       rw [hasR_lt fun r hr => by have := refC_ge h vm sm l _ (j + 1) r hr; omega]
       exact ⟨fun q => (by cases q), fun q => absurd e q.2⟩
     | succ i =>
       rw [show j + (i + 1) = (j + 1) + i by omega, refC_has l _ (j + 1) i, List.length_cons, List.take_succ_cons, List.getD_cons_succ]; exact ⟨fun q => ⟨by omega, q.2⟩, fun q => ⟨by omega, q.2⟩⟩
   · rw [if_neg e]; have e0 : hasR (⟨(j : Int), folE h vm sm s x⟩ :: refC h vm sm s (j + 1) l) ((j + i : Nat) : Int) = (decide ((j : Int) = ((j + i : Nat) : Int)) || hasR (refC h vm sm s (j + 1) l) ((j + i : Nat) : Int)) := rfl; rw [e0]
     cases i with
     | zero =>
       rw [decide_eq_true (by omega), Bool.true_or]
       exact ⟨fun _ => ⟨by simp, e⟩, fun _ => rfl⟩
     | succ i =>
       rw [decide_eq_false (by omega), Bool.false_or, show j + (i + 1) = (j + 1) + i by omega, refC_has l _ (j + 1) i, List.length_cons, List.take_succ_cons, List.getD_cons_succ]
       have e2 : runC h vm sm s (x :: l.take i) = runC h vm sm s (l.take i) := by
        show runC h vm sm (folO h vm sm s x) (l.take i) = _; rw [fol_same e]
       rw [e2]; exact ⟨fun q => ⟨by omega, q.2⟩, fun q => ⟨by omega, q.2⟩⟩
theorem keep_step {l : List Ent} {s : Off} {i : Nat} (hi : i < l.length) : keepC h vm sm s (l.take (i + 1)) = keepC h vm sm s (l.take i) ++ (if hasR (refC h vm sm s 0 l) (i : Int) = true then [] else [l.getD i en0]) := by
 have hx : l.take (i + 1) = l.take i ++ [l.getD i en0] := by
  rw [List.take_succ_eq_append_getElem hi, List.getD_eq_getElem?_getD, List.getElem?_eq_getElem hi]; rfl
 have hk := refC_has h vm sm l s 0 i; rw [Nat.zero_add] at hk; rw [hx, keepC_snoc]; congr 1
 by_cases e : folE h vm sm (runC h vm sm s (l.take i)) (l.getD i en0) = 0
 · rw [if_pos e, if_neg (fun c => (hk.1 c).2 e)]
 · rw [if_neg e, if_pos (hk.2 ⟨hi, e⟩)]
end
abbrev rcell (i : Int) : Res := .cells 3 [.d (.int .i64 i)]
theorem wRef10 (r : Rfs) (i : Int) : FSpec Tryz.prog 10 [.agg ((rfF r).map .d), .ptr 1000001 0] [(1000001, rcell i)] (fun v q => v = .d (.bool (decide (r.ent = i))) ∧ q = [(1000001, rcell i)]) := by
 refine spec_of hT (C := []) Tryz.func10 rfl Tryz.call10 rfl rfl rfl ?_; conv => whnf
 refine .ret _ ?_; conv => whnf
 exact ⟨[(1000001, rcell i)], ⟨rfl, rfl⟩, rr, trivial⟩
theorem wRef33 (R : List Rfs) (hl : R.length ≤ 2^40) (i : Int) : FSpec Tryz.prog 33 [.d (rfss R), .fn 10 [.ptr 1000001 0]] [(1000001, rcell i)] (fun v q => v = .d (.int .i64 (ixF (fun j => decide ((R.getD j rf0).ent = i)) R.length)) ∧ q = [(1000001, rcell i)]) := by
 refine spec_of hT (C := []) Tryz.func33 rfl Tryz.call33 rfl rfl rfl ?_; conv => whnf
 refine LoopX.rule hT (C := []) (ι := Nat) (fun j => j ≤ R.length ∧ ∀ k, k < j → decide ((R.getD k rf0).ent = i) = false) (fun j => mkSt [(0, .d (rfss R)), (1, .fn 10 [.ptr 1000001 0]), (7, .d (.int .i64 R.length)), (8, .d (.int .i64 j))] [(1000001, rcell i)]) (fun j => R.length - j) 0 ⟨by simp, fun k hk => absurd hk (Nat.not_lt_zero k)⟩ (by exact eAx [(1000001, 1000001)]) ?_; rintro j ⟨p1, p2⟩; have e1 : (j : Int).toNat = j := Int.toNat_natCast j; conv => whnf
 repeat' (first | ((first | (refine oAx (wRef10 (R.getD (j : Int).toNat rf0) i) [(1000001, 1000001)] ?_; rintro x rout ⟨rfl, rfl⟩; refine ⟨rfl, ?_⟩) | (refine br_intro ?_ ?_ <;> intro hb <;> try simp only [brs] at hb) | omega | refine sAx ?_ | decide | assumption) <;> conv => whnf))
 · refine .ret _ ?_; conv => whnf
   refine ⟨[(1000001, rcell i)], ⟨?_, rfl⟩, rr, trivial⟩; conv => lhs; whnf
   congr 2
   exact (ixF_hit (by omega) p2 (by simpa using hb)).symm
 · exact ⟨j + 1, ⟨by omega, all_step p2 (by simpa using hb)⟩, by omega, (by exact eAx [(1000001, 1000001)])⟩
 · refine .ret _ ?_; conv => whnf
   refine ⟨[(1000001, rcell i)], ⟨?_, rfl⟩, rr, trivial⟩; conv => lhs; whnf
   congr 2
   have : j = R.length := by omega
   subst this; exact (ixF_none p2).symm
theorem hasR_ix (R : List Rfs) (i : Int) : decide (0 ≤ ixF (fun j => decide ((R.getD j rf0).ent = i)) R.length) = hasR R i := by
 rw [Bool.eq_iff_iff, decide_eq_true_eq]; unfold hasR; rw [List.any_eq_true]; constructor
 · intro h; have := ixF_bd (p := fun j => decide ((R.getD j rf0).ent = i)) (n := R.length); exact ⟨_, getD_mem (x := rf0) (by omega), this.2.2 h⟩
 · rintro ⟨y, hy, he⟩; obtain ⟨j, hj, rfl⟩ := mem_getD (d := rf0) hy; exact lxF_posE (p := fun j => decide ((R.getD j rf0).ent = i)) hj he
theorem wRef9 (R : List Rfs) (hl : R.length ≤ 2^40) (i : Int) : FSpec Tryz.prog 9 [.d (rfss R), .fn 10 [.ptr 1000001 0]] [(1000001, rcell i)] (fun v q => v = .d (.bool (hasR R i)) ∧ q = [(1000001, rcell i)]) := by
 refine spec_of hT (C := []) Tryz.func9 rfl Tryz.call9 rfl rfl rfl ?_; conv => whnf
 repeat' (first | ((first | (refine oAx (wRef33 R hl i) [(1000001, 1000001)] ?_; rintro v rout ⟨rfl, rfl⟩; refine ⟨rfl, ?_⟩) | (refine br_intro ?_ ?_ <;> intro hb <;> try simp only [brs] at hb) | omega | refine sAx ?_ | decide | assumption) <;> conv => whnf))
 refine .ret _ ?_; conv => whnf
 refine ⟨[(1000001, rcell i)], ⟨?_, rfl⟩, rr, trivial⟩; conv => lhs; whnf
 rw [← hasR_ix]
variable {α : Type}
theorem swp_at (U V W : List α) (x y d : α) : (U ++ x :: (V ++ y :: W)).getD U.length d = x ∧ (U ++ x :: (V ++ y :: W)).getD (U.length + 1 + V.length) d = y ∧ ((U ++ x :: (V ++ y :: W)).set U.length y).set (U.length + 1 + V.length) x = U ++ y :: (V ++ x :: W) := by
 refine ⟨?_, ?_, ?_⟩
 · rw [List.getD_eq_getElem?_getD, List.getElem?_append_right (by omega), Nat.sub_self]; rfl
 · rw [List.getD_eq_getElem?_getD, List.getElem?_append_right (by omega), show U.length + 1 + V.length - U.length = V.length + 1 by omega, List.getElem?_cons_succ, List.getElem?_append_right (by omega), Nat.sub_self]; rfl
 · rw [List.set_append_right _ _ (by omega), Nat.sub_self, List.set_cons_zero, List.set_append_right _ _ (by omega), show U.length + 1 + V.length - U.length = V.length + 1 by omega, List.set_cons_succ, List.set_append_right _ _ (by omega), Nat.sub_self, List.set_cons_zero]
abbrev Srt (f : α → α → Int) (l : List α) : Prop := l.Pairwise fun a b => f a b ≤ 0
theorem srt_idx {f : α → α → Int} (hf : TOrd f) {Y : List α} (hY : Srt f Y) {i j : Nat} (hj : j < Y.length) (hij : i ≤ j) (d : α) : i = j ∨ f (Y.getD i d) (Y.getD j d) ≤ 0 := by
 rcases Nat.lt_or_ge i j with q | q
 · right; rw [List.getD_eq_getElem?_getD, List.getD_eq_getElem?_getD, List.getElem?_eq_getElem (by omega), List.getElem?_eq_getElem hj]; exact List.pairwise_iff_getElem.1 hY i j (by omega) hj q
 · left; omega
theorem mem_take_ix {Y : List α} {t : Nat} {y : α} (h : y ∈ Y.take t) (d : α) : ∃ i, i < t ∧ i < Y.length ∧ Y.getD i d = y := by
 obtain ⟨i, hi, e⟩ := List.getElem_of_mem h; rw [List.length_take] at hi; rw [List.getElem_take] at e; exact ⟨i, by omega, by omega, by rw [List.getD_eq_getElem?_getD, List.getElem?_eq_getElem (by omega)]; exact e⟩
theorem mem_drop_ix {Y : List α} {t : Nat} {y : α} (h : y ∈ Y.drop t) (d : α) : ∃ i, t ≤ i ∧ i < Y.length ∧ Y.getD i d = y := by
 obtain ⟨i, hi, e⟩ := List.getElem_of_mem h; rw [List.length_drop] at hi; rw [List.getElem_drop] at e; exact ⟨t + i, by omega, by omega, by rw [List.getD_eq_getElem?_getD, List.getElem?_eq_getElem (by omega)]; exact e⟩
theorem srt_below {f : α → α → Int} (hf : TOrd f) {Y : List α} (hY : Srt f Y) {x d : α} {t : Nat} (ht : t ≤ Y.length) (h : t = 0 ∨ f (Y.getD (t - 1) d) x ≤ 0) : ∀ y ∈ Y.take t, f y x ≤ 0 := fun y hy => by
 obtain ⟨i, h1, h2, rfl⟩ := mem_take_ix hy d; rcases h with h | h
 · omega
 rcases srt_idx hf hY (i := i) (j := t - 1) (by omega) (by omega) d with e | e
 · rw [e]; exact h
 · exact hf.le_tr e h
theorem srt_above {f : α → α → Int} (hf : TOrd f) {Y : List α} (hY : Srt f Y) {x d : α} {t : Nat} (h : t = Y.length ∨ f x (Y.getD t d) ≤ 0) : ∀ y ∈ Y.drop t, f x y ≤ 0 := fun y hy => by
 obtain ⟨i, h1, h2, rfl⟩ := mem_drop_ix hy d; rcases h with h | h
 · omega
 rcases srt_idx hf hY (i := t) (j := i) (by omega) (by omega) d with e | e
 · rw [← e]; exact h
 · exact hf.le_tr h e
theorem srt_ins {f : α → α → Int} {Y1 Y2 : List α} {x : α} (hY : Srt f (Y1 ++ Y2)) (h1 : ∀ y ∈ Y1, f y x ≤ 0) (h2 : ∀ y ∈ Y2, f x y ≤ 0) : Srt f (Y1 ++ x :: Y2) := by
 rw [Srt, List.pairwise_append] at hY ⊢; refine ⟨hY.1, List.pairwise_cons.2 ⟨h2, hY.2.1⟩, fun a ha b hb => ?_⟩; rcases List.mem_cons.1 hb with e | hb
 · rw [e]; exact h1 a ha
 · exact hY.2.2 a ha b hb
theorem srt_join {f : α → α → Int} {Z1 Z2 X1 Y1 X2 Y2 : List α} (p1 : Z1.Perm (X1 ++ Y1)) (s1 : Srt f Z1) (p2 : Z2.Perm (X2 ++ Y2)) (s2 : Srt f Z2) (hX : Srt f (X1 ++ X2)) (hY : Srt f (Y1 ++ Y2))
 (h1 : ∀ x ∈ X1, ∀ y ∈ Y2, f x y ≤ 0) (h2 : ∀ y ∈ Y1, ∀ x ∈ X2, f y x ≤ 0) : (Z1 ++ Z2).Perm ((X1 ++ X2) ++ (Y1 ++ Y2)) ∧ Srt f (Z1 ++ Z2) := by
 constructor
 · refine (p1.append p2).trans ?_; rw [List.append_assoc, List.append_assoc]; exact List.Perm.append_left X1 (List.perm_append_comm_assoc _ _ _)
 · rw [Srt, List.pairwise_append] at hX hY ⊢; refine ⟨s1, s2, fun a ha b hb => ?_⟩; rcases List.mem_append.1 (p1.mem_iff.1 ha) with q | q <;> rcases List.mem_append.1 (p2.mem_iff.1 hb) with r | r
   · exact hX.2.2 a q b r
   · exact h1 a q b r
   · exact h2 a q b r
   · exact hY.2.2 a q b r
theorem srt_cross {f : α → α → Int} (hf : TOrd f) {X Y : List α} (hX : Srt f X) (hY : Srt f Y) {d : α} {s e : Nat} (hs : s ≤ X.length) (h : s = 0 ∨ e = Y.length ∨ f (X.getD (s - 1) d) (Y.getD e d) ≤ 0) :
 ∀ x ∈ X.take s, ∀ y ∈ Y.drop e, f x y ≤ 0 := fun x hx y hy => by
 rcases h with h | h | h
 · subst h; rw [List.take_zero] at hx; cases hx
 · subst h; rw [List.drop_length] at hy; cases hy
 · exact hf.le_tr (srt_below hf hX hs (.inr h) x hx) (srt_above hf hY (d := d) (t := e) (.inr (by have := hf.sw (Y.getD e d) (Y.getD e d); omega)) y hy)
theorem getD_win {P X S : List α} {i : Nat} (h1 : P.length ≤ i) (h2 : i < P.length + X.length) (d : α) : (P ++ (X ++ S)).getD i d = X.getD (i - P.length) d := by
 rw [List.getD_eq_getElem?_getD, List.getElem?_append_right h1, List.getElem?_append_left (by omega), List.getD_eq_getElem?_getD]
theorem isort_srt {f : α → α → Int} (hf : TOrd f) (l : List α) : Srt f (isort f l) :=
 isort_pairwise f (fun a b => f a b ≤ 0) (fun _ _ _ h1 h2 => hf.le_tr h1 h2) l (List.pairwise_of_forall fun x y => ⟨fun q => by omega, fun q => by have := hf.sw x y; omega⟩)
theorem sort_one {f : α → α → Int} (hf : TOrd f) {l c : List α} (hz : ∀ a ∈ l, ∀ b ∈ l, f a b = 0 → a = b) (hp : c.Perm l) (hs : Srt f c) : c = isort f l :=
 List.Perm.eq_of_pairwise (le := fun a b => f a b ≤ 0) (fun x y hx hy q1 q2 => hz x (hp.mem_iff.1 hx) y ((isort_perm f l).mem_iff.1 hy) (by have := hf.sw x y; omega)) hs (isort_srt hf l) (hp.trans (isort_perm f l).symm)
theorem cut_at (X : List α) (s : Nat) (hs : s ≤ X.length) : X.take s ++ X.drop s = X ∧ (X.take s).length = s ∧ (X.drop s).length = X.length - s := by
 refine ⟨List.take_append_drop s X, by rw [List.length_take]; omega, List.length_drop ..⟩
end Go.Proofs.YtophabkpfpbadaaGreatDoor
