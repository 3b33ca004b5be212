/- EntriesMerge is proved: for every input the law returns true, and its argument reads afterwards as it read before. Conditions: those of the given row alone. -/
import Derived.Test.YtobgeiclibhiiaaGreatDoorUConOne
import Derived.Test.YtobgeiclibhiiaaGreatDoorUEngTwo
import Derived.Sort.OwnSortedInts
import Derived.Shelf.GgSortFunc.InsertionK
import Derived.Shelf.SlSortCmp.NoneTotal
import Derived.Shelf.SlicesG.Cmp
import Derived.Test.YtobgeiclibhiiaaGreatDoorProg
set_option linter.unusedVariables false
set_option linter.unusedSimpArgs false
set_option maxRecDepth 20000
namespace Go.Proofs.YtobgeiclibhiiaaGreatDoor
open Go Go.Eng
def oUEmB35_1 : List (Nat × List Nat) := [(0, []), (1, [0]), (3, [0, 1]), (4, [0, 1]), (5, [0, 1, 3, 4]), (6, [0, 1, 3, 4]), (2, [3, 4, 5, 6]), (7, []), (8, []), (9, []), (10, [])]
def cmpE4 (a b : Ent) : Int := firstE [entCmp a b, cmpS a.words b.words]
theorem lz157 (a b : Ent) : FSpec Tryz.prog 35 [.agg ((enF a).map .d), .agg ((enF b).map .d)] [] (fun x r => x = .d (.int .i64 (cmpE4 a b)) ∧ r = []) := by
 refine spec_of hT (C := []) Tryz.func35 rfl Tryz.call35 rfl rfl rfl ?_
 conv => whnf
 repeat' (first | (refine CallX.exact (lz150 a b) rfl rfl ?_; rotate_right; conv => whnf) | (refine CallX.exact (s184 _ _) rfl rfl ?_; rotate_right; conv => whnf) | (refine CallX.pure (s182 [_, _] (by simp)) ⟨SV.le_lit (by rfl) (by rfl), trivial⟩ rfl ?_; conv => whnf) | (refine br_intro ?_ ?_ <;> intro hb <;> (try simp only [brs] at hb) <;> conv => whnf) | (refine RegX.rule (id := 1) hT rfl [] oUEmB35_1 (by decide +kernel) ?_; conv => whnf) | omega | (refine And.intro ?_ ?_; ((try dsimp only); first | omega | (refine szA rfl ?_; omega) | (refine szB rfl ?_; omega) | (unfold inI64; omega) | exact rfl | (simp only [List.toList_toArray, List.length_cons, List.length_nil]; omega) | (simp only [lns] at *; omega) | decide | (unfold inI64; decide)); conv => whnf) | decide | assumption)
 refine .ret _ ?_
 conv => whnf
 refine ⟨[], ⟨?_, rfl⟩, trivial⟩
 conv => lhs; whnf
 rfl
def mrgEL (a b : List Ent) : List Ent := cptE (isort cmpE4 (a ++ b)) (isort cmpE4 (a ++ b)).length
def cnE (l : List Ent) (i : Nat) : Int := if dupE (l.take i) (l.getD i en0) = true then 13 else 0
def mrgF (a b : List Ent) : Int := if firstE [entsE a, entsE b] ≠ 0 then firstE [entsE a, entsE b] else if firstAt (cnE (mrgEL a b)) (mrgEL a b).length ≠ 0 then 13 else if 1000 < (mrgEL a b).length then 2 else 0
theorem mrgEL_len (a b : List Ent) : (mrgEL a b).length ≤ a.length + b.length := by
 have h1 : (mrgEL a b).length ≤ (isort cmpE4 (a ++ b)).length := cptE_len (isort cmpE4 (a ++ b)) (isort cmpE4 (a ++ b)).length
 have h : (isort cmpE4 (a ++ b)).length = (a ++ b).length := by unfold isort; rw [List.length_reverse, isortR_length]
 rw [h, List.length_append] at h1
 exact h1
theorem lz84 (a b : List Ent) (ha : entOk a) (hb' : entOk b) (hn : a.length + b.length < 20) :
 FSpec Tryz.prog 13 [.d (ents a), .d (ents b)] [] (fun x r => x = .tup [.d (if mrgF a b = 0 then ents (mrgEL a b) else .nilsl), .d (.int .i64 (mrgF a b))] ∧ r = []) := by
 have hml := mrgEL_len a b
 have hfl : [a, b].flatten = a ++ b := by simp
 have h156 := sConcatE [a, b] (by simp) (by simp [lensE]; omega)
 rw [hfl] at h156
 have h62 := en126f 35 cmpE4 (a ++ b) (by rw [List.length_append]; exact hn) (fun p q _ _ => lz157 p q)
 have hil : (isort cmpE4 (a ++ b)).length = a.length + b.length := by unfold isort; rw [List.length_reverse, isortR_length, List.length_append]
 have h160 := en151 (isort cmpE4 (a ++ b)) (by omega)
 rw [show cptE (isort cmpE4 (a ++ b)) (isort cmpE4 (a ++ b)).length = mrgEL a b from rfl] at h160
 refine spec_of hT (C := []) Tryz.func13 rfl Tryz.call13 rfl rfl rfl ?_
 conv => whnf
 repeat' (first | (refine CallX.exact (lz64 a ha) rfl rfl ?_; rotate_right; conv => whnf) | (refine CallX.exact (lz64 b hb') rfl rfl ?_; rotate_right; conv => whnf) | (refine CallX.pure (s105 [_, _] (by simp)) ⟨SV.le_lit (by rfl) (by rfl), trivial⟩ rfl ?_; conv => whnf) | (refine br_intro ?_ ?_ <;> intro hb <;> (try simp only [brs] at hb) <;> conv => whnf) | omega | (refine And.intro ?_ ?_; ((try dsimp only); first | omega | (refine szA rfl ?_; omega) | (refine szB rfl ?_; omega) | (unfold inI64; omega) | exact rfl | (simp only [List.toList_toArray, List.length_cons, List.length_nil]; omega) | (simp only [lns] at *; omega) | decide | (unfold inI64; decide)); conv => whnf) | decide | assumption)
 · have hE : mrgF a b = firstE [entsE a, entsE b] := by unfold mrgF; rw [if_pos hb]
   rw [hE, if_neg hb]
   refine .ret _ ?_
   conv => whnf
   refine ⟨[], ⟨congrArg SV.tup ?_, rfl⟩, trivial⟩
   repeat' (refine cons_eq ?_ ?_)
   all_goals (conv => lhs; whnf)
   all_goals try (with_reducible rfl)
   all_goals rfl
 have hE : mrgF a b = if firstAt (cnE (mrgEL a b)) (mrgEL a b).length ≠ 0 then 13 else if 1000 < (mrgEL a b).length then 2 else 0 := by unfold mrgF; rw [if_neg (fun h => h hb)]
 rw [hE]
 refine CallX.of h156 [(6, 24)] rfl ⟨SV.le_lit (l := [a, b]) rfl rfl, trivial⟩ trivial rfl rfl ?_
 rintro x rout ⟨rfl, rfl⟩
 refine ⟨rfl, ?_⟩
 conv => whnf
 repeat' (first | (refine br_intro ?_ ?_ <;> intro hb <;> (try simp only [brs] at hb) <;> conv => whnf) | omega | (refine And.intro ?_ ?_; ((try dsimp only); first | omega | (refine szA rfl ?_; omega) | (refine szB rfl ?_; omega) | (unfold inI64; omega) | exact rfl | (simp only [List.toList_toArray, List.length_cons, List.length_nil]; omega) | (simp only [lns] at *; omega) | decide | (unfold inI64; decide)); conv => whnf) | decide | assumption)
 refine CallX.of h62 [(1000001, 24)] rfl ⟨lr, lr, trivial⟩ ⟨rr, trivial⟩ rfl rfl ?_
 rintro x rout ⟨rfl, rfl⟩
 refine ⟨rfl, ?_⟩
 conv => whnf
 repeat' (first | (refine br_intro ?_ ?_ <;> intro hb <;> (try simp only [brs] at hb) <;> conv => whnf) | omega | (refine And.intro ?_ ?_; ((try dsimp only); first | omega | (refine szA rfl ?_; omega) | (refine szB rfl ?_; omega) | (unfold inI64; omega) | exact rfl | (simp only [List.toList_toArray, List.length_cons, List.length_nil]; omega) | (simp only [lns] at *; omega) | decide | (unfold inI64; decide)); conv => whnf) | decide | assumption)
 refine CallX.of h160 [(1000001, 24), (59, 100)] rfl ⟨lr, trivial⟩ ⟨rr, trivial⟩ rfl rfl ?_
 rintro x rout ⟨d, hd, rfl, rfl⟩
 rcases hd with rfl | rfl
 · refine ⟨rfl, ?_⟩
   conv => whnf
   repeat' (first | (refine br_intro ?_ ?_ <;> intro hb <;> (try simp only [brs] at hb) <;> conv => whnf) | omega | (refine And.intro ?_ ?_; ((try dsimp only); first | omega | (refine szA rfl ?_; omega) | (refine szB rfl ?_; omega) | (unfold inI64; omega) | exact rfl | (simp only [List.toList_toArray, List.length_cons, List.length_nil]; omega) | (simp only [lns] at *; omega) | decide | (unfold inI64; decide)); conv => whnf) | decide | assumption)
   refine LoopX.rule hT (C := []) (ι := Nat) (fun i => i ≤ (mrgEL a b).length ∧ ∀ j, j < i → cnE (mrgEL a b) j = 0) (fun i => mkSt [(7, .buf 7), (8, .mp 8), (30, .buf 7), (31, .d (.int .i64 (mrgEL a b).length)), (32, .d (.int .i64 i))] [(7, enB (mrgEL a b)), (8, enR ((mrgEL a b).take i))]) (fun i => (mrgEL a b).length - i) 0 ⟨by omega, by omega⟩ ?_ ?_
   · refine Entails.mk' [(7, 24), (8, 29)] rfl rfl ⟨lr, lr, lr, lr, lr, trivial⟩ ⟨rr, Res.le_map (fun key hk => ?_), trivial⟩
     obtain ⟨z1, z2, rfl⟩ := wk_si hk
     exact ⟨rfl, rfl⟩
   rintro i ⟨p1, p2⟩
   have e1 : (i : Int).toNat = i := Int.toNat_natCast i
   conv => whnf
   repeat' (first | (refine And.intro (rfl : zrow _ = some [DV.bool false]) ?_; conv => whnf) | (simp only [Nat.beq_refl, cond_true]; conv => whnf) | (refine br_intro ?_ ?_ <;> intro hb <;> (try simp only [brs] at hb) <;> conv => whnf) | omega | (refine And.intro ?_ ?_; ((try dsimp only); first | omega | (refine szA rfl ?_; omega) | (refine szB rfl ?_; omega) | (unfold inI64; omega) | exact rfl | (simp only [List.toList_toArray, List.length_cons, List.length_nil]; omega) | (simp only [lns] at *; omega) | decide | (unfold inI64; decide)); conv => whnf) | decide | assumption)
   · have hbd : dupE ((mrgEL a b).take i) ((mrgEL a b).getD i en0) = true := hb
     have h13 : cnE (mrgEL a b) i = 13 := by unfold cnE; rw [if_pos hbd]
     have hf : firstAt (cnE (mrgEL a b)) (mrgEL a b).length = 13 := firstAt_eq (by omega) p2 (by decide) h13
     rw [hf]
     refine .ret _ ?_
     conv => whnf
     refine ⟨[], ⟨congrArg SV.tup ?_, rfl⟩, trivial⟩
     repeat' (refine cons_eq ?_ ?_)
     all_goals (conv => lhs; whnf)
     all_goals try (with_reducible rfl)
     all_goals rfl
   · have hbd : dupE ((mrgEL a b).take i) ((mrgEL a b).getD i en0) = false := hb
     exact ⟨i + 1, ⟨by omega, first_step p2 (by unfold cnE; rw [if_neg (by rw [hbd]; simp)])⟩, by omega, Entails.mk' [(7, 7), (8, 8)] rfl rfl ⟨lr, lr, lr, lr, lr, trivial⟩ ⟨rr, enR_up (x := (mrgEL a b).getD (i : Int).toNat en0) (by omega) (by rw [e1]), trivial⟩⟩
   · have hf : firstAt (cnE (mrgEL a b)) (mrgEL a b).length = 0 := firstAt_zero (fun j hj => p2 j (by omega))
     have hv : (if firstAt (cnE (mrgEL a b)) (mrgEL a b).length ≠ 0 then (13 : Int) else if 1000 < (mrgEL a b).length then 2 else 0) = 0 := by rw [hf, if_neg (by simp), if_neg (by omega)]
     rw [hv, if_pos rfl]
     refine .freeze _ 7 48 4 _ _ rfl ?_
     refine .ret _ ?_
     conv => whnf
     refine ⟨[], ⟨congrArg SV.tup ?_, rfl⟩, trivial⟩
     repeat' (refine cons_eq ?_ ?_)
     all_goals (conv => lhs; whnf)
     all_goals try (with_reducible rfl)
 · refine ⟨rfl, ?_⟩
   conv => whnf
   repeat' (first | (refine br_intro ?_ ?_ <;> intro hb <;> (try simp only [brs] at hb) <;> conv => whnf) | omega | (refine And.intro ?_ ?_; ((try dsimp only); first | omega | (refine szA rfl ?_; omega) | (refine szB rfl ?_; omega) | (unfold inI64; omega) | exact rfl | (simp only [List.toList_toArray, List.length_cons, List.length_nil]; omega) | (simp only [lns] at *; omega) | decide | (unfold inI64; decide)); conv => whnf) | decide | assumption)
   refine LoopX.rule hT (C := []) (ι := Nat) (fun i => i ≤ (mrgEL a b).length ∧ ∀ j, j < i → cnE (mrgEL a b) j = 0) (fun i => mkSt [(7, .buf 7), (8, .mp 8), (30, .buf 7), (31, .d (.int .i64 (mrgEL a b).length)), (32, .d (.int .i64 i))] [(7, enB (mrgEL a b)), (8, enR ((mrgEL a b).take i))]) (fun i => (mrgEL a b).length - i) 0 ⟨by omega, by omega⟩ ?_ ?_
   · refine Entails.mk' [(7, 100), (8, 29)] rfl rfl ⟨lr, lr, lr, lr, lr, trivial⟩ ⟨rr, Res.le_map (fun key hk => ?_), trivial⟩
     obtain ⟨z1, z2, rfl⟩ := wk_si hk
     exact ⟨rfl, rfl⟩
   rintro i ⟨p1, p2⟩
   have e1 : (i : Int).toNat = i := Int.toNat_natCast i
   conv => whnf
   repeat' (first | (refine And.intro (rfl : zrow _ = some [DV.bool false]) ?_; conv => whnf) | (simp only [Nat.beq_refl, cond_true]; conv => whnf) | (refine br_intro ?_ ?_ <;> intro hb <;> (try simp only [brs] at hb) <;> conv => whnf) | omega | (refine And.intro ?_ ?_; ((try dsimp only); first | omega | (refine szA rfl ?_; omega) | (refine szB rfl ?_; omega) | (unfold inI64; omega) | exact rfl | (simp only [List.toList_toArray, List.length_cons, List.length_nil]; omega) | (simp only [lns] at *; omega) | decide | (unfold inI64; decide)); conv => whnf) | decide | assumption)
   · have hbd : dupE ((mrgEL a b).take i) ((mrgEL a b).getD i en0) = true := hb
     have h13 : cnE (mrgEL a b) i = 13 := by unfold cnE; rw [if_pos hbd]
     have hf : firstAt (cnE (mrgEL a b)) (mrgEL a b).length = 13 := firstAt_eq (by omega) p2 (by decide) h13
     rw [hf]
     refine .ret _ ?_
     conv => whnf
     refine ⟨[], ⟨congrArg SV.tup ?_, rfl⟩, trivial⟩
     repeat' (refine cons_eq ?_ ?_)
     all_goals (conv => lhs; whnf)
     all_goals try (with_reducible rfl)
     all_goals rfl
   · have hbd : dupE ((mrgEL a b).take i) ((mrgEL a b).getD i en0) = false := hb
     exact ⟨i + 1, ⟨by omega, first_step p2 (by unfold cnE; rw [if_neg (by rw [hbd]; simp)])⟩, by omega, Entails.mk' [(7, 7), (8, 8)] rfl rfl ⟨lr, lr, lr, lr, lr, trivial⟩ ⟨rr, enR_up (x := (mrgEL a b).getD (i : Int).toNat en0) (by omega) (by rw [e1]), trivial⟩⟩
   · have hf : firstAt (cnE (mrgEL a b)) (mrgEL a b).length = 0 := firstAt_zero (fun j hj => p2 j (by omega))
     have hv : (if firstAt (cnE (mrgEL a b)) (mrgEL a b).length ≠ 0 then (13 : Int) else if 1000 < (mrgEL a b).length then 2 else 0) = 0 := by rw [hf, if_neg (by simp), if_neg (by omega)]
     rw [hv, if_pos rfl]
     refine .freeze _ 7 48 4 _ _ rfl ?_
     refine .ret _ ?_
     conv => whnf
     refine ⟨[], ⟨congrArg SV.tup ?_, rfl⟩, trivial⟩
     repeat' (refine cons_eq ?_ ?_)
     all_goals (conv => lhs; whnf)
     all_goals try (with_reducible rfl)
structure TOrd {α : Type} (f : α → α → Int) : Prop where
 sw : ∀ a b, f a b = - f b a
 tr : ∀ a b c, f a b < 0 → f b c < 0 → f a c < 0
 co : ∀ a b, f a b = 0 → ∀ c, f a c = f b c
theorem TOrd.co' {α : Type} {f : α → α → Int} (h : TOrd f) {a b : α} (e : f a b = 0) (c : α) : f c a = f c b := by
 rw [h.sw c a, h.sw c b, h.co a b e c]
theorem TOrd.int {α : Type} (k : α → Int) : TOrd fun a b => cmpI (k a) (k b) where
 sw a b := cmpI_sw _ _
 tr a b c h1 h2 := by rw [cmpI_lt] at *; omega
 co a b e c := by rw [cmpI_zero.1 e]
theorem TOrd.str {α : Type} (k : α → List UInt8) : TOrd fun a b => cmpS (k a) (k b) where
 sw a b := cmpS_sw _ _
 tr a b c h1 h2 := cmpS_trans h1 h2
 co a b e c := by rw [cmpS_zero.1 e]
def seq2 {α : Type} (f g : α → α → Int) : α → α → Int := fun a b => if f a b = 0 then g a b else f a b
theorem TOrd.seq {α : Type} {f g : α → α → Int} (hf : TOrd f) (hg : TOrd g) : TOrd (seq2 f g) where
 sw a b := by
  have h1 := hf.sw a b
  have h2 := hg.sw a b
  unfold seq2
  by_cases e : f a b = 0
  · rw [if_pos e, if_pos (by omega)]; exact h2
  · rw [if_neg e, if_neg (by omega)]; exact h1
 tr a b c h1 h2 := by
  unfold seq2 at *
  by_cases e1 : f a b = 0
  · rw [if_pos e1] at h1
    have k := hf.co a b e1 c
    by_cases e2 : f b c = 0
    · rw [if_pos e2] at h2
      rw [if_pos (by omega)]; exact hg.tr a b c h1 h2
    · rw [if_neg e2] at h2
      rw [if_neg (by omega)]; omega
  · rw [if_neg e1] at h1
    by_cases e2 : f b c = 0
    · have k := hf.co' e2 a
      rw [if_neg (by omega)]; omega
    · rw [if_neg e2] at h2
      have := hf.tr a b c h1 h2
      rw [if_neg (by omega)]; exact this
 co a b e c := by
  unfold seq2 at *
  by_cases e1 : f a b = 0
  · rw [if_pos e1] at e
    rw [hf.co a b e1 c, hg.co a b e c]
  · rw [if_neg e1] at e; exact absurd e e1
theorem cmpE4_seq : cmpE4 = seq2 (fun a b => cmpI a.tm b.tm) (seq2 (fun a b => cmpS a.desk b.desk) (seq2 (fun a b => cmpI a.no b.no) (fun a b => cmpS a.words b.words))) := by
 funext a b
 unfold cmpE4 entCmp seq2
 simp only [firstE]
 grind
theorem cmpE4_ord : TOrd cmpE4 := by
 rw [cmpE4_seq]
 exact (TOrd.int (fun a : Ent => a.tm)).seq ((TOrd.str (fun a : Ent => a.desk)).seq ((TOrd.int (fun a : Ent => a.no)).seq (TOrd.str (fun a : Ent => a.words))))
theorem cmpE4_zero {a b : Ent} : cmpE4 a b = 0 ↔ a = b := by
 rw [cmpE4_seq]
 unfold seq2
 constructor
 · intro h
   rw [ent_eq2]
   by_cases e1 : cmpI a.tm b.tm = 0
   · rw [if_pos e1] at h
     by_cases e2 : cmpS a.desk b.desk = 0
     · rw [if_pos e2] at h
       by_cases e3 : cmpI a.no b.no = 0
       · rw [if_pos e3] at h
         exact ⟨cmpI_zero.1 e1, cmpS_zero.1 e2, cmpI_zero.1 e3, cmpS_zero.1 h⟩
       · rw [if_neg e3] at h; exact absurd h e3
     · rw [if_neg e2] at h; exact absurd h e2
   · rw [if_neg e1] at h; exact absurd h e1
 · rintro rfl
   rw [if_pos (cmpI_zero.2 rfl), if_pos (cmpS_zero.2 rfl), if_pos (cmpI_zero.2 rfl)]
   exact cmpS_zero.2 rfl
theorem TOrd.le_tr {α : Type} {f : α → α → Int} (h : TOrd f) {a b c : α} (h1 : f a b ≤ 0) (h2 : f b c ≤ 0) : f a c ≤ 0 := by
 by_cases e1 : f a b = 0
 · rw [h.co a b e1 c]; exact h2
 · by_cases e2 : f b c = 0
   · rw [← h.co' e2 a]; exact h1
   · have := h.tr a b c (by omega) (by omega); omega
theorem sort_uniq {α : Type} {f : α → α → Int} (h : TOrd f) (hz : ∀ a b, f a b = 0 → a = b) {l c : List α} (hp : c.Perm l) (hs : c.Pairwise fun a b => f a b ≤ 0) : c = isort f l := by
 have h2 : (isort f l).Pairwise fun a b => f a b ≤ 0 := isort_pairwise f (fun a b => f a b ≤ 0) (fun a b c h1 h2 => h.le_tr h1 h2) l (List.pairwise_of_forall fun x y => ⟨fun q => by omega, fun q => by have := h.sw x y; omega⟩)
 exact List.Perm.eq_of_pairwise (le := fun a b => f a b ≤ 0) (fun x y _ _ q1 q2 => hz x y (by have := h.sw x y; omega)) hs h2 (hp.trans (isort_perm f l).symm)
theorem dec_len : ∀ (k u : Nat), u < 10 ^ (k + 1) → (Lib.decDigits u).length ≤ k + 1 := by
 intro k
 induction k with
 | zero =>
   intro u h
   rw [Lib.decDigits, dif_pos (by omega)]; simp
 | succ k ih =>
   intro u h
   rw [Lib.decDigits]
   split
   · simp
   · have := ih (u / 10) (by rw [Nat.pow_succ] at h; omega)
     simp; omega
theorem itoa_len {n : Int} (h0 : -2^60 ≤ n) (h1 : n ≤ 2^60) : (Lib.itoa n).length ≤ 20 := by
 have key : ∀ u : Nat, u ≤ 2^60 → (Lib.decDigits u).length ≤ 19 := fun u hu => dec_len 18 u (by omega)
 unfold Lib.itoa
 split
 · have := key n.natAbs (by omega)
   simp; omega
 · have := key n.toNat (by omega)
   omega
set_option maxHeartbeats 4000000 in
theorem lz59 (n : Nat) (L : Nat → Int) (hL : Rok n L) (a : Int) (h0 : 0 ≤ a) (ha : a ≤ 2^37) (at' : Int) (hq1 : -2^40 ≤ at') (hq2 : at' ≤ 2^40) :
 FSpec Tryz.prog 27 [.ptr 1000000 0, .d (.int .i64 at')] [(1000000, strm n L a), (1000009, KX)] (fun y r => (∃ t : List UInt8, t.length ≤ 2^10 ∧ y = .d (.str t)) ∧ MovedK n L a 20 r) := by
 have hI : ∀ k : Int, -2^60 ≤ k → k ≤ 2^60 → (Lib.itoa k).length ≤ 20 := fun k h1 h2 => itoa_len h1 h2
 refine spec_of hT (C := []) Tryz.func27 rfl Tryz.call27 rfl rfl rfl ?_
 conv => whnf
 repeat' (first | (refine CallX.of (s15 n L hL _ ?_ ?_ [[118, 49], [118, 49], [118, 50], [118, 51], [110, 111, 110, 101]] (by simp) (by simp)) [(1000000, 1000000)] rfl ⟨lr, SV.le_lit rfl rfl, trivial⟩ ⟨rr, trivial⟩ rfl rfl ?_; rotate_right; rintro x rout ⟨⟨u0, hu0, rfl⟩, ⟨c, c1, c2, rfl⟩⟩; have hw0 := mem_len hu0 rfl; refine ⟨rfl, ?_⟩; conv => whnf) | (refine CallX.of (s15 n L hL _ ?_ ?_ [[115, 49], [115, 49], [115, 49], [115, 50], [115, 57]] (by simp) (by simp)) [(1000000, 1000000)] rfl ⟨lr, SV.le_lit rfl rfl, trivial⟩ ⟨rr, trivial⟩ rfl rfl ?_; rotate_right; rintro x rout ⟨⟨u1, hu1, rfl⟩, ⟨c, c1, c2, rfl⟩⟩; have hw1 := mem_len hu1 rfl; refine ⟨rfl, ?_⟩; conv => whnf) | (refine CallX.of (s15 n L hL _ ?_ ?_ [[104, 49], [104, 49], [104, 50], [104, 51], [65]] (by simp) (by simp)) [(1000000, 1000000)] rfl ⟨lr, SV.le_lit rfl rfl, trivial⟩ ⟨rr, trivial⟩ rfl rfl ?_; rotate_right; rintro x rout ⟨⟨u2, hu2, rfl⟩, ⟨c, c1, c2, rfl⟩⟩; have hw2 := mem_len hu2 rfl; refine ⟨rfl, ?_⟩; conv => whnf) | (refine CallX.of (s15 n L hL _ ?_ ?_ [[115, 104, 111, 112], [100, 111, 110, 101], [99, 111, 109, 101], [103, 111, 110, 101]] (by simp) (by simp)) [(1000000, 1000000)] rfl ⟨lr, SV.le_lit rfl rfl, trivial⟩ ⟨rr, trivial⟩ rfl rfl ?_; rotate_right; rintro x rout ⟨⟨u3, hu3, rfl⟩, ⟨c, c1, c2, rfl⟩⟩; have hw3 := mem_len hu3 rfl; refine ⟨rfl, ?_⟩; conv => whnf) | (refine CallX.of (s15 n L hL _ ?_ ?_ [[115, 50], [115, 49], [115, 57]] (by simp) (by simp)) [(1000000, 1000000)] rfl ⟨lr, SV.le_lit rfl rfl, trivial⟩ ⟨rr, trivial⟩ rfl rfl ?_; rotate_right; rintro x rout ⟨⟨u4, hu4, rfl⟩, ⟨c, c1, c2, rfl⟩⟩; have hw4 := mem_len hu4 rfl; refine ⟨rfl, ?_⟩; conv => whnf) | (refine CallX.of (s15 n L hL _ ?_ ?_ [[109, 105, 110, 105], [109, 105, 100, 105], [110, 111, 110, 101]] (by simp) (by simp)) [(1000000, 1000000)] rfl ⟨lr, SV.le_lit rfl rfl, trivial⟩ ⟨rr, trivial⟩ rfl rfl ?_; rotate_right; rintro x rout ⟨⟨u5, hu5, rfl⟩, ⟨c, c1, c2, rfl⟩⟩; have hw5 := mem_len hu5 rfl; refine ⟨rfl, ?_⟩; conv => whnf) | (refine CallX.of (s15 n L hL _ ?_ ?_ [[53, 48], [49, 48, 48], [49, 48, 49]] (by simp) (by simp)) [(1000000, 1000000)] rfl ⟨lr, SV.le_lit rfl rfl, trivial⟩ ⟨rr, trivial⟩ rfl rfl ?_; rotate_right; rintro x rout ⟨⟨u6, hu6, rfl⟩, ⟨c, c1, c2, rfl⟩⟩; have hw6 := mem_len hu6 rfl; refine ⟨rfl, ?_⟩; conv => whnf) | (refine CallX.of (s15 n L hL _ ?_ ?_ [[48], [49, 48, 48], [57, 57, 57, 57, 57, 48]] (by simp) (by simp)) [(1000000, 1000000)] rfl ⟨lr, SV.le_lit rfl rfl, trivial⟩ ⟨rr, trivial⟩ rfl rfl ?_; rotate_right; rintro x rout ⟨⟨u7, hu7, rfl⟩, ⟨c, c1, c2, rfl⟩⟩; have hw7 := mem_len hu7 rfl; refine ⟨rfl, ?_⟩; conv => whnf) | (refine CallX.of (s15 n L hL _ ?_ ?_ [[56], [52], [57]] (by simp) (by simp)) [(1000000, 1000000)] rfl ⟨lr, SV.le_lit rfl rfl, trivial⟩ ⟨rr, trivial⟩ rfl rfl ?_; rotate_right; rintro x rout ⟨⟨u8, hu8, rfl⟩, ⟨c, c1, c2, rfl⟩⟩; have hw8 := mem_len hu8 rfl; refine ⟨rfl, ?_⟩; conv => whnf) | (refine CallX.of (s15 n L hL _ ?_ ?_ [[53], [51, 48, 48], [52, 48, 48]] (by simp) (by simp)) [(1000000, 1000000)] rfl ⟨lr, SV.le_lit rfl rfl, trivial⟩ ⟨rr, trivial⟩ rfl rfl ?_; rotate_right; rintro x rout ⟨⟨u9, hu9, rfl⟩, ⟨c, c1, c2, rfl⟩⟩; have hw9 := mem_len hu9 rfl; refine ⟨rfl, ?_⟩; conv => whnf) | (refine CallX.of (s15 n L hL _ ?_ ?_ [[56], [50]] (by simp) (by simp)) [(1000000, 1000000)] rfl ⟨lr, SV.le_lit rfl rfl, trivial⟩ ⟨rr, trivial⟩ rfl rfl ?_; rotate_right; rintro x rout ⟨⟨u10, hu10, rfl⟩, ⟨c, c1, c2, rfl⟩⟩; have hw10 := mem_len hu10 rfl; refine ⟨rfl, ?_⟩; conv => whnf) | (refine CallX.of (s33 n L hL _ ?_ ?_ [10, 60, 1440, 2000, -5] (by simp) (by simp)) [(1000000, 1000000)] rfl ⟨lr, SV.le_lit rfl rfl, trivial⟩ ⟨rr, trivial⟩ rfl rfl ?_; rotate_right; rintro x rout ⟨⟨n1, hn1, rfl⟩, ⟨c, c1, c2, rfl⟩⟩; have hm1 := mem_bd hn1 rfl; have hm1a := hm1.1; have hm1b := hm1.2; refine ⟨rfl, ?_⟩; conv => whnf) | (refine CallX.of (s33 n L hL _ ?_ ?_ [0, 10, 100] (by simp) (by simp)) [(1000000, 1000000)] rfl ⟨lr, SV.le_lit rfl rfl, trivial⟩ ⟨rr, trivial⟩ rfl rfl ?_; rotate_right; rintro x rout ⟨⟨n2, hn2, rfl⟩, ⟨c, c1, c2, rfl⟩⟩; have hm2 := mem_bd hn2 rfl; have hm2a := hm2.1; have hm2b := hm2.2; refine ⟨rfl, ?_⟩; conv => whnf) | (refine CallX.of (s86 n L hL _ ?_ ?_ _ ?_) [(1000000, 1000000)] rfl ⟨lr, lr, trivial⟩ ⟨rr, trivial⟩ rfl rfl ?_; rotate_right; rintro x rout ⟨⟨j, hj1, hj2, hj3, rfl⟩, ⟨c, c1, c2, rfl⟩⟩; refine ⟨rfl, ?_⟩; conv => whnf) | (refine CallX.kn (zItoa _ (by omega) (by omega)) rfl rfl rfl rfl ?_; conv => whnf) | (refine CallX.of (s15 n L hL _ (by omega) (by omega) [_, _, _, _, _, _, _, _] (by simp) (by simp)) [(1000000, 1000000)] rfl ⟨lr, SV.le_lit rfl rfl, trivial⟩ ⟨rr, trivial⟩ rfl rfl ?_; rintro x rout ⟨⟨z, hz, rfl⟩, ⟨c9, c91, c92, rfl⟩⟩; refine ⟨rfl, ?_⟩; conv => whnf) | (refine And.intro (by simp only [List.length_append, List.toList_toArray, List.length_cons, List.length_nil]; have i1 := hI (at' + n1) (by omega) (by omega); first | omega | (have i2 := hI (at' + n2) (by omega) (by omega); omega)) ?_; conv => whnf) | (refine br_intro ?_ ?_ <;> intro hb <;> (try simp only [brs] at hb) <;> conv => whnf) | omega | (refine And.intro ?_ ?_; ((try dsimp only); first | omega | (refine szA rfl ?_; omega) | (refine szB rfl ?_; omega) | (unfold inI64; omega) | exact rfl | (simp only [List.toList_toArray, List.length_cons, List.length_nil]; omega) | (simp only [lns] at *; omega) | decide | (unfold inI64; decide)); conv => whnf) | decide | assumption)
 all_goals refine .ret _ ?_
 all_goals conv => whnf
 all_goals refine ⟨[(1000000, strm n L _), (1000009, KX)], ⟨⟨_, ?_, rfl⟩, ⟨_, ?_, ?_, rfl⟩⟩, rr, rr, trivial⟩
 all_goals first
  | omega
  | (have i1 := hI (at' + n1) (by omega) (by omega)
     first
      | (simp only [List.length_append, List.toList_toArray, List.length_cons, List.length_nil]
         first
          | omega
          | (have i2 := hI (at' + n2) (by omega) (by omega); omega))
      | (simp only [List.mem_cons, List.not_mem_nil, or_false] at hz
         rcases hz with rfl | rfl | rfl | rfl | rfl | rfl | rfl | rfl <;> simp only [List.length_append, List.toList_toArray, List.length_cons, List.length_nil] <;> omega))
def oUEnF5_9 : List (Nat × List Nat) := [(0, []), (1, [0]), (2, [0, 1]), (3, [0, 1, 2]), (4, [0, 1]), (5, [0, 1, 2, 3, 4]), (6, [0, 1, 2, 3, 4, 5]), (9, [0, 1, 2, 3, 4, 5, 6]), (7, [0, 1, 2, 3, 4, 9]), (8, [9]), (10, [])]
def keyE : List DV → List UInt8
 | [.str s] => s
 | _ => []
abbrev mpE (g : List UInt8 → Int) : Res := .map false false [.str] [.int .i64 0] (fun K => decide (0 < g (keyE K))) (fun K => [.int .i64 (g (keyE K))])
def upE (g : List UInt8 → Int) (x : List UInt8) : List UInt8 → Int := fun s => if s = x then g x + 1 else g s
theorem wk_str1 {K : List DV} (h : wk [.str] K = true) : ∃ s, K = [.str s] := by
 match K, h with
 | [.str s], _ => exact ⟨s, rfl⟩
theorem mpE_up {g : List UInt8 → Int} {x : List UInt8} (h0 : ∀ k, 0 ≤ g k) :
 Res.le (.map false false [.str] [.int .i64 0] (fun q => keyEq q [.str x] || decide (0 < g (keyE q))) (fun q => bif keyEq q [.str x] then [.int .i64 (g x + 1)] else [.int .i64 (g (keyE q))])) (mpE (upE g x)) := Res.le_map fun K hK => by
 obtain ⟨s, rfl⟩ := wk_str1 hK
 have e : keyEq [.str s] [.str x] = decide (s = x) := by
  rw [Bool.eq_iff_iff]; simp [keyEq, keyEq1]
 rw [e]
 show (decide (s = x) || decide (0 < g s)) = decide (0 < upE g x s) ∧ (bif decide (s = x) then [DV.int .i64 (g x + 1)] else [.int .i64 (g s)]) = [.int .i64 (upE g x s)]
 unfold upE
 by_cases q : s = x
 · subst q
   have := h0 s
   simp; omega
 · simp [q]
theorem keyEq_one (x : List UInt8) : keyEq [.str x] [.str x] = true := by simp [keyEq, keyEq1]
def entG (x : Ent) : Prop := (x.desk.length ≤ 8 ∧ x.words.length ≤ 2^10) ∧ entR x
theorem pickE {u : Int} (h : u ∈ ([0, 1, 5, 10, 100, 500] : List Int)) : 0 ≤ u ∧ u ≤ 500 := by
 simp only [List.mem_cons, List.not_mem_nil, or_false] at h; omega
set_option maxHeartbeats 4000000 in
theorem lz9 (n : Nat) (L : Nat → Int) (hL : Rok n L) (a : Int) (h0 : 0 ≤ a) (ha : a ≤ 2^36) (m : Int) (hm1 : 0 ≤ m) (hm2 : m ≤ 19) :
 FSpec Tryz.prog 5 [.ptr 1000000 0, .d (.int .i64 m)] [(1000000, strm n L a), (1000009, KX)] (fun y r => ∃ l : List Ent, ∃ b, allK entG m.toNat l ∧ (a ≤ b ∧ b ≤ a + 1000) ∧ y = .buf 5 ∧ r = [(5, enB l), (1000000, strm n L b), (1000009, KX)]) := by
 refine spec_of hT (C := []) Tryz.func5 rfl Tryz.call5 rfl rfl rfl ?_
 conv => whnf
 refine LoopX.rule hT (C := []) (ι := Int × List Ent × Nat × Int × (List UInt8 → Int)) (fun (b, l, k, t, g) => (a ≤ b ∧ b ≤ a + 50 * k ∧ (k : Int) ≤ m) ∧ allK entG k l ∧ (0 ≤ t ∧ t ≤ 2000 * k) ∧ (∀ s, 0 ≤ g s ∧ g s ≤ k))
  (fun (b, l, k, t, g) => mkSt [(0, .ptr 1000000 0), (5, .buf 5), (6, .d (.int .i64 t)), (7, .mp 7), (11, .d (.int .i64 m)), (12, .d (.int .i64 k))] [(1000000, strm n L b), (1000009, KX), (5, enB l), (7, mpE g)])
  (fun (_, _, k, _, _) => 30 - k) (a, [], 0, 0, fun _ => 0) ⟨⟨by simp, by simp, by simpa using hm1⟩, ⟨by simp, by simp⟩, ⟨by simp, by simp⟩, by simp⟩ ?_ ?_
 · refine (Entails.nil 5 5 48 4 (rowF enF en0 []) rfl rfl (by decide)).trans (Entails.mk' [(1000000, 1000000), (1000009, 1000009), (5, 5), (7, 10)] rfl rfl ⟨lr, lr, lr, lr, lr, lr, trivial⟩ ⟨rr, rr, rr, Res.le_map (fun key hk => ?_), trivial⟩)
   obtain ⟨s, rfl⟩ := wk_str1 hk
   exact ⟨rfl, rfl⟩
 rintro ⟨b, l, k, t, g⟩ ⟨⟨p1, p2, p3⟩, q1, ⟨q2, q3⟩, q4⟩
 have p1 : a ≤ b := p1
 have p2 : b ≤ a + 50 * k := p2
 have p3 : (k : Int) ≤ m := p3
 have q2 : 0 ≤ t := q2
 have q3 : t ≤ 2000 * k := q3
 have hl1 := q1.1
 conv => whnf
 repeat' (first | (refine CallX.of (s33 n L hL _ ?_ ?_ [0, 1, 5, 10, 100, 500] (by simp) (by simp)) [(1000000, 1000000)] rfl ⟨lr, SV.le_lit rfl rfl, trivial⟩ ⟨rr, trivial⟩ rfl rfl ?_; rotate_right; rintro x rout ⟨⟨u1, hu1, rfl⟩, ⟨c, c1, c2, rfl⟩⟩; have hb1 := pickE hu1; have hb2 := hb1.1; have hb3 := hb1.2; refine ⟨rfl, ?_⟩; conv => whnf) | (refine CallX.of (s15 n L hL _ ?_ ?_ [[100, 49], [100, 49], [100, 50], [100, 51]] (by simp) (by simp)) [(1000000, 1000000)] rfl ⟨lr, SV.le_lit rfl rfl, trivial⟩ ⟨rr, trivial⟩ rfl rfl ?_; rotate_right; rintro x rout ⟨⟨u2, hu2, rfl⟩, ⟨c, c1, c2, rfl⟩⟩; have hg2 := q4 u2; have hg3 : 0 ≤ g (keyE [DV.str u2]) := hg2.1; have hg4 : g (keyE [DV.str u2]) ≤ k := hg2.2; have hw2 := mem_len hu2 rfl; refine ⟨rfl, ?_⟩; conv => whnf) | (refine CallX.of (s15 n L hL _ ?_ ?_ [[], [65]] (by simp) (by simp)) [(1000000, 1000000)] rfl ⟨lr, SV.le_lit rfl rfl, trivial⟩ ⟨rr, trivial⟩ rfl rfl ?_; rotate_right; rintro x rout ⟨⟨u3, hu3, rfl⟩, ⟨c, c1, c2, rfl⟩⟩; have hw3 := mem_len hu3 rfl; refine ⟨rfl, ?_⟩; conv => whnf) | (refine CallX.of (s15 n L hL _ ?_ ?_ [[], [97, 10], [195]] (by simp) (by simp)) [(1000000, 1000000)] rfl ⟨lr, SV.le_lit rfl rfl, trivial⟩ ⟨rr, trivial⟩ rfl rfl ?_; rotate_right; rintro x rout ⟨⟨u4, hu4, rfl⟩, ⟨c, c1, c2, rfl⟩⟩; have hw4 := mem_len hu4 rfl; refine ⟨rfl, ?_⟩; conv => whnf) | (refine CallX.of (s104 n L hL _ ?_ ?_ 0 1000 ?_ ?_ ?_) [(1000000, 1000000)] rfl ⟨lr, lr, lr, trivial⟩ ⟨rr, trivial⟩ rfl rfl ?_; rotate_right; rintro x rout ⟨⟨u5, hk1, hk2, rfl⟩, ⟨c, c1, c2, rfl⟩⟩; refine ⟨rfl, ?_⟩; conv => whnf) | (refine CallX.of (s104 n L hL _ ?_ ?_ 1 1000000 ?_ ?_ ?_) [(1000000, 1000000)] rfl ⟨lr, lr, lr, trivial⟩ ⟨rr, trivial⟩ rfl rfl ?_; rotate_right; rintro x rout ⟨⟨u6, hk3, hk4, rfl⟩, ⟨c, c1, c2, rfl⟩⟩; refine ⟨rfl, ?_⟩; conv => whnf) | (refine CallX.of (s84 n L hL _ ?_ ?_ _ ?_) [(1000000, 1000000)] rfl ⟨lr, lr, trivial⟩ ⟨rr, trivial⟩ rfl rfl ?_; rotate_right; rintro x rout ⟨⟨f, rfl⟩, ⟨c, c1, c2, rfl⟩⟩; refine ⟨rfl, ?_⟩; conv => whnf) | (refine CallX.of (s86 n L hL _ ?_ ?_ _ ?_) [(1000000, 1000000)] rfl ⟨lr, lr, trivial⟩ ⟨rr, trivial⟩ rfl rfl ?_; rotate_right; rintro x rout ⟨⟨j, hj1, hj2, hj3, rfl⟩, ⟨c, c1, c2, rfl⟩⟩; refine ⟨rfl, ?_⟩; conv => whnf) | (refine CallX.of (lz59 n L hL _ (by omega) (by omega) (t + u1) (by omega) (by omega)) [(1000000, 1000000), (1000009, 1000009)] rfl ⟨lr, lr, trivial⟩ ⟨rr, rr, trivial⟩ rfl rfl ?_; rintro x rout ⟨⟨w, hw, rfl⟩, ⟨c5, c51, c52, rfl⟩⟩; refine ⟨rfl, ?_⟩; conv => whnf) | (refine And.intro (rfl : zrow _ = some [DV.int .i64 0]) ?_; conv => whnf) | (simp only [Nat.beq_refl, cond_true]; conv => whnf) | (rw [keyEq_one, cond_true]; conv => whnf) | (refine br_intro ?_ ?_ <;> intro hb <;> (try simp only [brs] at hb) <;> conv => whnf) | (refine RegX.rule (id := 9) hT rfl [] oUEnF5_9 (by decide +kernel) ?_; conv => whnf) | omega | (refine And.intro ?_ ?_; ((try dsimp only); first | omega | (refine szA rfl ?_; omega) | (refine szB rfl ?_; omega) | (unfold inI64; omega) | exact rfl | (simp only [List.toList_toArray, List.length_cons, List.length_nil]; omega) | (simp only [lns] at *; omega) | decide | (unfold inI64; decide)); conv => whnf) | decide | assumption)
 all_goals first
  | (refine ⟨(_, _, k + 1, _, upE g u2), ?_, ?_, Entails.mk' [(1000000, 1000000), (1000009, 1000009), (5, 62), (7, 7)] rfl rfl ⟨lr, lr, lr, lr, lr, lr, trivial⟩ ⟨rr, rr, Res.le_snocF (x := ⟨_, _, _, _⟩) rfl, mpE_up (fun s => (q4 s).1), trivial⟩⟩
     · dsimp only
       refine ⟨⟨by omega, by omega, by omega⟩, allK_snoc q1 (Nat.le_refl _) ⟨⟨?_, ?_⟩, ⟨?_, ?_⟩, ?_, ?_⟩, ⟨by omega, by omega⟩, fun s => ?_⟩
       · first
          | exact hw2
          | exact hw3
       · first
          | exact hw
          | exact Nat.le_trans hw4 (by omega)
       · (try dsimp only); omega
       · (try dsimp only); omega
       · (try dsimp only); omega
       · (try dsimp only); omega
       · have z1 := q4 s
         have z2 := q4 u2
         show 0 ≤ upE g u2 s ∧ upE g u2 s ≤ ((k + 1 : Nat) : Int)
         unfold upE
         split <;> omega
     · show 30 - (k + 1) < 30 - k; omega)
  | skip
 refine CallX.of (en126 9 entCmp l (by omega) (fun p q hp hq => lz63 p q (q1.2 p hp).2 (q1.2 q hq).2)) [(1000001, 5)] rfl ⟨lr, lr, trivial⟩ ⟨rr, trivial⟩ rfl rfl ?_
 rintro x rout ⟨rfl, e, he, rfl⟩
 refine ⟨rfl, ?_⟩
 have he1 := he.1
 conv => whnf
 repeat' (first | (refine br_intro ?_ ?_ <;> intro hb <;> (try simp only [brs] at hb) <;> conv => whnf) | (refine RegX.rule (id := 9) hT rfl [] oUEnF5_9 (by decide +kernel) ?_; conv => whnf) | omega | (refine And.intro ?_ ?_; ((try dsimp only); first | omega | (refine szA rfl ?_; omega) | (refine szB rfl ?_; omega) | (unfold inI64; omega) | exact rfl | (simp only [List.toList_toArray, List.length_cons, List.length_nil]; omega) | (simp only [lns] at *; omega) | decide | (unfold inI64; decide)); conv => whnf) | decide | assumption)
 refine .ret _ ?_
 conv => whnf
 exact ⟨[(5, enB e), (1000000, strm n L b), (1000009, KX)], ⟨e, b, ⟨by omega, fun p hp => q1.2 p (he.2 p hp)⟩, ⟨by omega, by omega⟩, rfl, rfl⟩, rr, rr, rr, trivial⟩
theorem entG_ok {l : List Ent} {k : Nat} (h : allK entG k l) (hk : k ≤ 2^20) : entOk l :=
 ⟨by have := h.1; omega, fun x hx => by
   obtain ⟨⟨h1, h2⟩, h3⟩ := h.2 x hx
   exact ⟨⟨by omega, by omega⟩, h3⟩⟩
theorem y16 (l : List Ent) (hl : l.length ≤ 2^20) (h0 : 0 < l.length) : FSpec Tryz.prog 11 [.d (ents l)] [] (fun y r => y = .buf 7 ∧ r = [(7, enB l)]) := by
 refine spec_of hT (C := [5]) Tryz.func11 rfl Tryz.call11 rfl rfl rfl ?_
 conv => whnf
 rintro b hbn
 conv => whnf
 repeat' (first | (refine br_intro ?_ ?_ <;> intro hb <;> (try simp only [brs] at hb) <;> conv => whnf) | omega | (refine And.intro ?_ ?_; ((try dsimp only); first | omega | (refine szA rfl ?_; omega) | (refine szB rfl ?_; omega) | (unfold inI64; omega) | exact rfl | (simp only [List.toList_toArray, List.length_cons, List.length_nil]; omega) | (simp only [lns] at *; omega) | decide | (unfold inI64; decide)); conv => whnf) | decide | assumption)
 · exact absurd (hbn (by assumption)) (by omega)
 · refine .ret _ ?_
   conv => whnf
   refine ⟨_, ⟨rfl, rfl⟩, Res.le_buf (by simp) (fun i hi => ?_), trivial⟩
   rw [appGet_ge (by omega)]; rfl
theorem y92 (y x : Ent) : FSpec Tryz.prog 55 [.agg ((enF y).map .d), .ptr 1000001 0] [(1000001, ecell x)] (fun v r => v = .d (.bool (eqE y x)) ∧ r = [(1000001, ecell x)]) := by
 refine spec_of hT (C := []) Tryz.func55 rfl Tryz.call55 rfl rfl rfl ?_
 conv => whnf
 repeat' (first | (refine br_intro ?_ ?_ <;> intro hb <;> (try simp only [brs] at hb) <;> conv => whnf) | omega | (refine And.intro ?_ ?_; ((try dsimp only); first | omega | (refine szA rfl ?_; omega) | (refine szB rfl ?_; omega) | (unfold inI64; omega) | exact rfl | (simp only [List.toList_toArray, List.length_cons, List.length_nil]; omega) | (simp only [lns] at *; omega) | decide | (unfold inI64; decide)); conv => whnf) | decide | assumption)
 all_goals
  refine .ret _ ?_
  conv => whnf
  refine ⟨[(1000001, ecell x)], ⟨?_, rfl⟩, rr, trivial⟩
  conv => lhs; whnf
  congr 2
  unfold eqE
  first
   | (rw [hb]; simp; done)
   | (have : (y.desk == x.desk) = false := by simpa using hb
      rw [this]; rfl)
   | simp_all
theorem y143 (l : List Ent) (hl : l.length ≤ 2^40) (x : Ent) : FSpec Tryz.prog 78 [.d (ents l), .fn 55 [.ptr 1000001 0]] [(1000001, ecell x)] (fun v r => v = .d (.int .i64 (ixF (fun i => eqE (l.getD i en0) x) l.length)) ∧ r = [(1000001, ecell x)]) := by
 refine spec_of hT (C := []) Tryz.func78 rfl Tryz.call78 rfl rfl rfl ?_
 conv => whnf
 refine LoopX.rule hT (C := []) (ι := Nat) (fun i => i ≤ l.length ∧ ∀ j, j < i → eqE (l.getD j en0) x = false) (fun i => mkSt [(0, .d (ents l)), (1, .fn 55 [.ptr 1000001 0]), (7, .d (.int .i64 l.length)), (8, .d (.int .i64 i))] [(1000001, ecell x)]) (fun i => l.length - i) 0 ⟨by omega, by omega⟩ (by (refine Entails.mk' [(1000001, 1000001)] rfl rfl ?_ ?_ <;> repeat' (first | exact True.intro | exact lr | exact rr | exact SV.le_int (by omega) | exact SV.le_any _ | refine And.intro ?_ ?_)); done) ?_
 rintro i ⟨p1, p2⟩
 have e1 : (i : Int).toNat = i := Int.toNat_natCast i
 conv => whnf
 repeat' (first | (refine CallX.of (y92 (l.getD (i : Int).toNat en0) x) [(1000001, 1000001)] rfl ⟨lr, lr, trivial⟩ ⟨rr, trivial⟩ rfl rfl ?_; rintro v rout ⟨rfl, rfl⟩; refine ⟨rfl, ?_⟩; conv => whnf) | (refine br_intro ?_ ?_ <;> intro hb <;> (try simp only [brs] at hb) <;> conv => whnf) | omega | (refine And.intro ?_ ?_; ((try dsimp only); first | omega | (refine szA rfl ?_; omega) | (refine szB rfl ?_; omega) | (unfold inI64; omega) | exact rfl | (simp only [List.toList_toArray, List.length_cons, List.length_nil]; omega) | (simp only [lns] at *; omega) | decide | (unfold inI64; decide)); conv => whnf) | decide | assumption)
 · refine .ret _ ?_
   conv => whnf
   refine ⟨[(1000001, ecell x)], ⟨?_, rfl⟩, rr, trivial⟩
   conv => lhs; whnf
   congr 2
   exact (ixF_hit (by omega) p2 (by simpa using hb)).symm
 · exact ⟨i + 1, ⟨by omega, all_step p2 (by simpa using hb)⟩, by omega, (by (refine Entails.mk' [(1000001, 1000001)] rfl rfl ?_ ?_ <;> repeat' (first | exact True.intro | exact lr | exact rr | exact SV.le_int (by omega) | exact SV.le_any _ | refine And.intro ?_ ?_)); done)⟩
 · refine .ret _ ?_
   conv => whnf
   refine ⟨[(1000001, ecell x)], ⟨?_, rfl⟩, rr, trivial⟩
   conv => lhs; whnf
   congr 2
   have : i = l.length := by omega
   subst this
   exact (ixF_none p2).symm
theorem y78 (l : List Ent) (hl : l.length ≤ 2^40) (x : Ent) : FSpec Tryz.prog 41 [.d (ents l), .fn 55 [.ptr 1000001 0]] [(1000001, ecell x)] (fun v r => v = .d (.bool (dupE l x)) ∧ r = [(1000001, ecell x)]) := by
 refine spec_of hT (C := []) Tryz.func41 rfl Tryz.call41 rfl rfl rfl ?_
 conv => whnf
 repeat' (first | (refine CallX.of (y143 l hl x) [(1000001, 1000001)] rfl ⟨lr, lr, trivial⟩ ⟨rr, trivial⟩ rfl rfl ?_; rintro v rout ⟨rfl, rfl⟩; refine ⟨rfl, ?_⟩; conv => whnf) | (refine br_intro ?_ ?_ <;> intro hb <;> (try simp only [brs] at hb) <;> conv => whnf) | omega | (refine And.intro ?_ ?_; ((try dsimp only); first | omega | (refine szA rfl ?_; omega) | (refine szB rfl ?_; omega) | (unfold inI64; omega) | exact rfl | (simp only [List.toList_toArray, List.length_cons, List.length_nil]; omega) | (simp only [lns] at *; omega) | decide | (unfold inI64; decide)); conv => whnf) | decide | assumption)
 refine .ret _ ?_
 conv => whnf
 refine ⟨[(1000001, ecell x)], ⟨?_, rfl⟩, rr, trivial⟩
 conv => lhs; whnf
 rw [← dup_ix]
theorem y26 : FSpec Tryz.prog 21 [] [] (fun x r => x = .d (.bool true) ∧ r = []) := by
 have hE : entsE [⟨1, [100], 1, [120]⟩] = 0 := by decide
 have hm : mrgF [⟨1, [100], 1, [120]⟩] [] = 0 := by decide
 have h := lz84 [⟨1, [100], 1, [120]⟩] [] ⟨by simp, by intro x hx; simp only [List.mem_cons, List.not_mem_nil, or_false] at hx; subst hx; simp [entK, entR]⟩ ⟨by simp, by simp⟩ (by simp)
 rw [if_pos hm, hm] at h
 have hl : (mrgEL [⟨1, [100], 1, [120]⟩] []) = [⟨1, [100], 1, [120]⟩] := by decide
 rw [hl] at h
 refine spec_of hT (C := []) Tryz.func21 rfl Tryz.call21 rfl rfl rfl ?_
 conv => whnf
 repeat' (first | (refine CallX.pure h ⟨SV.le_lit (by rfl) (by rfl), SV.le_nilS, trivial⟩ rfl ?_; conv => whnf) | (refine br_intro ?_ ?_ <;> intro hb <;> (try simp only [brs] at hb) <;> conv => whnf) | omega | (refine And.intro ?_ ?_; ((try dsimp only); first | omega | (refine szA rfl ?_; omega) | (refine szB rfl ?_; omega) | (unfold inI64; omega) | exact rfl | (simp only [List.toList_toArray, List.length_cons, List.length_nil]; omega) | (simp only [lns] at *; omega) | decide | (unfold inI64; decide)); conv => whnf) | decide | assumption)
 all_goals first
  | (refine .ret _ ?_
     conv => whnf
     refine ⟨[], ⟨?_, rfl⟩, trivial⟩
     conv => lhs; whnf; simp)
  | (refine .ret _ ?_
     conv => whnf
     refine ⟨[], ⟨?_, rfl⟩, trivial⟩
     conv => lhs; whnf; done)
end Go.Proofs.YtobgeiclibhiiaaGreatDoor
namespace Go.Eng
open Go Go.Proofs Go.Sort Go.RowKit
end Go.Eng
namespace Go.Eng
open Go Go.Proofs Go.Sort Go.RowKit
variable {α : Type} [Inhabited α]
structure EncOk (k : Nat) (enc : α → List Value) (fF : α → List DV) : Prop where
 pos : 0 < k
 len : ∀ a, (enc a).length = k
 lenF : ∀ a, (fF a).length = k
 den : ∀ (a : α) (j : Nat) (x : DV), (fF a)[j]? = some x → ∀ (G : Hp) (u : Value), DV.Den G x u ↔ (enc a)[j]? = some u
theorem flatk_cell {k : Nat} {enc : α → List Value} (hk : 0 < k) (hlen : ∀ a, (enc a).length = k) {d : α} {l : List α} {t : Nat} (ht : t < l.length * k) : (flatK enc k l.toArray).toList[t]? = (enc (l.getD (t / k) d))[t % k]? := by
 have hi : t / k < l.length := Nat.div_lt_of_lt_mul (by rwa [Nat.mul_comm])
 have hj : t % k < k := Nat.mod_lt _ hk
 have hg := get_flatK enc k l.toArray t (by simpa using ht)
 rw [getElem!_pos _ t (by rw [size_flatK]; simpa using ht)] at hg
 have hd : l.toArray[t / k]! = l.getD (t / k) d := by simp [hi, List.getD_eq_getElem?_getD]
 have hj2 : t % k < (enc (l.getD (t / k) d)).length := by rw [hlen]; exact hj
 rw [hd, getElem!_pos _ (t % k) hj2] at hg
 rw [Array.getElem?_toList, Array.getElem?_eq_getElem (by rw [size_flatK]; simpa using ht), hg, List.getElem?_eq_getElem hj2]
theorem flatk_eq {k : Nat} {enc : α → List Value} (hk : 0 < k) (hlen : ∀ a, (enc a).length = k) {d : α} {l : List α} {xs : List Value} (hl : xs.length = l.length * k) (h : ∀ i j, i < l.length → j < k → xs[i * k + j]? = (enc (l.getD i d))[j]?) :
 xs = (flatK enc k l.toArray).toList := by
 apply List.ext_getElem?
 intro t
 by_cases ht : t < l.length * k
 · have hi : t / k < l.length := Nat.div_lt_of_lt_mul (by rwa [Nat.mul_comm])
   have e := h (t / k) (t % k) hi (Nat.mod_lt _ hk)
   rw [show t / k * k + t % k = t by rw [Nat.mul_comm]; exact Nat.div_add_mod t k] at e
   rw [e, flatk_cell hk hlen ht]
 · rw [List.getElem?_eq_none (by omega), List.getElem?_eq_none (by simp; omega)]
theorem flatk_at {k : Nat} {enc : α → List Value} (hk : 0 < k) (hlen : ∀ a, (enc a).length = k) {d : α} {l : List α} {i j : Nat} (hi : i < l.length) (hj : j < k) : (flatK enc k l.toArray).toList[i * k + j]? = (enc (l.getD i d))[j]? := by
 have hlt : i * k + j < l.length * k := calc i * k + j < i * k + k := by omega
  _ = (i + 1) * k := by rw [Nat.add_mul, Nat.one_mul]
  _ ≤ l.length * k := Nat.mul_le_mul_right _ hi
 have e1 : (i * k + j) / k = i := by rw [Nat.mul_comm, Nat.mul_add_div hk, Nat.div_eq_of_lt hj, Nat.add_zero]
 have e2 : (i * k + j) % k = j := by rw [Nat.mul_comm, Nat.mul_add_mod, Nat.mod_eq_of_lt hj]
 rw [flatk_cell hk hlen (d := d) hlt, e1, e2]
theorem holds_fl {w : World} {g : Nat} {cur : Array Value} {e : TypeId} {D : Array Value} (hb : w.heap[g]? = some (.cells cur e (0, 0))) (ht : cur.toList.take D.size = D.toList) : Holds id w g 0 D := by
 intro j hj
 refine ⟨?_, by simp [World.frozen?, hb]⟩
 have h1 : (cur.toList.take D.size)[j]? = D.toList[j]? := by rw [ht]
 rw [List.getElem?_take_of_lt hj] at h1
 simp only [World.cell?, hb, Nat.zero_add]
 simp only [Option.isSome_none, Bool.false_eq_true, if_false]
 rw [← Array.getElem?_toList, h1]
 simp [hj]
theorem heap_fl {w : World} {g n : Nat} {os : Array Obj} {cur : Array Value} {e : TypeId} {fr : Nat × Nat} (d : Array Value) (hb : w.heap[g]? = some (.cells cur e fr)) :
 (grow (putRow id (Sort.ahead w n) g 0 d) os).heap[g]? = some (.cells (putCells id 0 d cur) e fr) := by
 have hg : g < w.heap.size := (Array.getElem?_eq_some_iff.1 hb).1
 rw [heap_grow_old _ _ (by simpa using hg)]
 simp [putRow, mapBlock, Sort.ahead, Array.getElem?_modify, hb, onCells]
theorem grown_fl {w : World} {g n : Nat} {os : Array Obj} (d : Array Value) : w.grownBy (grow (putRow id (Sort.ahead w n) g 0 d) os) (some g) := by
 refine ⟨rfl, rfl, rfl, by simp, fun k hk hne => ?_⟩
 rw [heap_grow_old _ _ (by simpa using hk)]
 have : g ≠ k := fun e => hne (by rw [e])
 simp [putRow, mapBlock, Sort.ahead, Array.getElem?_modify, this]
theorem take_fl (cur D : Array Value) (h : D.size ≤ cur.size) : (putCells id 0 D cur).toList.take D.size = D.toList := by
 apply List.ext_getElem?
 intro j
 by_cases hj : j < D.size
 · rw [List.getElem?_take_of_lt hj, Array.getElem?_toList]
   simp [putCells, hj, show j < cur.size by omega]
 · rw [List.getElem?_take_eq_none (by omega), List.getElem?_eq_none (by simp; omega)]
theorem FSpec.sortK {k : Nat} {enc : α → List Value} {fF : α → List DV} (he : EncOk k enc fF) (d0 : α) {P : Program} {f g : FuncId} {e : TypeId} {lt : α → α → Bool} (henter : ∀ args w, (callFunc f args).run P w = .ok (.enter f args) w) (l : List α) (h1 : 0 < l.length)
 (hc : ∀ (blk cap : Nat) (w : World), HoldsK enc k w blk 0 l.toArray → blk < w.heap.size → Calls P f #[.slice (some ⟨blk, 0, none⟩) l.length cap, .func (.func g) #[] #[]] w fun e' w' => e' = .returned (.tuple #[]) ∧ ∃ d' n os, PermIn 0 l.length l.toArray d' ∧ SortedIn lt 0 l.length d' ∧ w' = sortWorldK enc k w blk 0 n d' os) :
 FSpec P f [.buf 1000001, .fn g []] [(1000001, seqB e k fF d0 l)] (fun y r => y = .tup [] ∧ ∃ m : List α, m.Perm l ∧ m.Pairwise (fun a b => lt b a = false) ∧ r = [(1000001, seqB e k fF d0 m)]) := by
 refine ⟨henter, fun G β w vs hpre hvl hvd => ?_⟩
 match vs, hvl with
 | [v, v2], _ =>
   have hv := hvd 0 _ _ rfl rfl
   have hv2 := hvd 1 _ _ rfl rfl
   cases hv2 with | fn _ _ cs hcl _ =>
   have hcs : cs = [] := List.length_eq_zero_iff.1 hcl
   subst hcs
   cases hv with | buf _ _ hb _ =>
   have hR : lookL [(1000001, seqB e k fF d0 l)] 1000001 = some (seqB e k fF d0 l) := by simp [lookL]
   have hrow : ∀ {q : List α} d r, lookL [(1000001, seqB e k fF d0 q)] d = some r → d = 1000001 ∧ r = seqB e k fF d0 q := by
    intro q d r hr
    simp only [lookL] at hr
    cases hq : Nat.beq d 1000001 with
    | false => rw [show (d.beq 1000001) = false from hq] at hr; cases hr
    | true => rw [show (d.beq 1000001) = true from hq] at hr; cases hr; exact ⟨Nat.eq_of_beq_eq_true hq, rfl⟩
   obtain ⟨v', xs, hv', hown, _, _, hden⟩ := hpre.rs _ _ hR
   rw [hb] at hv'; cases hv'
   rcases hown.2 with ⟨_, hz⟩ | ⟨gg, cap, cur, rfl, hg, hh, hnc, hcm, hcz, htake⟩
   · omega
   have hxs : xs = (flatK enc k l.toArray).toList := by
    refine flatk_eq he.pos he.len (d := d0) hown.1 fun i j hi hj => ?_
    have hj2 : j < (fF (l.getD i d0)).length := by rw [he.lenF]; exact hj
    obtain ⟨u, hu, hd⟩ := hden i j ((fF (l.getD i d0))[j]) hi (List.getElem?_eq_getElem hj2)
    rw [hu, (he.den _ _ _ (List.getElem?_eq_getElem hj2) _ _).1 hd]
   have hgs : gg < w.heap.size := (Array.getElem?_eq_some_iff.1 hh).1
   have hho : HoldsK enc k w gg 0 l.toArray := holds_fl hh (by rw [← hxs, size_flatK, List.size_toArray]; exact htake)
   refine (hc gg cap w hho hgs).mono ?_
   rintro e' w' ⟨rfl, d', n, os, hperm, hsort, rfl⟩
   have hsz : d'.size = l.length := hperm.1.trans (by simp)
   have hm : d'.toList.toArray = d' := by simp
   have hml : d'.toList.length = l.length := by rw [Array.length_toList, hsz]
   have hgb := grown_fl (w := w) (g := gg) (n := n) (os := os) (flatK enc k d')
   have hDs : (flatK enc k d').size = l.length * k := by rw [size_flatK, hsz]
   have hrs : (sortWorldK enc k w gg 0 n d' os).ownsRow 0 e k (.slice (some ⟨gg, 0, none⟩) l.length cap) l.length (flatK enc k d').toList :=
    ⟨by rw [Array.length_toList, hDs], .inr ⟨gg, cap, _, rfl, Nat.zero_le _, heap_fl _ hh, hnc, hcm, by simp [putCells, hcz], by rw [← hDs]; exact take_fl _ _ (by rw [hDs, hcz]; exact Nat.mul_le_mul_right _ hnc)⟩⟩
   have hTin : Tin w β (lookL [(1000001, seqB e k fF d0 l)]) gg := ⟨1000001, _, _, hR, rfl, hb, .of rfl⟩
   have hGg : G gg = none := hpre.og _ _ _ gg hR rfl hb (.of rfl)
   have hpl : d'.toList.Perm l := by
    have := hperm.2.2
    rw [← hsz, Array.extract_size] at this
    have e2 : l.toArray.extract 0 d'.size = l.toArray := by rw [hsz]; simp
    rw [e2] at this
    exact this
   have hpw : d'.toList.Pairwise (fun a b => lt b a = false) := by
    rw [List.pairwise_iff_getElem]
    intro i j hi hj hij
    have := hsort i j (Nat.zero_le _) hij (by rw [Array.length_toList, hsz] at hj; exact hj)
    rw [getElem!_pos _ j (by simpa using hj), getElem!_pos _ i (by simpa using hi)] at this
    simpa using this
   refine ⟨.tuple #[], .tup [], [(1000001, seqB e k fF d0 d'.toList)], G, β, rfl, ⟨rfl, d'.toList, hpl, hpw, rfl⟩, ⟨Hp.le_refl G, Env.le_refl β, fun b o ho => ?_, fun b o ho => .inl ho, ⟨hgb.os, hgb.tape, hgb.output, hgb.size, fun b hlt hT => ?_⟩, fun d r hr => ?_, fun d d2 r r' _ _ _ e1 e2 _ _ _ _ _ _ => ?_, fun d r u b e1 _ hu hbk => ?_⟩, .tup [] [] rfl (fun i x v hx => by simp at hx)⟩
   · have hw := hpre.gw b o ho
     rw [show (sortWorldK enc k w gg 0 n d' os).heap[b]? = w.heap[b]? from hgb.block b (Array.getElem?_eq_some_iff.1 hw).1 (fun q => by cases q; rw [hGg] at ho; cases ho)]; exact hw
   · exact hgb.block b hlt (fun q => by cases q; exact hT hTin)
   · obtain ⟨rfl, rfl⟩ := hrow d r hr
     refine ⟨_, _, hb, by rw [hml]; exact hrs, he.pos, fun i hi => he.lenF _, fun i j x hi hx => ?_⟩
     rw [hml] at hi
     have hx : (fF (d'.toList.getD i d0))[j]? = some x := hx
     have hj : j < k := by rw [← he.lenF (d'.toList.getD i d0)]; exact (List.getElem?_eq_some_iff.1 hx).1
     have hj3 : j < (enc (d'.toList.getD i d0)).length := by rw [he.len]; exact hj
     have hat := flatk_at he.pos he.len (d := d0) (l := d'.toList) (i := i) (by rw [hml]; exact hi) hj
     rw [hm, List.getElem?_eq_getElem hj3] at hat
     exact ⟨_, hat, (he.den _ _ _ hx _ _).2 (List.getElem?_eq_getElem hj3)⟩
   · rw [(hrow d r e1).1, (hrow d2 r' e2).1]
   · obtain ⟨rfl, rfl⟩ := hrow d r e1
     rw [hb] at hu; cases hu
     cases hbk.plain rfl
     exact ⟨hGg, .inl hTin⟩
theorem FSpec.sortK0 {γ : Type} {k : Nat} {fF : γ → List DV} (d0 : γ) {P : Program} {f g : FuncId} {e : TypeId} (henter : ∀ args w, (callFunc f args).run P w = .ok (.enter f args) w)
 (hc : ∀ (p : Option Addr) (cap : Nat) (w : World), Calls P f #[.slice p 0 cap, .func (.func g) #[] #[]] w fun e' w' => e' = .returned (.tuple #[]) ∧ w' = w) :
 FSpec P f [.buf 1000001, .fn g []] [(1000001, seqB e k fF d0 [])] (fun y r => y = .tup [] ∧ r = [(1000001, seqB e k fF d0 [])]) := by
 refine ⟨henter, fun G β w vs hpre hvl hvd => ?_⟩
 match vs, hvl with
 | [v, v2], _ =>
   have hv := hvd 0 _ _ rfl rfl
   have hv2 := hvd 1 _ _ rfl rfl
   cases hv2 with | fn _ _ cs hcl _ =>
   have hcs : cs = [] := List.length_eq_zero_iff.1 hcl
   subst hcs
   cases hv with | buf _ _ hb _ =>
   have hR : lookL [(1000001, seqB e k fF d0 [])] 1000001 = some (seqB e k fF d0 []) := by simp [lookL]
   have hrow : ∀ d r, lookL [(1000001, seqB e k fF d0 [])] d = some r → d = 1000001 ∧ r = seqB e k fF d0 [] := by
    intro d r hr
    simp only [lookL] at hr
    cases hq : Nat.beq d 1000001 with
    | false => rw [show (d.beq 1000001) = false from hq] at hr; cases hr
    | true => rw [show (d.beq 1000001) = true from hq] at hr; cases hr; exact ⟨Nat.eq_of_beq_eq_true hq, rfl⟩
   obtain ⟨v', xs, hv', hown, hk0, hj0, hden⟩ := hpre.rs _ _ hR
   rw [hb] at hv'; cases hv'
   have hrun : Calls P f #[v, .func (.func g) #[] #[]] w fun e' w' => e' = .returned (.tuple #[]) ∧ w' = w := by
    rcases hown.2 with ⟨rfl, _⟩ | ⟨gg, cap, cur, rfl, _⟩
    · exact hc none 0 w
    · exact hc _ cap w
   refine hrun.mono ?_
   rintro e' w' ⟨rfl, rfl⟩
   refine ⟨.tuple #[], .tup [], [(1000001, seqB e k fF d0 [])], G, β, rfl, ⟨rfl, rfl⟩, ⟨Hp.le_refl G, Env.le_refl β, fun b o ho => hpre.gw b o ho, fun b o ho => .inl ho, ⟨rfl, rfl, rfl, Nat.le_refl _, fun b hlt hT => rfl⟩, fun d r hr => hpre.rs d r hr, fun d d2 r r' _ _ _ e1 e2 _ _ _ _ _ _ => ?_, fun d r u b e1 _ hu hbk => ?_⟩, .tup [] [] rfl (fun i x v hx => by simp at hx)⟩
   · rw [(hrow d r e1).1, (hrow d2 r' e2).1]
   · obtain ⟨rfl, rfl⟩ := hrow d r e1
     exact ⟨hpre.og _ _ _ b hR rfl hu hbk, .inl ⟨1000001, _, _, hR, rfl, hu, hbk⟩⟩
end Go.Eng
namespace Go.Proofs
open Go.Shelf
def Tryz.laysS_ren : Go.Shelf.Ren := ⟨fun | 6 => 53 | 15 => 104 | 14 => 103 | 28 => 138 | 29 => 139 | 20 => 68 | 21 => 131 | 22 => 132 | 23 => 133 | 24 => 134 | 25 => 135 | 26 => 136 | 27 => 137 | 46 => 148 | 47 => 149 | 48 => 150 | 49 => 151 | 50 => 152 | 57 => 172 | n => n, fun | 22 => 44 | 24 => 48 | 25 => 51 | 3 => 3 | 39 => 121 | 0 => 0 | 53 => 162 | 55 => 164 | 4 => 4 | 46 => 155 | 45 => 154 | 50 => 159 | 5 => 5 | 9 => 9 | 66 => 172 | 70 => 176 | 76 => 195 | 77 => 196 | n => n, fun | n => n⟩
theorem Tryz.laysS : Go.Proofs.SlLaysF0.n6 Tryz.prog Tryz.laysS_ren := {
 mixed := by kernel_rfl
 f6 := ⟨Tryz.f53.name, by decide, Tryz.func53.trans (congrArg some (by kernel_rfl))⟩
 f14 := ⟨Tryz.f103.name, by decide, Tryz.func103.trans (congrArg some (by kernel_rfl))⟩
 f15 := Tryz.func104.trans (congrArg some (by kernel_rfl))
 f20 := ⟨Tryz.f68.name, by decide, Tryz.func68.trans (congrArg some (by kernel_rfl))⟩
 f21 := ⟨Tryz.f131.name, by decide, Tryz.func131.trans (congrArg some (by kernel_rfl))⟩
 f22 := ⟨Tryz.f132.name, by decide, Tryz.func132.trans (congrArg some (by kernel_rfl))⟩
 f23 := ⟨Tryz.f133.name, by decide, Tryz.func133.trans (congrArg some (by kernel_rfl))⟩
 f24 := ⟨Tryz.f134.name, by decide, Tryz.func134.trans (congrArg some (by kernel_rfl))⟩
 f25 := ⟨Tryz.f135.name, by decide, Tryz.func135.trans (congrArg some (by kernel_rfl))⟩
 f26 := ⟨Tryz.f136.name, by decide, Tryz.func136.trans (congrArg some (by kernel_rfl))⟩
 f27 := ⟨Tryz.f137.name, by decide, Tryz.func137.trans (congrArg some (by kernel_rfl))⟩
 f28 := Tryz.func138.trans (congrArg some (by kernel_rfl))
 f29 := Tryz.func139.trans (congrArg some (by kernel_rfl))
 f46 := ⟨Tryz.f148.name, by decide, Tryz.func148.trans (congrArg some (by kernel_rfl))⟩
 f47 := Tryz.func149.trans (congrArg some (by kernel_rfl))
 f48 := Tryz.func150.trans (congrArg some (by kernel_rfl))
 f49 := ⟨Tryz.f151.name, by decide, Tryz.func151.trans (congrArg some (by kernel_rfl))⟩
 f50 := ⟨Tryz.f152.name, by decide, Tryz.func152.trans (congrArg some (by kernel_rfl))⟩
 f57 := ⟨Tryz.f172.name, by decide, Tryz.func172.trans (congrArg some (by kernel_rfl))⟩
 t0 := Tryz.underlying0
 a0 := Tryz.isAgg0
 z0 := Tryz.sizeOf0
 v0 := Tryz.zeroValue0
 t3 := Tryz.underlying3
 a3 := Tryz.isAgg3
 z3 := Tryz.sizeOf3
 v3 := Tryz.zeroValue3
 t4 := Tryz.underlying4
 a4 := Tryz.isAgg4
 z4 := Tryz.sizeOf4
 v4 := Tryz.zeroValue4
 t5 := Tryz.underlying5
 a5 := Tryz.isAgg5
 z5 := Tryz.sizeOf5
 v5 := Tryz.zeroValue5
 t9 := Tryz.underlying9
 a9 := Tryz.isAgg9
 z9 := Tryz.sizeOf9
 v9 := Tryz.zeroValue9
 t22 := Tryz.underlying44
 a22 := Tryz.isAgg44
 z22 := Tryz.sizeOf44
 v22 := Tryz.zeroValue44
 t25 := Tryz.underlying51
 a25 := Tryz.isAgg51
 z25 := Tryz.sizeOf51
 v25 := Tryz.zeroValue51
 t39 := Tryz.underlying121
 a39 := Tryz.isAgg121
 z39 := Tryz.sizeOf121
 v39 := Tryz.zeroValue121
 t45 := Tryz.underlying154
 a45 := Tryz.isAgg154
 z45 := Tryz.sizeOf154
 v45 := Tryz.zeroValue154
 t46 := Tryz.underlying155
 a46 := Tryz.isAgg155
 z46 := Tryz.sizeOf155
 v46 := Tryz.zeroValue155
 t50 := Tryz.underlying159
 a50 := Tryz.isAgg159
 z50 := Tryz.sizeOf159
 v50 := Tryz.zeroValue159
 t53 := Tryz.underlying162
 a53 := Tryz.isAgg162
 z53 := Tryz.sizeOf162
 v53 := Tryz.zeroValue162
 t55 := Tryz.underlying164
 a55 := Tryz.isAgg164
 z55 := Tryz.sizeOf164
 v55 := Tryz.zeroValue164
 t66 := Tryz.underlying172
 a66 := Tryz.isAgg172
 z66 := Tryz.sizeOf172
 v66 := Tryz.zeroValue172
 t70 := Tryz.underlying176
 a70 := Tryz.isAgg176
 z70 := Tryz.sizeOf176
 v70 := Tryz.zeroValue176
 t76 := Tryz.underlying195
 a76 := Tryz.isAgg195
 z76 := Tryz.sizeOf195
 v76 := Tryz.zeroValue195
 t77 := Tryz.underlying196
 a77 := Tryz.isAgg196
 z77 := Tryz.sizeOf196
 v77 := Tryz.zeroValue196 }
end Go.Proofs
set_option maxRecDepth 20000
namespace Go.Proofs.YtobgeiclibhiiaaGreatDoor
open Go Go.Eng
def encE (x : Ent) : List Value := [.int .i64 x.tm, .string ⟨x.desk.toArray⟩, .int .i64 x.no, .string ⟨x.words.toArray⟩]
open Go.Sort Go.RowKit Go.Lib in
theorem clSg (n : Int) (W : World) : Calls Tryz.prog 30 #[.int .i64 n] W fun e w' => e = .returned (.int .i64 (cmpI n 0)) ∧ w' = W := by
 go_enter Tryz.func30, Tryz.ntmps30
 go_wp2_with fail
 all_goals
  go_ret
  first
   | (rw [show cmpI n 0 = -1 from by unfold cmpI; (repeat' split) <;> omega]; exact ⟨rfl, rfl⟩)
   | (rw [show cmpI n 0 = 1 from by unfold cmpI; (repeat' split) <;> omega]; exact ⟨rfl, rfl⟩)
   | (rw [show cmpI n 0 = 0 from by unfold cmpI; (repeat' split) <;> omega]; exact ⟨rfl, rfl⟩)
open Go.Sort Go.RowKit Go.Lib in
theorem clCmp (a b : List UInt8) (W : World) : Calls Tryz.prog 31 #[.string ⟨a.toArray⟩, .string ⟨b.toArray⟩] W fun e w' => e = .returned (.int .i64 (cmpS a b)) ∧ w' = W := by
 have h := Go.Proofs.Any.strings_Compare Go.Proofs.Tryz.lays106 ⟨a.toArray⟩ ⟨b.toArray⟩ W
 change Calls Tryz.prog 31 _ _ _ at h
 refine h.mono ?_
 rintro e w' ⟨rfl, rfl⟩
 exact ⟨by rw [← cmpB_S], rfl⟩
open Go.Sort Go.RowKit Go.Lib in
theorem clOrd (a b : Ent) (ha : entR a) (hb : entR b) (W : World) : Calls Tryz.prog 9 #[.agg (encE a).toArray, .agg (encE b).toArray] W fun e w' => e = .returned (.int .i64 (entCmp a b)) ∧ ∃ q os', w' = grow (W.drewN q) os' := by
 obtain ⟨⟨a1, a2⟩, a3, a4⟩ := ha
 obtain ⟨⟨b1, b2⟩, b3, b4⟩ := hb
 have h1 := clSg
 have h2 := clCmp
 have e1 : (a.tm != b.tm) = true → entCmp a b = cmpI (a.tm - b.tm) 0 := fun h => by rw [cmpI_sub]; unfold entCmp firstE cmpI; simp at h; grind
 have e2 : (a.tm != b.tm) = false → (!a.desk == b.desk) = true → entCmp a b = cmpS a.desk b.desk := fun h k => by
  have q1 : a.tm = b.tm := by simpa using h
  have q2 : a.desk ≠ b.desk := by simpa using k
  have q3 : cmpS a.desk b.desk ≠ 0 := fun z => q2 (cmpS_zero.1 z)
  unfold entCmp
  rw [firstE, if_pos (cmpI_zero.2 q1), firstE, if_neg q3]
 have e3 : (a.tm != b.tm) = false → (!a.desk == b.desk) = false → entCmp a b = cmpI (a.no - b.no) 0 := fun h k => by
  have q1 : a.tm = b.tm := by simpa using h
  have q2 : a.desk = b.desk := by simpa using k
  unfold entCmp
  rw [firstE, if_pos (cmpI_zero.2 q1), firstE, if_pos (cmpS_zero.2 q2), cmpI_sub]
  unfold firstE firstE
  split
  · rename_i z; exact z.symm
  · rfl
 generalize entCmp a b = r at e1 e2 e3 ⊢
 unfold encE
 go_enter Tryz.func9, Tryz.ntmps9
 go_wp2_with (first | (go_at_call 30; refine (h1 _ _).mono ?_; rintro e w' ⟨rfl, rfl⟩) | (go_at_call 31; refine (h2 _ _ _).mono ?_; rintro e w' ⟨rfl, rfl⟩))
 all_goals go_ret
 all_goals first
  | (rw [e1 (by assumption)]; exact ⟨rfl, 0, _, by rw [alloc_eq_grow, alloc_eq_grow, grow_grow]; rfl⟩)
  | (rw [e2 (by assumption) (by assumption)]; exact ⟨rfl, 0, _, by rw [alloc_eq_grow, alloc_eq_grow, grow_grow]; rfl⟩)
  | (rw [e3 (by assumption) (by assumption)]; exact ⟨rfl, 0, _, by rw [alloc_eq_grow, alloc_eq_grow, grow_grow]; rfl⟩)
open Go.Sort Go.RowKit Go.Lib in
theorem grow2_at (W : World) (O1 O2 : Obj) (q : Nat) (os : Array Obj) : grow (((W.alloc O1).alloc O2).drewN q) os = grow (W.drewN q) (#[O1] ++ #[O2] ++ os) ∧ (grow (((W.alloc O1).alloc O2).drewN q) os).heap[W.heap.size]? = some O1 ∧ (grow (((W.alloc O1).alloc O2).drewN q) os).heap[W.heap.size + 1]? = some O2 := by
 have e : grow (((W.alloc O1).alloc O2).drewN q) os = grow (W.drewN q) (#[O1] ++ #[O2] ++ os) := by
  rw [alloc_eq_grow, alloc_eq_grow, grow_grow]
  exact (grow_grow (W.drewN q) (#[O1] ++ #[O2]) os)
 refine ⟨e, ?_, ?_⟩
 · rw [e]
   show (W.heap ++ (#[O1] ++ #[O2] ++ os))[W.heap.size]? = _
   rw [Array.getElem?_append_right (Nat.le_refl _), Nat.sub_self, Array.getElem?_append_left (by simp), Array.getElem?_append_left (by simp)]; rfl
 · rw [e]
   show (W.heap ++ (#[O1] ++ #[O2] ++ os))[W.heap.size + 1]? = _
   rw [Array.getElem?_append_right (by omega), show W.heap.size + 1 - W.heap.size = 1 by omega, Array.getElem?_append_left (by simp), Array.getElem?_append_right (by simp)]; rfl
open Go.Sort Go.RowKit Go.Lib in
theorem clOrd4 (a b : Ent) (ha : entR a) (hb : entR b) (W : World) : Calls Tryz.prog 54 #[.agg (encE a).toArray, .agg (encE b).toArray] W fun e w' => e = .returned (.int .i64 (cmpE4 a b)) ∧ ∃ q os', w' = grow (W.drewN q) os' := by
 have h1 := clOrd a b ha hb
 have h2 := clCmp
 have e1 : entCmp a b ≠ 0 → cmpE4 a b = entCmp a b := fun h => by unfold cmpE4; rw [firstE, if_neg h]
 have e2 : entCmp a b = 0 → cmpE4 a b = cmpS a.words b.words := fun h => by
  unfold cmpE4; rw [firstE, if_pos h]; unfold firstE firstE
  split
  · rename_i z; exact z.symm
  · rfl
 generalize cmpE4 a b = r at e1 e2 ⊢
 generalize entCmp a b = t at h1 e1 e2
 unfold encE at h1 ⊢
 have hc : ∀ (w' : World) (q : Nat) (os : Array Obj), w' = grow (((W.alloc (Obj.cells #[.int .i64 a.tm, .string ⟨a.desk.toArray⟩, .int .i64 a.no, .string ⟨a.words.toArray⟩] 48)).alloc (Obj.cells #[.int .i64 b.tm, .string ⟨b.desk.toArray⟩, .int .i64 b.no, .string ⟨b.words.toArray⟩] 48)).drewN q) os →
  w'.cell? ⟨W.heap.size, 3, none⟩ = some (.string ⟨a.words.toArray⟩) ∧ w'.cell? ⟨W.heap.size + 1, 3, none⟩ = some (.string ⟨b.words.toArray⟩) ∧ ∃ q' os', w' = grow (W.drewN q') os' := by
  intro w' q os hw
  obtain ⟨g1, g2, g3⟩ := grow2_at W _ _ q os
  rw [← hw] at g1 g2 g3
  exact ⟨by simp [World.cell?, g2], by simp [World.cell?, g3], q, _, g1⟩
 go_enter Tryz.func54, Tryz.ntmps54
 go_wp2_with (first | (go_at_call 9; refine (h1 _).mono ?_; rintro e w' ⟨rfl, q, os, hw⟩; obtain ⟨c1, c2, hg⟩ := hc _ _ _ hw; clear hw) | (go_at_call 31; refine (h2 _ _ _).mono ?_; rintro e w' ⟨rfl, rfl⟩))
 all_goals go_ret
 all_goals first
  | (rw [e1 (by simpa using ‹(t != 0) = true›)]; exact ⟨rfl, hg⟩)
  | (rw [e2 (by simpa using ‹(t != 0) = false›)]; exact ⟨rfl, hg⟩)
abbrev EE : Type := { x : Ent // entR x }
def ee0 : EE := ⟨en0, by simp [entR, en0]⟩
instance : Inhabited EE := ⟨ee0⟩
def encS (x : EE) : List Value := encE x.1
def fS (x : EE) : List DV := enF x.1
theorem encS_ok : EncOk 4 encS fS := ⟨by decide, fun _ => rfl, fun _ => rfl, fun a j x hx G u => by
 match j with
 | 0 => cases hx; exact ⟨fun h => by cases h; rfl, fun h => by cases h; exact .int _ _⟩
 | 1 => cases hx; exact ⟨fun h => by cases h; rfl, fun h => by cases h; exact .str _⟩
 | 2 => cases hx; exact ⟨fun h => by cases h; rfl, fun h => by cases h; exact .int _ _⟩
 | 3 => cases hx; exact ⟨fun h => by cases h; rfl, fun h => by cases h; exact .str _⟩
 | j + 4 => cases hx⟩
theorem eqS (L : List EE) : seqB 48 4 fS ee0 L = enB (L.map (·.1)) := by
 show Res.buf 48 4 L.length (rowF fS ee0 L) = Res.buf 48 4 (L.map (·.1)).length (rowF enF en0 (L.map (·.1)))
 rw [List.length_map]
 congr 1
 funext i
 unfold rowF fS
 congr 1
 rw [List.getD_eq_getElem?_getD, List.getD_eq_getElem?_getD, List.getElem?_map]
 cases L[i]? <;> rfl
open Go.Sort Go.RowKit Go.Lib in
theorem swoE : SWO (ltOf fun x y : EE => cmpE4 x.1 y.1) where
 irrefl x := by unfold ltOf; have := cmpE4_ord.sw x.1 x.1; simp; omega
 trans x y z h1 h2 := by unfold ltOf at *; simp at *; exact cmpE4_ord.tr _ _ _ h1 h2
 ntrans x y z h1 h2 := by
  unfold ltOf at *
  simp at *
  have := cmpE4_ord.sw y.1 x.1
  have := cmpE4_ord.sw z.1 y.1
  have := cmpE4_ord.sw z.1 x.1
  have := cmpE4_ord.le_tr (a := z.1) (b := y.1) (c := x.1) (by omega) (by omega)
  omega
open Go.Sort Go.RowKit Go.Lib in
theorem y53 (l : List Ent) (hl : l.length < 2^40) (hr : ∀ x ∈ l, entR x) : FSpec Tryz.prog 53 [.buf 1000001, .fn 54 []] [(1000001, enB l)] (fun y r => y = .tup [] ∧ r = [(1000001, enB (isort cmpE4 l))]) := by
 have e : Tryz.laysS_ren.f 6 = 53 := rfl
 have et : Tryz.laysS_ren.t 24 = 48 := rfl
 obtain ⟨L, hL⟩ : ∃ L : List EE, L.map (·.1) = l := ⟨l.attachWith entR hr, by simp⟩
 have hLl : L.length = l.length := by rw [← hL]; simp
 rw [← hL, ← eqS]
 cases L with
 | nil =>
   refine FSpec.mono (FSpec.sortK0 (fF := fS) (k := 4) ee0 (g := 54) (e := 48) Tryz.call53 fun p cap w => ?_) fun x r h => ⟨h.1, h.2⟩
   have := AnyF.slices_SortFunc_none Tryz.laysS p cap (.func (.func 54) #[] #[]) w
   rw [e] at this
   exact this
 | cons x L =>
   refine FSpec.mono (FSpec.sortK encS_ok ee0 (g := 54) (e := 48) (lt := ltOf fun x y : EE => cmpE4 x.1 y.1) Tryz.call53 (x :: L) (by simp) fun blk cap w hH hb => ?_) fun y r h => ?_
   · have := AnyQ.slices_SortFunc Tryz.laysS 4 (by rw [et]; exact Tryz.isAgg48) (by rw [et]; exact Tryz.sizeOf48) encS (fun _ => rfl) (fun x v hv => by simp [encS, encE] at hv; rcases hv with rfl | rfl | rfl | rfl <;> rfl) (fun x y => cmpE4 x.1 y.1) swoE 54 #[] blk 0 cap (x :: L).toArray w Tryz.call54 (fun _ _ _ _ x y => clOrd4 x.1 y.1 x.2 y.2 _) hH hb (by simp at hLl ⊢; omega)
     rw [e] at this
     simpa using this
   · obtain ⟨h1, m, hm, hs, hr⟩ := h
     refine ⟨h1, ?_⟩
     rw [hr, eqS]
     congr 3
     refine sort_uniq cmpE4_ord (fun a b => cmpE4_zero.1) (hm.map _) ?_
     rw [List.pairwise_map]
     refine hs.imp (fun {a b} q => ?_)
     unfold ltOf at q
     have := cmpE4_ord.sw a.1 b.1
     simp at q
     omega
def eoF (a b : List Ent) : Int := if firstAt (cnE (mrgEL a b)) (mrgEL a b).length ≠ 0 then 13 else if 1000 < (mrgEL a b).length then 2 else 0
set_option maxHeartbeats 2000000 in
theorem y19 (a b : List Ent) (ha : entOk a) (hb' : entOk b) (hn : a.length + b.length < 20) :
 FSpec Tryz.prog 19 [.d (ents a), .d (ents b)] [] (fun x r => x = .tup [.d (ents (if eoF a b = 0 then mrgEL a b else [])), .d (.int .i64 (eoF a b))] ∧ r = []) := by
 have hml := mrgEL_len a b
 have hfl : [a, b].flatten = a ++ b := by simp
 have h156 := sConcatE [a, b] (by simp) (by simp [lensE]; omega)
 rw [hfl] at h156
 have h62 := y53 (a ++ b) (by rw [List.length_append]; omega) (fun x hx => by
  rcases List.mem_append.1 hx with q | q
  · exact (ha.2 x q).2
  · exact (hb'.2 x q).2)
 have hil : (isort cmpE4 (a ++ b)).length = a.length + b.length := by unfold isort; rw [List.length_reverse, isortR_length, List.length_append]
 have h160 := en151 (isort cmpE4 (a ++ b)) (by omega)
 rw [show cptE (isort cmpE4 (a ++ b)) (isort cmpE4 (a ++ b)).length = mrgEL a b from rfl] at h160
 refine spec_of hT (C := []) Tryz.func19 rfl Tryz.call19 rfl rfl rfl ?_
 conv => whnf
 refine CallX.of h156 [(6, 24)] rfl ⟨SV.le_lit (l := [a, b]) rfl rfl, trivial⟩ trivial rfl rfl ?_
 rintro x rout ⟨rfl, rfl⟩
 refine ⟨rfl, ?_⟩
 conv => whnf
 repeat' (first | (refine br_intro ?_ ?_ <;> intro hb <;> (try simp only [brs] at hb) <;> conv => whnf) | omega | (refine And.intro ?_ ?_; ((try dsimp only); first | omega | (refine szA rfl ?_; omega) | (refine szB rfl ?_; omega) | (unfold inI64; omega) | exact rfl | (simp only [List.toList_toArray, List.length_cons, List.length_nil]; omega) | (simp only [lns] at *; omega) | decide | (unfold inI64; decide)); conv => whnf) | decide | assumption)
 refine CallX.of h62 [(1000001, 24)] rfl ⟨lr, lr, trivial⟩ ⟨rr, trivial⟩ rfl rfl ?_
 rintro x rout ⟨rfl, rfl⟩
 refine ⟨rfl, ?_⟩
 conv => whnf
 repeat' (first | (refine br_intro ?_ ?_ <;> intro hb <;> (try simp only [brs] at hb) <;> conv => whnf) | omega | (refine And.intro ?_ ?_; ((try dsimp only); first | omega | (refine szA rfl ?_; omega) | (refine szB rfl ?_; omega) | (unfold inI64; omega) | exact rfl | (simp only [List.toList_toArray, List.length_cons, List.length_nil]; omega) | (simp only [lns] at *; omega) | decide | (unfold inI64; decide)); conv => whnf) | decide | assumption)
 refine CallX.of h160 [(1000001, 24), (59, 100)] rfl ⟨lr, trivial⟩ ⟨rr, trivial⟩ rfl rfl ?_
 rintro x rout ⟨d, hd, rfl, rfl⟩
 obtain ⟨M, hM⟩ : ∃ M, M = mrgEL a b := ⟨_, rfl⟩
 unfold eoF
 rw [← hM] at hml ⊢
 rcases hd with rfl | rfl
 · refine ⟨rfl, ?_⟩
   conv => whnf
   repeat' (first | (refine br_intro ?_ ?_ <;> intro hb <;> (try simp only [brs] at hb) <;> conv => whnf) | omega | (refine And.intro ?_ ?_; ((try dsimp only); first | omega | (refine szA rfl ?_; omega) | (refine szB rfl ?_; omega) | (unfold inI64; omega) | exact rfl | (simp only [List.toList_toArray, List.length_cons, List.length_nil]; omega) | (simp only [lns] at *; omega) | decide | (unfold inI64; decide)); conv => whnf) | decide | assumption)
   refine LoopX.freeze 24 48 4 _ _ rfl ?_
   refine LoopX.rule hT (C := []) (ι := Nat) (fun i => i ≤ M.length ∧ ∀ j, j < i → cnE M j = 0) (fun i => mkSt [(6, .buf 24), (17, .buf 24), (18, .d (.int .i64 M.length)), (19, .d (.int .i64 i))] [(24, .fro 4 M.length (rowF enF en0 M))]) (fun i => M.length - i) 0 ⟨by omega, by omega⟩ (by (refine Entails.mk' [(24, 24)] rfl rfl ?_ ?_ <;> repeat' (first | exact True.intro | exact lr | exact rr | exact SV.le_int (by omega) | exact SV.le_any _ | refine And.intro ?_ ?_)); done) ?_
   rintro i ⟨p1, p2⟩
   have e1 : (i : Int).toNat = i := Int.toNat_natCast i
   have hD := y78 (M.take (i : Int).toNat) (by rw [List.length_take]; omega) (M.getD (i : Int).toNat en0)
   conv => whnf
   repeat' (first | (refine CallX.of hD [(1000001, 8)] rfl ⟨le_takeE (by omega), lr, trivial⟩ ⟨rr, trivial⟩ rfl rfl ?_; rintro v rout ⟨rfl, rfl⟩; refine ⟨rfl, ?_⟩; conv => whnf) | (refine br_intro ?_ ?_ <;> intro hb <;> (try simp only [brs] at hb) <;> conv => whnf) | omega | (refine And.intro ?_ ?_; ((try dsimp only); first | omega | (refine szA rfl ?_; omega) | (refine szB rfl ?_; omega) | (unfold inI64; omega) | exact rfl | (simp only [List.toList_toArray, List.length_cons, List.length_nil]; omega) | (simp only [lns] at *; omega) | decide | (unfold inI64; decide)); conv => whnf) | decide | assumption)
   · have hf : firstAt (cnE M) M.length = 13 := firstAt_eq (i := i) (by omega) p2 (by decide) (by unfold cnE; rw [if_pos hb])
     rw [hf]
     refine .weak _ ?_
     conv => whnf
     exact ⟨.tup [.d (ents []), .d (.int .i64 13)], [], SV.le_tup ⟨SV.le_nilS, lr, trivial⟩, ⟨rfl, rfl⟩, trivial⟩
   · exact ⟨i + 1, ⟨by omega, first_step p2 (by unfold cnE; rw [if_neg (by rw [hb]; simp)])⟩, by omega, (by (refine Entails.mk' [(24, 24)] rfl rfl ?_ ?_ <;> repeat' (first | exact True.intro | exact lr | exact rr | exact SV.le_int (by omega) | exact SV.le_any _ | refine And.intro ?_ ?_)); done)⟩
   · have hf : firstAt (cnE M) M.length = 0 := firstAt_zero (fun j hj => p2 j (by omega))
     have hv : (if firstAt (cnE M) M.length ≠ 0 then (13 : Int) else if 1000 < M.length then 2 else 0) = 0 := by rw [hf, if_neg (by simp), if_neg (by omega)]
     rw [hv, if_pos rfl]
     refine .ret _ ?_
     conv => whnf
     refine ⟨[], ⟨congrArg SV.tup ?_, rfl⟩, trivial⟩
     repeat' (refine cons_eq ?_ ?_)
     all_goals (conv => lhs; whnf)
     all_goals try (with_reducible rfl)
 · refine ⟨rfl, ?_⟩
   conv => whnf
   repeat' (first | (refine br_intro ?_ ?_ <;> intro hb <;> (try simp only [brs] at hb) <;> conv => whnf) | omega | (refine And.intro ?_ ?_; ((try dsimp only); first | omega | (refine szA rfl ?_; omega) | (refine szB rfl ?_; omega) | (unfold inI64; omega) | exact rfl | (simp only [List.toList_toArray, List.length_cons, List.length_nil]; omega) | (simp only [lns] at *; omega) | decide | (unfold inI64; decide)); conv => whnf) | decide | assumption)
   refine LoopX.freeze 100 48 4 _ _ rfl ?_
   refine LoopX.rule hT (C := []) (ι := Nat) (fun i => i ≤ M.length ∧ ∀ j, j < i → cnE M j = 0) (fun i => mkSt [(6, .buf 100), (17, .buf 100), (18, .d (.int .i64 M.length)), (19, .d (.int .i64 i))] [(100, .fro 4 M.length (rowF enF en0 M))]) (fun i => M.length - i) 0 ⟨by omega, by omega⟩ (by (refine Entails.mk' [(100, 100)] rfl rfl ?_ ?_ <;> repeat' (first | exact True.intro | exact lr | exact rr | exact SV.le_int (by omega) | exact SV.le_any _ | refine And.intro ?_ ?_)); done) ?_
   rintro i ⟨p1, p2⟩
   have e1 : (i : Int).toNat = i := Int.toNat_natCast i
   have hD := y78 (M.take (i : Int).toNat) (by rw [List.length_take]; omega) (M.getD (i : Int).toNat en0)
   conv => whnf
   repeat' (first | (refine CallX.of hD [(1000001, 8)] rfl ⟨le_takeE (by omega), lr, trivial⟩ ⟨rr, trivial⟩ rfl rfl ?_; rintro v rout ⟨rfl, rfl⟩; refine ⟨rfl, ?_⟩; conv => whnf) | (refine br_intro ?_ ?_ <;> intro hb <;> (try simp only [brs] at hb) <;> conv => whnf) | omega | (refine And.intro ?_ ?_; ((try dsimp only); first | omega | (refine szA rfl ?_; omega) | (refine szB rfl ?_; omega) | (unfold inI64; omega) | exact rfl | (simp only [List.toList_toArray, List.length_cons, List.length_nil]; omega) | (simp only [lns] at *; omega) | decide | (unfold inI64; decide)); conv => whnf) | decide | assumption)
   · have hf : firstAt (cnE M) M.length = 13 := firstAt_eq (i := i) (by omega) p2 (by decide) (by unfold cnE; rw [if_pos hb])
     rw [hf]
     refine .weak _ ?_
     conv => whnf
     exact ⟨.tup [.d (ents []), .d (.int .i64 13)], [], SV.le_tup ⟨SV.le_nilS, lr, trivial⟩, ⟨rfl, rfl⟩, trivial⟩
   · exact ⟨i + 1, ⟨by omega, first_step p2 (by unfold cnE; rw [if_neg (by rw [hb]; simp)])⟩, by omega, (by (refine Entails.mk' [(100, 100)] rfl rfl ?_ ?_ <;> repeat' (first | exact True.intro | exact lr | exact rr | exact SV.le_int (by omega) | exact SV.le_any _ | refine And.intro ?_ ?_)); done)⟩
   · have hf : firstAt (cnE M) M.length = 0 := firstAt_zero (fun j hj => p2 j (by omega))
     have hv : (if firstAt (cnE M) M.length ≠ 0 then (13 : Int) else if 1000 < M.length then 2 else 0) = 0 := by rw [hf, if_neg (by simp), if_neg (by omega)]
     rw [hv, if_pos rfl]
     refine .ret _ ?_
     conv => whnf
     refine ⟨[], ⟨congrArg SV.tup ?_, rfl⟩, trivial⟩
     repeat' (refine cons_eq ?_ ?_)
     all_goals (conv => lhs; whnf)
     all_goals try (with_reducible rfl)
structure Plt where
 frm : Int
 veh : List UInt8
 plt : List UInt8
deriving DecidableEq
structure Hld where
 veh : List UInt8
 frm : Int
 til : Int
def clashP (o p : Plt) : Bool := decide (o.veh = p.veh) || decide (o.plt = p.plt)
def livStep (acc : List Plt) (x : Plt) : List Plt := acc.filter (fun e => !clashP e x) ++ [x]
def liv (l : List Plt) : List Plt := l.foldl livStep []
def early (l : List Plt) (t : Int) : List Plt := l.filter fun p => decide (p.frm ≤ t)
def findP (L : List Plt) (p : List UInt8) : Option Plt := L.find? fun e => decide (e.plt = p)
structure HS where
 live : List Plt
 out : List UInt8 → List Hld
def hdrop (s : HS) (p : List UInt8) (t : Int) : HS :=
 match findP s.live p with
 | none => s
 | some e => ⟨s.live.filter fun e => !decide (e.plt = p), fun q => if q = p ∧ e.frm < t then s.out q ++ [⟨e.veh, e.frm, t⟩] else s.out q⟩
def findV (L : List Plt) (v : List UInt8) : Option Plt := L.find? fun e => decide (e.veh = v)
def hmid (s : HS) (x : Plt) : HS := match findV s.live x.veh with | none => s | some e => hdrop s e.plt x.frm
def hstep (s : HS) (x : Plt) : HS := ⟨(hdrop (hmid s x) x.plt x.frm).live ++ [x], (hdrop (hmid s x) x.plt x.frm).out⟩
def hs0 : HS := ⟨[], fun _ => []⟩
def hall (l : List Plt) : HS := l.foldl hstep hs0
def inH (t : Int) (h : Hld) : Bool := decide (h.frm ≤ t) && decide (t < h.til)
def findH (o : List Hld) (t : Int) : Option (List UInt8) := (o.find? (inH t)).map (·.veh)
def expH (l live : List Plt) (p : List UInt8) (t : Int) : Option (List UInt8) :=
 match findP (liv (early l t)) p with
 | some e => if e ∈ live then none else some e.veh
 | none => none
structure HInv (T : Int) (l : List Plt) (s : HS) : Prop where
 eq : ∀ p t, t < T → findH (s.out p) t = expH l s.live p t
 til : ∀ p h, h ∈ s.out p → h.til ≤ T
 sub : ∀ e ∈ s.live, e ∈ liv l
 apart : s.live.Pairwise (fun p q => clashP p q = false)
structure Rdg where
 tm : Int
 st : List UInt8
 meter : Int
 fuel : Int
structure Leg where
 veh : List UInt8
 out : Rdg
 inn : Rdg
def lgF : Leg → List DV := fun x => [.str x.veh, .int .i64 x.out.tm, .str x.out.st, .int .i64 x.out.meter, .int .i64 x.out.fuel, .int .i64 x.inn.tm, .str x.inn.st, .int .i64 x.inn.meter, .int .i64 x.inn.fuel]
def rg0 : Rdg := ⟨0, [], 0, 0⟩
def lg0 : Leg := ⟨[], rg0, rg0⟩
abbrev legs (l : List Leg) : DV := seqD 9 lgF lg0 l
structure Hir where
 key : List UInt8
 drv : List UInt8
 frm : Int
 to : Int
 legs : List Leg
theorem pkD {l : List Int} {x : Int} (h : x ∈ l) (hl : (l.all fun y => decide (0 ≤ y) && decide (y ≤ 3000)) = true) : 0 ≤ x ∧ x ≤ 3000 := by
 have := List.all_eq_true.1 hl x h
 simpa using this
def oUFlA60_4 : List (Nat × List Nat) := [(0, []), (1, [0]), (2, [0, 1]), (3, [0, 1, 2]), (4, [0, 1, 2]), (5, [0, 1, 2]), (6, [0, 1, 2]), (7, [0, 1, 2, 3, 4, 5, 6]), (8, [0, 1, 2, 3, 4, 5, 6]), (9, [0, 1, 2, 3, 4, 5, 6]), (10, [0, 1, 2, 3, 4, 5, 6]), (11, [0, 1, 2]), (13, [0, 1, 2, 3, 4, 5, 6, 7, 8, 9, 10, 11]), (14, [0, 1, 2, 3, 4, 5, 6, 7, 8, 9, 10, 11, 13]), (15, [0, 1, 2, 3, 4, 5, 6, 7, 8, 9, 10, 11, 13]), (16, [0, 1, 2, 3, 4, 5, 6, 7, 8, 9, 10, 11, 13]), (17, [0, 1, 2, 3, 4, 5, 6, 7, 8, 9, 10, 11, 13]), (18, [0, 1, 2, 3, 4, 5, 6, 7, 8, 9, 10, 11, 13, 14, 15, 16, 17]), (19, [0, 1, 2, 3, 4, 5, 6, 7, 8, 9, 10, 11, 13, 14, 15, 16, 17]), (20, [0, 1, 2, 3, 4, 5, 6, 7, 8, 9, 10, 11, 13, 14, 15, 16, 17]), (21, [0, 1, 2, 3, 4, 5, 6, 7, 8, 9, 10, 11, 13, 14, 15, 16, 17]), (22, [0, 1, 2, 3, 4, 5, 6, 7, 8, 9, 10, 11, 13]), (12, [0, 1, 13, 14, 15, 16, 17, 18, 19, 20, 21, 22]), (23, [0, 1]), (24, [1]), (25, [1]), (26, [1]), (27, []), (28, []), (29, [])]
structure Cls where
 key : List UInt8
 up : List UInt8
structure Veh where
 key : List UInt8
 cls : List UInt8
structure Sta where
 key : List UInt8
 h : Nat → Int
def clsF : Cls → List DV := fun c => [.str c.key, .str c.up]
def cls0 : Cls := ⟨[], []⟩
abbrev clss (l : List Cls) : DV := seqD 2 clsF cls0 l
def vehF : Veh → List DV := fun c => [.str c.key, .str c.cls]
def veh0 : Veh := ⟨[], []⟩
abbrev vehs (l : List Veh) : DV := seqD 2 vehF veh0 l
def pltF : Plt → List DV := fun p => [.int .i64 p.frm, .str p.veh, .str p.plt]
def plt0 : Plt := ⟨0, [], []⟩
abbrev plts (l : List Plt) : DV := seqD 3 pltF plt0 l
def staF : Sta → List DV := fun s => [.str s.key, .int .i64 (s.h 0), .int .i64 (s.h 1), .int .i64 (s.h 2), .int .i64 (s.h 3), .int .i64 (s.h 4), .int .i64 (s.h 5), .int .i64 (s.h 6), .int .i64 (s.h 7), .int .i64 (s.h 8), .int .i64 (s.h 9), .int .i64 (s.h 10), .int .i64 (s.h 11), .int .i64 (s.h 12), .int .i64 (s.h 13)]
def sta0 : Sta := ⟨[], fun _ => 0⟩
abbrev stas (l : List Sta) : DV := seqD 15 staF sta0 l
def clsK (c : Cls) : Prop := c.key.length ≤ 8 ∧ c.up.length ≤ 8
def vehK (c : Veh) : Prop := c.key.length ≤ 8 ∧ c.cls.length ≤ 8
def pltK (c : Plt) : Prop := (-2^40 ≤ c.frm ∧ c.frm ≤ 2^40) ∧ c.veh.length ≤ 8 ∧ c.plt.length ≤ 16
def staK (c : Sta) : Prop := c.key.length ≤ 8
def cls4 : List Cls := [⟨[98, 105, 103], []⟩, ⟨[109, 97, 120, 105], []⟩, ⟨[109, 105, 100, 105], []⟩, ⟨[109, 105, 110, 105], []⟩]
theorem mem_len16 {l : List (List UInt8)} {u : List UInt8} (h : u ∈ l) (q : l.all (fun x => decide (x.length ≤ 16)) = true) : u.length ≤ 16 := by
 have := List.all_eq_true.1 q u h; simpa using this
theorem sClss (n : Nat) (L : Nat → Int) (hL : Rok n L) (a : Int) (h0 : 0 ≤ a) (ha : a ≤ 2^38) :
 FSpec Tryz.prog 56 [.ptr 1000000 0] [(1000000, strm n L a)] (fun y r => ∃ l : List Cls, ∃ b, (l.length = 4 ∧ ∀ x ∈ l, clsK x) ∧ (a ≤ b ∧ b ≤ a + 8) ∧ y = .buf 9 ∧ r = [(9, seqB 123 2 clsF cls0 l), (1000000, strm n L b)]) := by
 refine spec_of hT (C := [9]) Tryz.func56 rfl Tryz.call56 rfl rfl rfl ?_
 conv => whnf
 refine LoopX.rule hT (C := []) (ι := Int × List Cls × Nat) (fun (b, l, i) => (a ≤ b ∧ b ≤ a + 2 * i) ∧ i ≤ 4 ∧ l.length = 4 ∧ ∀ x ∈ l, clsK x)
  (fun (b, l, i) => mkSt [(0, .ptr 1000000 0), (3, .buf 9), (11, .d (.int .i64 4)), (12, .d (.int .i64 i))] [(1000000, strm n L b), (9, seqB 123 2 clsF cls0 l)])
  (fun (_, _, i) => 4 - i) (a, cls4, 0) ⟨⟨by simp, by simp⟩, by simp, rfl, by intro x hx; simp only [cls4, List.mem_cons, List.not_mem_nil, or_false] at hx; rcases hx with rfl | rfl | rfl | rfl <;> exact ⟨by decide, by decide⟩⟩ ?_ ?_
 · exact Entails.mk' [(1000000, 1000000), (9, 9)] rfl rfl ⟨lr, lr, lr, lr, trivial⟩ ⟨rr, Res.le_lit rfl rfl, trivial⟩
 rintro ⟨b, l, i⟩ ⟨⟨p1, p2⟩, p3, p4, p5⟩
 have p1 : a ≤ b := p1
 have p2 : b ≤ a + 2 * i := p2
 have p3 : i ≤ 4 := p3
 have p4 : l.length = 4 := p4
 have e1 : (i : Int).toNat = i := Int.toNat_natCast i
 conv => whnf
 repeat' (first | (refine CallX.of (s84 n L hL _ ?_ ?_ 3 ?_) [(1000000, 1000000)] rfl ⟨lr, lr, trivial⟩ ⟨rr, trivial⟩ rfl rfl ?_; rotate_right; rintro x rout ⟨⟨w, rfl⟩, ⟨c, c1, c2, rfl⟩⟩; refine ⟨rfl, ?_⟩; conv => whnf) | (refine CallX.of (s86 n L hL _ ?_ ?_ _ ?_) [(1000000, 1000000)] rfl ⟨lr, lr, trivial⟩ ⟨rr, trivial⟩ rfl rfl ?_; rotate_right; rintro x rout ⟨⟨j, hj1, hj2, hj3, rfl⟩, ⟨c, c1, c2, rfl⟩⟩; refine ⟨rfl, ?_⟩; conv => whnf) | (refine br_intro ?_ ?_ <;> intro hb <;> (try simp only [brs] at hb) <;> conv => whnf) | omega | (refine And.intro ?_ ?_; ((try dsimp only); first | omega | (refine szA rfl ?_; omega) | (refine szB rfl ?_; omega) | (unfold inI64; omega) | exact rfl | (simp only [List.toList_toArray, List.length_cons, List.length_nil]; omega) | (simp only [lns] at *; omega) | decide | (unfold inI64; decide)); conv => whnf) | decide | assumption)
 · have p5 : ∀ x ∈ l, clsK x := p5
   have hu : clsK (l.getD j.toNat cls0) := p5 _ (getD_mem (by omega))
   refine ⟨(c + 1, updL l i cls0 (fun y => { y with up := (l.getD j.toNat cls0).key }), i + 1), ⟨⟨by omega, by show _ ≤ a + 2 * ((i + 1 : Nat) : Int); omega⟩, by omega, by simpa using p4, (allK_upd (g := fun y : Cls => { y with up := (l.getD j.toNat cls0).key }) (k := 4) ⟨by omega, p5⟩ (fun y hy => ⟨hy.1, hu.1⟩)).2⟩, by show 4 - (i + 1) < 4 - i; omega,
    Entails.mk' [(1000000, 1000000), (9, 9)] rfl rfl ⟨lr, lr, lr, lr, trivial⟩ ⟨rr, ?_, trivial⟩⟩
   exact Res.le_upd (fun y : Cls => { y with up := (l.getD j.toNat cls0).key }) (fun _ => rfl)
 · exact ⟨(c, l, i + 1), ⟨⟨by omega, by show _ ≤ a + 2 * ((i + 1 : Nat) : Int); omega⟩, by omega, p4, p5⟩, by show 4 - (i + 1) < 4 - i; omega, (by (refine Entails.mk' [(1000000, 1000000), (9, 9)] rfl rfl ?_ ?_ <;> repeat' (first | exact True.intro | exact lr | exact rr | exact SV.le_int (by omega) | exact SV.le_any _ | refine And.intro ?_ ?_)); done)⟩
 · exact ⟨(b, l, i + 1), ⟨⟨p1, by show _ ≤ a + 2 * ((i + 1 : Nat) : Int); omega⟩, by omega, p4, p5⟩, by show 4 - (i + 1) < 4 - i; omega, (by (refine Entails.mk' [(1000000, 1000000), (9, 9)] rfl rfl ?_ ?_ <;> repeat' (first | exact True.intro | exact lr | exact rr | exact SV.le_int (by omega) | exact SV.le_any _ | refine And.intro ?_ ?_)); done)⟩
 · refine .ret _ ?_
   conv => whnf
   exact ⟨[(9, seqB 123 2 clsF cls0 l), (1000000, strm n L _)], ⟨l, b, ⟨p4, p5⟩, ⟨by omega, by omega⟩, rfl, rfl⟩, rr, rr, trivial⟩
def clsB (l : List Cls) : Prop := l.length ≤ 4 ∧ ∀ x ∈ l, clsK x
theorem sAnyCls (n : Nat) (L : Nat → Int) (hL : Rok n L) (a : Int) (h0 : 0 ≤ a) (ha : a ≤ 2^37) :
 FSpec Tryz.prog 60 [.ptr 1000000 0] [(1000000, strm n L a)] (fun y r => (∃ l : List Cls, clsB l ∧ y = .d (clss l)) ∧ Moved n L a 20 r) := by
 refine spec_of hT (C := []) Tryz.func60 rfl Tryz.call60 rfl rfl rfl ?_
 conv => whnf
 refine CallX.of (sClss n L hL _ ?_ ?_) [(1000000, 1000000), (9, 6)] rfl ⟨lr, trivial⟩ ⟨rr, trivial⟩ rfl rfl ?_
 rotate_right
 rintro x rout ⟨l, b, ⟨p4, p5⟩, ⟨p1, p2⟩, rfl, rfl⟩
 refine ⟨rfl, ?_⟩
 conv => whnf
 repeat' (first | (refine CallX.of (s84 n L hL _ ?_ ?_ 10 ?_) [(1000000, 1000000)] rfl ⟨lr, lr, trivial⟩ ⟨rr, trivial⟩ rfl rfl ?_; rotate_right; rintro x rout ⟨⟨w, rfl⟩, ⟨c, c1, c2, rfl⟩⟩; refine ⟨rfl, ?_⟩; conv => whnf) | (refine CallX.of (s86 n L hL _ ?_ ?_ _ ?_) [(1000000, 1000000)] rfl ⟨lr, lr, trivial⟩ ⟨rr, trivial⟩ rfl rfl ?_; rotate_right; rintro x rout ⟨⟨j, hj1, hj2, hj3, rfl⟩, ⟨c, c1, c2, rfl⟩⟩; refine ⟨rfl, ?_⟩; conv => whnf) | (refine CallX.of (s15 n L hL _ ?_ ?_ [(l.getD j.toNat cls0).key, (l.getD j.toNat cls0).key, [], [65], [122, 101, 100]] (by simp) (by simp)) [(1000000, 1000000)] rfl ⟨lr, SV.le_lit rfl rfl, trivial⟩ ⟨rr, trivial⟩ rfl rfl ?_; rotate_right; rintro x rout ⟨⟨u1, hu1, rfl⟩, ⟨c, c1, c2, rfl⟩⟩; refine ⟨rfl, ?_⟩; conv => whnf) | (refine CallX.of (s15 n L hL _ ?_ ?_ [(l.getD j.toNat cls0).up, [109, 105, 110, 105], [110, 111, 110, 101], [65], (l.getD j.toNat cls0).key] (by simp) (by simp)) [(1000000, 1000000)] rfl ⟨lr, SV.le_lit rfl rfl, trivial⟩ ⟨rr, trivial⟩ rfl rfl ?_; rotate_right; rintro x rout ⟨⟨u2, hu2, rfl⟩, ⟨c, c1, c2, rfl⟩⟩; refine ⟨rfl, ?_⟩; conv => whnf) | (refine br_intro ?_ ?_ <;> intro hb <;> (try simp only [brs] at hb) <;> conv => whnf) | (refine RegX.rule (id := 4) hT rfl [] oUFlA60_4 (by decide +kernel) ?_; conv => whnf) | omega | (refine And.intro ?_ ?_; ((try dsimp only); first | omega | (refine szA rfl ?_; omega) | (refine szB rfl ?_; omega) | (unfold inI64; omega) | exact rfl | (simp only [List.toList_toArray, List.length_cons, List.length_nil]; omega) | (simp only [lns] at *; omega) | decide | (unfold inI64; decide)); conv => whnf) | decide | assumption)
 · have hc : clsK (l.getD j.toNat cls0) := p5 _ (getD_mem (by omega))
   have hw1 : u1.length ≤ 8 := by simp only [List.mem_cons, List.not_mem_nil, or_false] at hu1; rcases hu1 with rfl | rfl | rfl | rfl | rfl <;> first | exact hc.1 | decide
   have hw2 : u2.length ≤ 8 := by simp only [List.mem_cons, List.not_mem_nil, or_false] at hu2; rcases hu2 with rfl | rfl | rfl | rfl | rfl <;> first | exact hc.1 | exact hc.2 | decide
   refine .freeze _ 6 123 2 _ _ rfl (.weak _ ?_)
   conv => whnf
   exact ⟨.d (clss (updL (updL l j.toNat cls0 fun y => { y with key := u1 }) j.toNat cls0 fun y => { y with up := u2 })), [(1000000, strm n L _)], SV.le_upd2 (f := clsF) (d := cls0) (fun y : Cls => { y with key := u1 }) (fun y => { y with up := u2 }) (fun _ => rfl) (fun _ => rfl),
    ⟨⟨_, ⟨by simp only [List.length_set]; omega, (allK_upd (g := fun y : Cls => { y with up := u2 }) (allK_upd (g := fun y : Cls => { y with key := u1 }) (k := 4) ⟨by omega, p5⟩ (fun y hy => ⟨hw1, hy.2⟩)) (fun y hy => ⟨hy.1, hw2⟩)).2⟩, rfl⟩, _, by omega, by omega, rfl⟩, rr, trivial⟩
 · refine .freeze _ 6 123 2 _ _ rfl (.weak _ ?_)
   conv => whnf
   exact ⟨_, [(1000000, strm n L _)], lr, ⟨⟨l, ⟨by omega, p5⟩, rfl⟩, _, by omega, by omega, rfl⟩, rr, trivial⟩
theorem sClsKey (n : Nat) (L : Nat → Int) (hL : Rok n L) (a : Int) (h0 : 0 ≤ a) (ha : a ≤ 2^37) :
 FSpec Tryz.prog 61 [.ptr 1000000 0] [(1000000, strm n L a)] (fun y r => (∃ u : List UInt8, u.length ≤ 8 ∧ y = .d (.str u)) ∧ Moved n L a 20 r) := by
 refine spec_of hT (C := []) Tryz.func61 rfl Tryz.call61 rfl rfl rfl ?_
 conv => whnf
 repeat' (first | (refine CallX.of (s15 n L hL _ ?_ ?_ [[109, 105, 110, 105], [109, 105, 110, 105], [109, 105, 100, 105], [109, 97, 120, 105], [98, 105, 103], [109, 105, 110, 105], [110, 111, 110, 101], [], [65]] (by simp) (by simp)) [(1000000, 1000000)] rfl ⟨lr, SV.le_lit rfl rfl, trivial⟩ ⟨rr, trivial⟩ rfl rfl ?_; rotate_right; rintro x rout ⟨⟨u2, hu2, rfl⟩, ⟨c, c1, c2, rfl⟩⟩; have hw2 := mem_len hu2 rfl; refine ⟨rfl, ?_⟩; conv => whnf) | (refine br_intro ?_ ?_ <;> intro hb <;> (try simp only [brs] at hb) <;> conv => whnf) | omega | (refine And.intro ?_ ?_; ((try dsimp only); first | omega | (refine szA rfl ?_; omega) | (refine szB rfl ?_; omega) | (unfold inI64; omega) | exact rfl | (simp only [List.toList_toArray, List.length_cons, List.length_nil]; omega) | (simp only [lns] at *; omega) | decide | (unfold inI64; decide)); conv => whnf) | decide | assumption)
 refine .ret _ ?_
 conv => whnf
 exact ⟨[(1000000, strm n L _)], ⟨⟨u2, hw2, rfl⟩, _, by omega, by omega, rfl⟩, rr, trivial⟩
def kyC (key : List UInt8) : Res := .cells 9 [.d (.str key)]
def clIx (l : List Cls) (key : List UInt8) : Int := ixF (fun i => (l.getD i cls0).key == key) l.length
def veIx (l : List Veh) (key : List UInt8) : Int := ixF (fun i => (l.getD i veh0).key == key) l.length
theorem z156 (x : Cls) (key : List UInt8) : FSpec Tryz.prog 124 [.agg ((clsF x).map .d), .ptr 1000001 0] [(1000001, kyC key)] (fun y r => y = .d (.bool (x.key == key)) ∧ r = [(1000001, kyC key)]) := by
 refine spec_of hT (C := []) Tryz.func124 rfl Tryz.call124 rfl rfl rfl ?_
 conv => whnf
 refine .ret _ ?_
 conv => whnf
 exact ⟨[(1000001, kyC key)], ⟨rfl, rfl⟩, rr, trivial⟩
theorem z242 (x : Cls) (key : List UInt8) : FSpec Tryz.prog 118 [.agg ((clsF x).map .d), .ptr 1000001 0] [(1000001, kyC key)] (fun y r => y = .d (.bool (x.key == key)) ∧ r = [(1000001, kyC key)]) := by
 refine spec_of hT (C := []) Tryz.func118 rfl Tryz.call118 rfl rfl rfl ?_
 conv => whnf
 refine .ret _ ?_
 conv => whnf
 exact ⟨[(1000001, kyC key)], ⟨rfl, rfl⟩, rr, trivial⟩
theorem z158 (x : Veh) (key : List UInt8) : FSpec Tryz.prog 126 [.agg ((vehF x).map .d), .ptr 1000001 0] [(1000001, kyC key)] (fun y r => y = .d (.bool (x.key == key)) ∧ r = [(1000001, kyC key)]) := by
 refine spec_of hT (C := []) Tryz.func126 rfl Tryz.call126 rfl rfl rfl ?_
 conv => whnf
 refine .ret _ ?_
 conv => whnf
 exact ⟨[(1000001, kyC key)], ⟨rfl, rfl⟩, rr, trivial⟩
theorem z155a (l : List Cls) (hl : l.length ≤ 2^40) (key : List UInt8) : FSpec Tryz.prog 117 [.d (clss l), .fn 124 [.ptr 1000001 0]] [(1000001, kyC key)] (fun x r => x = .d (.int .i64 (clIx l key)) ∧ r = [(1000001, kyC key)]) := by
 refine spec_of hT (C := []) Tryz.func117 rfl Tryz.call117 rfl rfl rfl ?_
 conv => whnf
 refine LoopX.rule hT (C := []) (ι := Nat) (fun i => i ≤ l.length ∧ ∀ j, j < i → ((l.getD j cls0).key == key) = false) (fun i => mkSt [(0, .d (clss l)), (1, .fn 124 [.ptr 1000001 0]), (7, .d (.int .i64 l.length)), (8, .d (.int .i64 i))] [(1000001, kyC key)]) (fun i => l.length - i) 0 ⟨by omega, by omega⟩ (by (refine Entails.mk' [(1000001, 1000001)] rfl rfl ?_ ?_ <;> repeat' (first | exact True.intro | exact lr | exact rr | exact SV.le_int (by omega) | exact SV.le_any _ | refine And.intro ?_ ?_)); done) ?_
 rintro i ⟨p1, p2⟩
 have e1 : (i : Int).toNat = i := Int.toNat_natCast i
 conv => whnf
 repeat' (first | (refine CallX.of (z156 (l.getD (i : Int).toNat cls0) key) [(1000001, 1000001)] rfl ⟨lr, lr, trivial⟩ ⟨rr, trivial⟩ rfl rfl ?_; rintro x rout ⟨rfl, rfl⟩; refine ⟨rfl, ?_⟩; conv => whnf) | (refine br_intro ?_ ?_ <;> intro hb <;> (try simp only [brs] at hb) <;> conv => whnf) | omega | (refine And.intro ?_ ?_; ((try dsimp only); first | omega | (refine szA rfl ?_; omega) | (refine szB rfl ?_; omega) | (unfold inI64; omega) | exact rfl | (simp only [List.toList_toArray, List.length_cons, List.length_nil]; omega) | (simp only [lns] at *; omega) | decide | (unfold inI64; decide)); conv => whnf) | decide | assumption)
 · refine .ret _ ?_
   conv => whnf
   refine ⟨[(1000001, kyC key)], ⟨?_, rfl⟩, rr, trivial⟩
   conv => lhs; whnf
   congr 2
   exact (ixF_hit (by omega) p2 (by simpa using hb)).symm
 · exact ⟨i + 1, ⟨by omega, all_step p2 (by simpa using hb)⟩, by omega, (by (refine Entails.mk' [(1000001, 1000001)] rfl rfl ?_ ?_ <;> repeat' (first | exact True.intro | exact lr | exact rr | exact SV.le_int (by omega) | exact SV.le_any _ | refine And.intro ?_ ?_)); done)⟩
 · refine .ret _ ?_
   conv => whnf
   refine ⟨[(1000001, kyC key)], ⟨?_, rfl⟩, rr, trivial⟩
   conv => lhs; whnf
   congr 2
   have : i = l.length := by omega
   subst this
   exact (ixF_none p2).symm
theorem z155b (l : List Cls) (hl : l.length ≤ 2^40) (key : List UInt8) : FSpec Tryz.prog 117 [.d (clss l), .fn 118 [.ptr 1000001 0]] [(1000001, kyC key)] (fun x r => x = .d (.int .i64 (clIx l key)) ∧ r = [(1000001, kyC key)]) := by
 refine spec_of hT (C := []) Tryz.func117 rfl Tryz.call117 rfl rfl rfl ?_
 conv => whnf
 refine LoopX.rule hT (C := []) (ι := Nat) (fun i => i ≤ l.length ∧ ∀ j, j < i → ((l.getD j cls0).key == key) = false) (fun i => mkSt [(0, .d (clss l)), (1, .fn 118 [.ptr 1000001 0]), (7, .d (.int .i64 l.length)), (8, .d (.int .i64 i))] [(1000001, kyC key)]) (fun i => l.length - i) 0 ⟨by omega, by omega⟩ (by (refine Entails.mk' [(1000001, 1000001)] rfl rfl ?_ ?_ <;> repeat' (first | exact True.intro | exact lr | exact rr | exact SV.le_int (by omega) | exact SV.le_any _ | refine And.intro ?_ ?_)); done) ?_
 rintro i ⟨p1, p2⟩
 have e1 : (i : Int).toNat = i := Int.toNat_natCast i
 conv => whnf
 repeat' (first | (refine CallX.of (z242 (l.getD (i : Int).toNat cls0) key) [(1000001, 1000001)] rfl ⟨lr, lr, trivial⟩ ⟨rr, trivial⟩ rfl rfl ?_; rintro x rout ⟨rfl, rfl⟩; refine ⟨rfl, ?_⟩; conv => whnf) | (refine br_intro ?_ ?_ <;> intro hb <;> (try simp only [brs] at hb) <;> conv => whnf) | omega | (refine And.intro ?_ ?_; ((try dsimp only); first | omega | (refine szA rfl ?_; omega) | (refine szB rfl ?_; omega) | (unfold inI64; omega) | exact rfl | (simp only [List.toList_toArray, List.length_cons, List.length_nil]; omega) | (simp only [lns] at *; omega) | decide | (unfold inI64; decide)); conv => whnf) | decide | assumption)
 · refine .ret _ ?_
   conv => whnf
   refine ⟨[(1000001, kyC key)], ⟨?_, rfl⟩, rr, trivial⟩
   conv => lhs; whnf
   congr 2
   exact (ixF_hit (by omega) p2 (by simpa using hb)).symm
 · exact ⟨i + 1, ⟨by omega, all_step p2 (by simpa using hb)⟩, by omega, (by (refine Entails.mk' [(1000001, 1000001)] rfl rfl ?_ ?_ <;> repeat' (first | exact True.intro | exact lr | exact rr | exact SV.le_int (by omega) | exact SV.le_any _ | refine And.intro ?_ ?_)); done)⟩
 · refine .ret _ ?_
   conv => whnf
   refine ⟨[(1000001, kyC key)], ⟨?_, rfl⟩, rr, trivial⟩
   conv => lhs; whnf
   congr 2
   have : i = l.length := by omega
   subst this
   exact (ixF_none p2).symm
theorem z157 (l : List Veh) (hl : l.length ≤ 2^40) (key : List UInt8) : FSpec Tryz.prog 125 [.d (vehs l), .fn 126 [.ptr 1000001 0]] [(1000001, kyC key)] (fun x r => x = .d (.int .i64 (veIx l key)) ∧ r = [(1000001, kyC key)]) := by
 refine spec_of hT (C := []) Tryz.func125 rfl Tryz.call125 rfl rfl rfl ?_
 conv => whnf
 refine LoopX.rule hT (C := []) (ι := Nat) (fun i => i ≤ l.length ∧ ∀ j, j < i → ((l.getD j veh0).key == key) = false) (fun i => mkSt [(0, .d (vehs l)), (1, .fn 126 [.ptr 1000001 0]), (7, .d (.int .i64 l.length)), (8, .d (.int .i64 i))] [(1000001, kyC key)]) (fun i => l.length - i) 0 ⟨by omega, by omega⟩ (by (refine Entails.mk' [(1000001, 1000001)] rfl rfl ?_ ?_ <;> repeat' (first | exact True.intro | exact lr | exact rr | exact SV.le_int (by omega) | exact SV.le_any _ | refine And.intro ?_ ?_)); done) ?_
 rintro i ⟨p1, p2⟩
 have e1 : (i : Int).toNat = i := Int.toNat_natCast i
 conv => whnf
 repeat' (first | (refine CallX.of (z158 (l.getD (i : Int).toNat veh0) key) [(1000001, 1000001)] rfl ⟨lr, lr, trivial⟩ ⟨rr, trivial⟩ rfl rfl ?_; rintro x rout ⟨rfl, rfl⟩; refine ⟨rfl, ?_⟩; conv => whnf) | (refine br_intro ?_ ?_ <;> intro hb <;> (try simp only [brs] at hb) <;> conv => whnf) | omega | (refine And.intro ?_ ?_; ((try dsimp only); first | omega | (refine szA rfl ?_; omega) | (refine szB rfl ?_; omega) | (unfold inI64; omega) | exact rfl | (simp only [List.toList_toArray, List.length_cons, List.length_nil]; omega) | (simp only [lns] at *; omega) | decide | (unfold inI64; decide)); conv => whnf) | decide | assumption)
 · refine .ret _ ?_
   conv => whnf
   refine ⟨[(1000001, kyC key)], ⟨?_, rfl⟩, rr, trivial⟩
   conv => lhs; whnf
   congr 2
   exact (ixF_hit (by omega) p2 (by simpa using hb)).symm
 · exact ⟨i + 1, ⟨by omega, all_step p2 (by simpa using hb)⟩, by omega, (by (refine Entails.mk' [(1000001, 1000001)] rfl rfl ?_ ?_ <;> repeat' (first | exact True.intro | exact lr | exact rr | exact SV.le_int (by omega) | exact SV.le_any _ | refine And.intro ?_ ?_)); done)⟩
 · refine .ret _ ?_
   conv => whnf
   refine ⟨[(1000001, kyC key)], ⟨?_, rfl⟩, rr, trivial⟩
   conv => lhs; whnf
   congr 2
   have : i = l.length := by omega
   subst this
   exact (ixF_none p2).symm
theorem z84 (l : List Cls) (hl : l.length ≤ 2^40) (key : List UInt8) : FSpec Tryz.prog 91 [.d (clss l), .d (.str key)] [] (fun x r => x = .d (.int .i64 (clIx l key)) ∧ r = []) := by
 refine spec_of hT (C := []) Tryz.func91 rfl Tryz.call91 rfl rfl rfl ?_
 conv => whnf
 refine CallX.of (z155a l hl key) [(1000001, 3)] rfl ⟨lr, lr, trivial⟩ ⟨rr, trivial⟩ rfl rfl ?_
 rintro x rout ⟨rfl, rfl⟩
 refine ⟨rfl, ?_⟩
 conv => whnf
 refine .ret _ ?_
 conv => whnf
 refine ⟨[], ⟨?_, rfl⟩, trivial⟩
 conv => lhs; whnf
theorem z176 (l : List Cls) (hl : l.length ≤ 2^40) (key : List UInt8) : FSpec Tryz.prog 82 [.d (clss l), .d (.str key)] [] (fun x r => x = .d (.int .i64 (clIx l key)) ∧ r = []) := by
 refine spec_of hT (C := []) Tryz.func82 rfl Tryz.call82 rfl rfl rfl ?_
 conv => whnf
 refine CallX.of (z155b l hl key) [(1000001, 3)] rfl ⟨lr, lr, trivial⟩ ⟨rr, trivial⟩ rfl rfl ?_
 rintro x rout ⟨rfl, rfl⟩
 refine ⟨rfl, ?_⟩
 conv => whnf
 refine .ret _ ?_
 conv => whnf
 refine ⟨[], ⟨?_, rfl⟩, trivial⟩
 conv => lhs; whnf
structure Flt where
 sta : List Sta
 cls : List Cls
 veh : List Veh
 plt : List Plt
abbrev flt (f : Flt) : SV := .agg [.d (stas f.sta), .d (clss f.cls), .d (vehs f.veh), .d (plts f.plt)]
theorem z85 (f : Flt) (hl : f.veh.length ≤ 2^40) (key : List UInt8) : FSpec Tryz.prog 92 [flt f, .d (.str key)] [] (fun x r => x = .d (.int .i64 (veIx f.veh key)) ∧ r = []) := by
 refine spec_of hT (C := []) Tryz.func92 rfl Tryz.call92 rfl rfl rfl ?_
 conv => whnf
 refine CallX.of (z157 f.veh hl key) [(1000001, 3)] rfl ⟨lr, lr, trivial⟩ ⟨rr, trivial⟩ rfl rfl ?_
 rintro x rout ⟨rfl, rfl⟩
 refine ⟨rfl, ?_⟩
 conv => whnf
 refine .ret _ ?_
 conv => whnf
 refine ⟨[], ⟨?_, rfl⟩, trivial⟩
 conv => lhs; whnf
theorem clIx_bd (l : List Cls) (key : List UInt8) : -1 ≤ clIx l key ∧ clIx l key < l.length := ⟨ixF_bd.1, ixF_bd.2.1⟩
theorem clIx_at {l : List Cls} {key : List UInt8} (h : 0 ≤ clIx l key) : (l.getD (clIx l key).toNat cls0).key = key := by
 have := (ixF_bd (p := fun i => (l.getD i cls0).key == key) (n := l.length)).2.2 h
 exact eq_of_beq this
def upC (l : List Cls) (key : List UInt8) : List UInt8 := (l.getD (clIx l key).toNat cls0).up
def abv (l : List Cls) : Nat → List UInt8 → List (List UInt8)
 | 0, _ => []
 | n + 1, key => if upC l key = [] then [] else upC l key :: abv l n (upC l key)
theorem abv_len (l : List Cls) : ∀ (n : Nat) (key : List UInt8), (abv l n key).length ≤ n := by
 intro n
 induction n with
 | zero => intro key; simp [abv]
 | succ n ih => intro key; rw [abv]; split; simp; simp; exact ih _
def upsOk (l : List Cls) : Prop := (∀ c ∈ l, c.up ≠ [] → 0 ≤ clIx l c.up)
theorem z241 (l : List Cls) (hl : l.length ≤ 2^20) (hu : upsOk l) (key : List UInt8) (hk : 0 ≤ clIx l key) :
 FSpec Tryz.prog 116 [.d (clss l), .d (.str key)] [] (fun x r => x = .d (strs (abv l l.length key)) ∧ r = []) := by
 refine spec_of hT (C := []) Tryz.func116 rfl Tryz.call116 rfl rfl rfl ?_
 conv => whnf
 refine LoopX.rule hT (C := []) (ι := List (List UInt8) × List UInt8 × Nat) (fun (o, k, i) => i ≤ l.length ∧ o.length ≤ i ∧ 0 ≤ clIx l k ∧ o ++ abv l (l.length - i) k = abv l l.length key)
  (fun (o, k, i) => mkSt [(0, .d (clss l)), (1, .d (.str k)), (5, .buf 5), (7, .d (.int .i64 l.length)), (8, .d (.int .i64 i))] [(5, seqB 9 1 sF [] o)])
  (fun (_, _, i) => l.length - i) ([], key, 0) ⟨by simp, by simp, hk, by simp⟩ ?_ ?_
 · exact (Entails.nil 5 5 9 1 (rowF sF [] []) rfl rfl (by decide)).trans (Entails.mk' [(5, 5)] rfl rfl ⟨lr, lr, lr, lr, lr, trivial⟩ ⟨rr, trivial⟩)
 rintro ⟨o, k, i⟩ ⟨p1, p2, p3, p4⟩
 have p1 : i ≤ l.length := p1
 have p2 : o.length ≤ i := p2
 have p3 : 0 ≤ clIx l k := p3
 have p4 : o ++ abv l (l.length - i) k = abv l l.length key := p4
 have hb1 := (clIx_bd l k).2
 conv => whnf
 repeat' (first | (refine CallX.exact (z176 l (by omega) k) rfl rfl ?_; rotate_right; conv => whnf) | (refine br_intro ?_ ?_ <;> intro hb <;> (try simp only [brs] at hb) <;> conv => whnf) | omega | (refine And.intro ?_ ?_; ((try dsimp only); first | omega | (refine szA rfl ?_; omega) | (refine szB rfl ?_; omega) | (unfold inI64; omega) | exact rfl | (simp only [List.toList_toArray, List.length_cons, List.length_nil]; omega) | (simp only [lns] at *; omega) | decide | (unfold inI64; decide)); conv => whnf) | decide | assumption)
 · refine .freeze _ 5 9 1 _ _ rfl (.weak _ ?_)
   conv => whnf
   refine ⟨.d (strs o), [], lr, ⟨?_, rfl⟩, trivial⟩
   rw [← p4, show l.length - i = (l.length - i - 1) + 1 by omega, abv, if_pos (show upC l k = [] from hb), List.append_nil]
 · have hm : (l.getD (clIx l k).toNat cls0) ∈ l := getD_mem (by omega)
   refine ⟨(o ++ [upC l k], upC l k, i + 1), ⟨by omega, by simp; omega, hu _ hm hb, ?_⟩, by show l.length - (i + 1) < l.length - i; omega,
    Entails.mk' [(5, 22)] rfl rfl ⟨lr, lr, lr, lr, lr, trivial⟩ ⟨Res.le_snocF rfl, trivial⟩⟩
   rw [← p4, show l.length - i = (l.length - (i + 1)) + 1 by omega, abv, if_neg (show ¬ upC l k = [] from hb), List.append_assoc]
   rfl
 · refine .freeze _ 5 9 1 _ _ rfl (.weak _ ?_)
   conv => whnf
   refine ⟨.d (strs o), [], lr, ⟨?_, rfl⟩, trivial⟩
   rw [← p4, show l.length - i = 0 by omega, abv, List.append_nil]
theorem z154 (l : List Cls) (hl : l.length ≤ 2^20) (hu : upsOk l) (key : List UInt8) (hk : 0 ≤ clIx l key) :
 FSpec Tryz.prog 123 [.d (clss l), .d (.str key)] [] (fun x r => x = .d (strs (abv l (l.length + 1) key)) ∧ r = []) := by
 refine spec_of hT (C := []) Tryz.func123 rfl Tryz.call123 rfl rfl rfl ?_
 conv => whnf
 repeat' (first | (refine CallX.exact (z84 l (by omega) key) rfl rfl ?_; rotate_right; conv => whnf) | (refine br_intro ?_ ?_ <;> intro hb <;> (try simp only [brs] at hb) <;> conv => whnf) | omega | (refine And.intro ?_ ?_; ((try dsimp only); first | omega | (refine szA rfl ?_; omega) | (refine szB rfl ?_; omega) | (unfold inI64; omega) | exact rfl | (simp only [List.toList_toArray, List.length_cons, List.length_nil]; omega) | (simp only [lns] at *; omega) | decide | (unfold inI64; decide)); conv => whnf) | decide | assumption)
 refine LoopX.rule hT (C := []) (ι := List (List UInt8) × List UInt8) (fun (o, k) => o.length ≤ l.length + 1 ∧ 0 ≤ clIx l k ∧ o ++ abv l (l.length + 1 - o.length) k = abv l (l.length + 1) key)
  (fun (o, k) => mkSt [(0, .d (clss l)), (5, .buf 5), (6, .d (.int .i64 (clIx l k)))] [(5, seqB 9 1 sF [] o)])
  (fun (o, _) => l.length + 1 - o.length) ([], key) ⟨by simp, hk, by simp⟩ ?_ ?_
 · exact (Entails.nil 5 5 9 1 (rowF sF [] []) rfl rfl (by decide)).trans (Entails.mk' [(5, 5)] rfl rfl ⟨lr, lr, lr, trivial⟩ ⟨rr, trivial⟩)
 rintro ⟨o, k⟩ ⟨p1, p3, p4⟩
 have p1 : o.length ≤ l.length + 1 := p1
 have p3 : 0 ≤ clIx l k := p3
 have p4 : o ++ abv l (l.length + 1 - o.length) k = abv l (l.length + 1) key := p4
 have hb1 := (clIx_bd l k).2
 conv => whnf
 repeat' (first | (refine CallX.exact (z84 l (by omega) (upC l k)) rfl rfl ?_; rotate_right; conv => whnf) | (refine br_intro ?_ ?_ <;> intro hb <;> (try simp only [brs] at hb) <;> conv => whnf) | omega | (refine And.intro ?_ ?_; ((try dsimp only); first | omega | (refine szA rfl ?_; omega) | (refine szB rfl ?_; omega) | (unfold inI64; omega) | exact rfl | (simp only [List.toList_toArray, List.length_cons, List.length_nil]; omega) | (simp only [lns] at *; omega) | decide | (unfold inI64; decide)); conv => whnf) | decide | assumption)
 · have hm : (l.getD (clIx l k).toNat cls0) ∈ l := getD_mem (by omega)
   have hn : ¬ (l.getD (clIx l k).toNat cls0).up = [] := by assumption
   refine ⟨(o ++ [upC l k], upC l k), ⟨by simp; omega, hu _ hm hn, ?_⟩, by show l.length + 1 - (o ++ [upC l k]).length < l.length + 1 - o.length; simp; omega,
    Entails.mk' [(5, 41)] rfl rfl ⟨lr, lr, lr, trivial⟩ ⟨Res.le_snocF rfl, trivial⟩⟩
   rw [← p4, show l.length + 1 - o.length = (l.length - o.length) + 1 by omega, abv, if_neg (show ¬ upC l k = [] from hn), List.append_assoc, List.length_append, show l.length + 1 - (o.length + [upC l k].length) = l.length - o.length from by simp]
   rfl
 · refine .freeze _ 5 9 1 _ _ rfl (.weak _ ?_)
   conv => whnf
   refine ⟨.d (strs o), [], lr, ⟨?_, rfl⟩, trivial⟩
   rw [← p4, show l.length + 1 - o.length = 0 by omega, abv, List.append_nil]
 · refine .freeze _ 5 9 1 _ _ rfl (.weak _ ?_)
   conv => whnf
   refine ⟨.d (strs o), [], lr, ⟨?_, rfl⟩, trivial⟩
   rw [← p4]
   cases hq : l.length + 1 - o.length with
   | zero => rw [abv, List.append_nil]
   | succ m => rw [abv, if_pos (show upC l k = [] from hb), List.append_nil]
theorem z208 (l : List (List UInt8)) (hl : l.length ≤ 2^40) (v : List UInt8) : FSpec Tryz.prog 144 [.d (strs l), .d (.str v)] [] (fun x r => x = .d (.int .i64 (ixF (fun i => l.getD i [] == v) l.length)) ∧ r = []) := by
 refine spec_of hT (C := []) Tryz.func144 rfl Tryz.call144 rfl rfl rfl ?_
 conv => whnf
 refine LoopX.rule hT (C := []) (ι := Nat) (fun i => i ≤ l.length ∧ ∀ j, j < i → (l.getD j [] == v) = false) (fun i => mkSt [(0, .d (strs l)), (1, .d (.str v)), (7, .d (.int .i64 l.length)), (8, .d (.int .i64 i))] []) (fun i => l.length - i) 0 ⟨by omega, by omega⟩ (by (refine Entails.mk' [] rfl rfl ?_ ?_ <;> repeat' (first | exact True.intro | exact lr | exact rr | exact SV.le_int (by omega) | exact SV.le_any _ | refine And.intro ?_ ?_)); done) ?_
 rintro i ⟨p1, p2⟩
 have e1 : (i : Int).toNat = i := Int.toNat_natCast i
 conv => whnf
 repeat' (first | (refine br_intro ?_ ?_ <;> intro hb <;> (try simp only [brs] at hb) <;> conv => whnf) | omega | (refine And.intro ?_ ?_; ((try dsimp only); first | omega | (refine szA rfl ?_; omega) | (refine szB rfl ?_; omega) | (unfold inI64; omega) | exact rfl | (simp only [List.toList_toArray, List.length_cons, List.length_nil]; omega) | (simp only [lns] at *; omega) | decide | (unfold inI64; decide)); conv => whnf) | decide | assumption)
 · refine .ret _ ?_
   conv => whnf
   refine ⟨[], ⟨?_, rfl⟩, trivial⟩
   conv => lhs; whnf
   congr 2
   exact (ixF_hit (by omega) p2 (by rw [← hb]; simp)).symm
 · exact ⟨i + 1, ⟨by omega, all_step p2 (beq_eq_false_iff_ne.2 fun q => hb q.symm)⟩, by omega, (by (refine Entails.mk' [] rfl rfl ?_ ?_ <;> repeat' (first | exact True.intro | exact lr | exact rr | exact SV.le_int (by omega) | exact SV.le_any _ | refine And.intro ?_ ?_)); done)⟩
 · refine .ret _ ?_
   conv => whnf
   refine ⟨[], ⟨?_, rfl⟩, trivial⟩
   conv => lhs; whnf
   congr 2
   have : i = l.length := by omega
   subst this
   exact (ixF_none p2).symm
theorem ix_mem (l : List (List UInt8)) (v : List UInt8) : decide (0 ≤ ixF (fun i => l.getD i [] == v) l.length) = decide (v ∈ l) := by
 rw [decide_eq_decide]
 constructor
 · intro h
   have := ixF_bd (p := fun i => l.getD i [] == v) (n := l.length)
   rw [← eq_of_beq (this.2.2 h)]
   exact getD_mem (by omega)
 · intro h
   obtain ⟨j, hj, rfl⟩ := mem_getD (d := []) h
   exact ixF_pos hj (by simp)
theorem z153 (l : List (List UInt8)) (hl : l.length ≤ 2^40) (v : List UInt8) : FSpec Tryz.prog 115 [.d (strs l), .d (.str v)] [] (fun x r => x = .d (.bool (decide (v ∈ l))) ∧ r = []) := by
 refine spec_of hT (C := []) Tryz.func115 rfl Tryz.call115 rfl rfl rfl ?_
 conv => whnf
 repeat' (first | (refine CallX.exact (z208 l hl v) rfl rfl ?_; rotate_right; conv => whnf) | (refine br_intro ?_ ?_ <;> intro hb <;> (try simp only [brs] at hb) <;> conv => whnf) | omega | (refine And.intro ?_ ?_; ((try dsimp only); first | omega | (refine szA rfl ?_; omega) | (refine szB rfl ?_; omega) | (unfold inI64; omega) | exact rfl | (simp only [List.toList_toArray, List.length_cons, List.length_nil]; omega) | (simp only [lns] at *; omega) | decide | (unfold inI64; decide)); conv => whnf) | decide | assumption)
 refine .ret _ ?_
 conv => whnf
 refine ⟨[], ⟨?_, rfl⟩, trivial⟩
 conv => lhs; whnf
 rw [← ix_mem]
def itU (l : List Cls) : Nat → List UInt8 → List UInt8
 | 0, k => k
 | n + 1, k => itU l n (upC l k)
theorem itU_add (l : List Cls) : ∀ (a b : Nat) (k : List UInt8), itU l (a + b) k = itU l b (itU l a k) := by
 intro a
 induction a with
 | zero => intro b k; rw [Nat.zero_add]; rfl
 | succ a ih => intro b k; rw [show a + 1 + b = (a + b) + 1 by omega, itU, ih, itU]
theorem abv_mem (l : List Cls) : ∀ (n : Nat) (k v : List UInt8), v ∈ abv l n k ↔ ∃ j, j < n ∧ itU l (j + 1) k = v ∧ ∀ i, i ≤ j → itU l (i + 1) k ≠ [] := by
 intro n
 induction n with
 | zero => intro k v; simp [abv]
 | succ n ih =>
   intro k v
   rw [abv]
   by_cases h : upC l k = []
   · rw [if_pos h]
     constructor
     · intro q; cases q
     · rintro ⟨j, _, _, h3⟩
       exact absurd h (h3 0 (by omega))
   · rw [if_neg h, List.mem_cons, ih]
     constructor
     · rintro (rfl | ⟨j, h1, h2, h3⟩)
       · exact ⟨0, by omega, rfl, fun i hi => by obtain rfl : i = 0 := by omega
                                                 exact h⟩
       · refine ⟨j + 1, by omega, h2, fun i hi => ?_⟩
         cases i with
         | zero => exact h
         | succ i => exact h3 i (by omega)
     · rintro ⟨j, h1, h2, h3⟩
       cases j with
       | zero => exact .inl h2.symm
       | succ j => exact .inr ⟨j, by omega, h2, fun i hi => h3 (i + 1) (by omega)⟩
theorem nodupG {α : Type} {l m : List α} (h : l.Nodup) (hs : ∀ x ∈ l, x ∈ m) : l.length ≤ m.length := by
 induction l generalizing m with
 | nil => simp
 | cons x l ih =>
   rw [List.nodup_cons] at h
   obtain ⟨a, b, rfl⟩ := List.append_of_mem (hs x (by simp))
   have := ih (m := a ++ b) h.2 (fun y hy => by
    have q := hs y (by simp [hy])
    simp only [List.mem_append, List.mem_cons] at q ⊢
    rcases q with q | q | q
    · exact .inl q
    · subst q; exact absurd hy h.1
    · exact .inr q)
   simp at this ⊢; omega
theorem clIx_mem {l : List Cls} {k : List UInt8} (h : 0 ≤ clIx l k) : k ∈ l.map (·.key) := by
 rw [← clIx_at h]
 exact List.mem_map_of_mem (getD_mem (by have := (clIx_bd l k).2; omega))
theorem itU_in {l : List Cls} (hu : upsOk l) {k : List UInt8} (hk : 0 ≤ clIx l k) : ∀ (j : Nat), (∀ i, i < j → itU l (i + 1) k ≠ []) → 0 ≤ clIx l (itU l j k) := by
 intro j
 induction j with
 | zero => intro _; exact hk
 | succ j ih =>
   intro h
   have h1 := ih (fun i hi => h i (by omega))
   have h2 := h j (by omega)
   have e : itU l (j + 1) k = upC l (itU l j k) := by rw [itU_add]; rfl
   rw [e] at h2 ⊢
   exact hu _ (getD_mem (by have := (clIx_bd l (itU l j k)).2; omega)) h2
theorem loop_eq {l : List Cls} (hu : upsOk l) {k : List UInt8} (hk : 0 ≤ clIx l k) : k ∈ abv l (l.length + 1) k ↔ k ∈ abv l l.length k := by
 rw [abv_mem, abv_mem]
 constructor
 · rintro ⟨j, h1, h2, h3⟩
   by_cases hj : j < l.length
   · exact ⟨j, hj, h2, h3⟩
   · have hj : j = l.length := by omega
     subst hj
     by_cases hex : ∃ j', j' < l.length ∧ itU l (j' + 1) k = k
     · obtain ⟨j', q1, q2⟩ := hex
       exact ⟨j', q1, q2, fun i hi => h3 i (by omega)⟩
     · exfalso
       have hnd : ((List.range (l.length + 1)).map fun j => itU l j k).Nodup := by
        rw [List.nodup_iff_pairwise_ne, List.pairwise_map]
        refine List.Pairwise.imp_of_mem ?_ List.pairwise_lt_range
        intro a b ha hb hab he
        rw [List.mem_range] at ha hb
        refine hex ⟨a + (l.length + 1 - b) - 1, by omega, ?_⟩
        rw [show a + (l.length + 1 - b) - 1 + 1 = a + (l.length + 1 - b) by omega, itU_add, he, ← itU_add, show b + (l.length + 1 - b) = l.length + 1 by omega]
        exact h2
       have := nodupG (m := l.map (·.key)) hnd (fun x hx => by
        obtain ⟨j, hj, rfl⟩ := List.mem_map.1 hx
        rw [List.mem_range] at hj
        exact clIx_mem (itU_in hu hk j (fun i hi => h3 i (by omega))))
       simp at this
       omega
 · rintro ⟨j, h1, h2, h3⟩
   exact ⟨j, by omega, h2, h3⟩
theorem clIx_pos {l : List Cls} {c : Cls} (h : c ∈ l) : 0 ≤ clIx l c.key := by
 obtain ⟨j, hj, rfl⟩ := mem_getD (d := cls0) h
 exact ixF_pos hj (by simp)
def clsE1 (l : List Cls) (i : Nat) : Int :=
 if isKeyB (l.getD i cls0).key = false then 5 else if 0 < i ∧ strLe (l.getD i cls0).key (l.getD (i - 1) cls0).key = true then 7
 else if (l.getD i cls0).up ≠ [] ∧ isKeyB (l.getD i cls0).up = false then 5 else 0
def clsE2 (l : List Cls) (i : Nat) : Int := if (l.getD i cls0).up ≠ [] ∧ clIx l (l.getD i cls0).up < 0 then 8 else 0
def clsE3 (l : List Cls) (i : Nat) : Int := if (l.getD i cls0).key ∈ abv l l.length (l.getD i cls0).key then 14 else 0
def clssE (l : List Cls) : Int := if 30 < l.length then 2 else firstE [firstAt (clsE1 l) l.length, firstAt (clsE2 l) l.length, firstAt (clsE3 l) l.length]
def clsOk (l : List Cls) : Prop := l.length ≤ 2^20 ∧ ∀ c ∈ l, c.key.length ≤ 2^40 ∧ c.up.length ≤ 2^40
theorem z44 (s : List UInt8) (hl : s.length ≤ 2^40) : FSpec Tryz.prog 93 [.d (.str s)] [] (fun x r => x = .d (.bool (isPlateB s)) ∧ r = []) := by
 refine spec_of hT (C := []) Tryz.func93 rfl Tryz.call93 rfl rfl rfl ?_
 conv => whnf
 repeat' (first | (refine CallX.exact (s110 _ _ _) rfl rfl ?_; rotate_right; conv => whnf) | (refine CallX.exact (s111 s plateL hl ?_ ?_) rfl rfl ?_; rotate_right; conv => whnf) | (refine br_intro ?_ ?_ <;> intro hb <;> (try simp only [brs] at hb) <;> conv => whnf) | omega | (refine And.intro ?_ ?_; ((try dsimp only); first | omega | (refine szA rfl ?_; omega) | (refine szB rfl ?_; omega) | (unfold inI64; omega) | exact rfl | (simp only [List.toList_toArray, List.length_cons, List.length_nil]; omega) | (simp only [lns] at *; omega) | decide | (unfold inI64; decide)); conv => whnf) | decide | assumption)
 all_goals try (simp; omega)
 all_goals
  refine .ret _ ?_
  conv => whnf
  refine ⟨[], ⟨?_, rfl⟩, trivial⟩
  conv => lhs; whnf
  rw [plate_eq]; congr 2; grind
theorem z159 (n : Int) : FSpec Tryz.prog 127 [.d (.int .i64 n)] [] (fun x r => x = .d (.int .i64 (cmpI n 0)) ∧ r = []) := by
 refine spec_of hT (C := []) Tryz.func127 rfl Tryz.call127 rfl rfl rfl ?_
 conv => whnf
 repeat' (first | (refine br_intro ?_ ?_ <;> intro hb <;> (try simp only [brs] at hb) <;> conv => whnf) | omega | (refine And.intro ?_ ?_; ((try dsimp only); first | omega | (refine szA rfl ?_; omega) | (refine szB rfl ?_; omega) | (unfold inI64; omega) | exact rfl | (simp only [List.toList_toArray, List.length_cons, List.length_nil]; omega) | (simp only [lns] at *; omega) | decide | (unfold inI64; decide)); conv => whnf) | decide | assumption)
 all_goals
  refine .ret _ ?_
  conv => whnf
  refine ⟨[], ⟨?_, rfl⟩, trivial⟩
  conv => lhs; whnf
  congr 2; unfold cmpI; grind
def pltCmp (a b : Plt) : Int := firstE [cmpI a.frm b.frm, cmpS a.veh b.veh, cmpS a.plt b.plt]
theorem pltCmp_eq (a b : Plt) : pltCmp a b = if a.frm ≠ b.frm then cmpI (a.frm - b.frm) 0 else cmpL [a.veh, a.plt] [b.veh, b.plt] := by
 simp only [pltCmp, cmpL, firstE]
 have e1 : cmpI (a.frm - b.frm) 0 = cmpI a.frm b.frm := by unfold cmpI; grind
 have e2 : cmpI a.frm b.frm = 0 ↔ a.frm = b.frm := by unfold cmpI; grind
 rw [e1]
 grind
theorem z86 (a b : Plt) (ha : -2^40 ≤ a.frm ∧ a.frm ≤ 2^40) (hb : -2^40 ≤ b.frm ∧ b.frm ≤ 2^40) : FSpec Tryz.prog 94 [.agg ((pltF a).map .d), .agg ((pltF b).map .d)] [] (fun x r => x = .d (.int .i64 (pltCmp a b)) ∧ r = []) := by
 refine spec_of hT (C := []) Tryz.func94 rfl Tryz.call94 rfl rfl rfl ?_
 conv => whnf
 repeat' (first | (refine CallX.exact (z159 _) rfl rfl ?_; rotate_right; conv => whnf) | (refine CallX.pure (s169 [_, _] [_, _] (by simp) (by simp)) ⟨SV.le_lit (by rfl) (by rfl), SV.le_lit (by rfl) (by rfl), trivial⟩ rfl ?_; conv => whnf) | (refine br_intro ?_ ?_ <;> intro hb <;> (try simp only [brs] at hb) <;> conv => whnf) | omega | (refine And.intro ?_ ?_; ((try dsimp only); first | omega | (refine szA rfl ?_; omega) | (refine szB rfl ?_; omega) | (unfold inI64; omega) | exact rfl | (simp only [List.toList_toArray, List.length_cons, List.length_nil]; omega) | (simp only [lns] at *; omega) | decide | (unfold inI64; decide)); conv => whnf) | decide | assumption)
 all_goals
  refine .ret _ ?_
  conv => whnf
  refine ⟨[], ⟨?_, rfl⟩, trivial⟩
  conv => lhs; whnf
  congr 2
  rw [pltCmp_eq]; grind
def pltC (p : Plt) : Res := .cells 96 ((pltF p).map .d)
def twP (p o : Plt) : Bool := decide (o.frm = p.frm) && (o.veh == p.veh || o.plt == p.plt)
theorem z88 (o p : Plt) : FSpec Tryz.prog 96 [.agg ((pltF o).map .d), .ptr 1000001 0] [(1000001, pltC p)] (fun y r => y = .d (.bool (twP p o)) ∧ r = [(1000001, pltC p)]) := by
 refine spec_of hT (C := []) Tryz.func96 rfl Tryz.call96 rfl rfl rfl ?_
 conv => whnf
 repeat' (first | (refine br_intro ?_ ?_ <;> intro hb <;> (try simp only [brs] at hb) <;> conv => whnf) | omega | (refine And.intro ?_ ?_; ((try dsimp only); first | omega | (refine szA rfl ?_; omega) | (refine szB rfl ?_; omega) | (unfold inI64; omega) | exact rfl | (simp only [List.toList_toArray, List.length_cons, List.length_nil]; omega) | (simp only [lns] at *; omega) | decide | (unfold inI64; decide)); conv => whnf) | decide | assumption)
 all_goals
  refine .ret _ ?_
  conv => whnf
  refine ⟨[(1000001, pltC p)], ⟨?_, rfl⟩, rr, trivial⟩
  conv => lhs; whnf
  unfold twP
  congr 2
  first | grind | simp_all
theorem z161 (l : List Plt) (hl : l.length ≤ 2^40) (p : Plt) : FSpec Tryz.prog 129 [.d (plts l), .fn 96 [.ptr 1000001 0]] [(1000001, pltC p)] (fun x r => x = .d (.int .i64 (ixF (fun i => twP p (l.getD i plt0)) l.length)) ∧ r = [(1000001, pltC p)]) := by
 refine spec_of hT (C := []) Tryz.func129 rfl Tryz.call129 rfl rfl rfl ?_
 conv => whnf
 refine LoopX.rule hT (C := []) (ι := Nat) (fun i => i ≤ l.length ∧ ∀ j, j < i → twP p (l.getD j plt0) = false) (fun i => mkSt [(0, .d (plts l)), (1, .fn 96 [.ptr 1000001 0]), (7, .d (.int .i64 l.length)), (8, .d (.int .i64 i))] [(1000001, pltC p)]) (fun i => l.length - i) 0 ⟨by omega, by omega⟩ (by (refine Entails.mk' [(1000001, 1000001)] rfl rfl ?_ ?_ <;> repeat' (first | exact True.intro | exact lr | exact rr | exact SV.le_int (by omega) | exact SV.le_any _ | refine And.intro ?_ ?_)); done) ?_
 rintro i ⟨p1, p2⟩
 have e1 : (i : Int).toNat = i := Int.toNat_natCast i
 conv => whnf
 repeat' (first | (refine CallX.of (z88 (l.getD (i : Int).toNat plt0) p) [(1000001, 1000001)] rfl ⟨lr, lr, trivial⟩ ⟨rr, trivial⟩ rfl rfl ?_; rintro x rout ⟨rfl, rfl⟩; refine ⟨rfl, ?_⟩; conv => whnf) | (refine br_intro ?_ ?_ <;> intro hb <;> (try simp only [brs] at hb) <;> conv => whnf) | omega | (refine And.intro ?_ ?_; ((try dsimp only); first | omega | (refine szA rfl ?_; omega) | (refine szB rfl ?_; omega) | (unfold inI64; omega) | exact rfl | (simp only [List.toList_toArray, List.length_cons, List.length_nil]; omega) | (simp only [lns] at *; omega) | decide | (unfold inI64; decide)); conv => whnf) | decide | assumption)
 · refine .ret _ ?_
   conv => whnf
   refine ⟨[(1000001, pltC p)], ⟨?_, rfl⟩, rr, trivial⟩
   conv => lhs; whnf
   congr 2
   exact (ixF_hit (by omega) p2 (by simpa using hb)).symm
 · exact ⟨i + 1, ⟨by omega, all_step p2 (by simpa using hb)⟩, by omega, (by (refine Entails.mk' [(1000001, 1000001)] rfl rfl ?_ ?_ <;> repeat' (first | exact True.intro | exact lr | exact rr | exact SV.le_int (by omega) | exact SV.le_any _ | refine And.intro ?_ ?_)); done)⟩
 · refine .ret _ ?_
   conv => whnf
   refine ⟨[(1000001, pltC p)], ⟨?_, rfl⟩, rr, trivial⟩
   conv => lhs; whnf
   congr 2
   have : i = l.length := by omega
   subst this
   exact (ixF_none p2).symm
theorem ix_any {α : Type} (l : List α) (d : α) (q : α → Bool) : decide (0 ≤ ixF (fun i => q (l.getD i d)) l.length) = l.any q := by
 rw [Bool.eq_iff_iff, decide_eq_true_eq, List.any_eq_true]
 constructor
 · intro h
   have := ixF_bd (p := fun i => q (l.getD i d)) (n := l.length)
   exact ⟨_, getD_mem (by omega), this.2.2 h⟩
 · rintro ⟨x, hx, hq⟩
   obtain ⟨j, hj, rfl⟩ := mem_getD (d := d) hx
   exact ixF_pos hj hq
theorem z87 (l : List Plt) (hl : l.length ≤ 2^40) (p : Plt) : FSpec Tryz.prog 95 [.d (plts l), .fn 96 [.ptr 1000001 0]] [(1000001, pltC p)] (fun x r => x = .d (.bool (l.any (twP p))) ∧ r = [(1000001, pltC p)]) := by
 refine spec_of hT (C := []) Tryz.func95 rfl Tryz.call95 rfl rfl rfl ?_
 conv => whnf
 repeat' (first | (refine CallX.of (z161 l hl p) [(1000001, 1000001)] rfl ⟨lr, lr, trivial⟩ ⟨rr, trivial⟩ rfl rfl ?_; rintro x rout ⟨rfl, rfl⟩; refine ⟨rfl, ?_⟩; conv => whnf) | (refine br_intro ?_ ?_ <;> intro hb <;> (try simp only [brs] at hb) <;> conv => whnf) | omega | (refine And.intro ?_ ?_; ((try dsimp only); first | omega | (refine szA rfl ?_; omega) | (refine szB rfl ?_; omega) | (unfold inI64; omega) | exact rfl | (simp only [List.toList_toArray, List.length_cons, List.length_nil]; omega) | (simp only [lns] at *; omega) | decide | (unfold inI64; decide)); conv => whnf) | decide | assumption)
 refine .ret _ ?_
 conv => whnf
 refine ⟨[(1000001, pltC p)], ⟨?_, rfl⟩, rr, trivial⟩
 conv => lhs; whnf
 rw [← ix_any l plt0]
def vehS (l : List Veh) : Prop := ∀ i j, i < j → j < l.length → Op.bytesLess (l.getD i veh0).key (l.getD j veh0).key = true
theorem z287 (v : Veh) (key : List UInt8) : FSpec Tryz.prog 146 [.agg ((vehF v).map .d), .d (.str key)] [] (fun y r => y = .d (.int .i64 (cmpS v.key key)) ∧ r = []) := by
 refine spec_of hT (C := []) Tryz.func146 rfl Tryz.call146 rfl rfl rfl ?_
 conv => whnf
 repeat' (first | (refine CallX.exact (s184 _ _) rfl rfl ?_; rotate_right; conv => whnf) | (refine br_intro ?_ ?_ <;> intro hb <;> (try simp only [brs] at hb) <;> conv => whnf) | omega | (refine And.intro ?_ ?_; ((try dsimp only); first | omega | (refine szA rfl ?_; omega) | (refine szB rfl ?_; omega) | (unfold inI64; omega) | exact rfl | (simp only [List.toList_toArray, List.length_cons, List.length_nil]; omega) | (simp only [lns] at *; omega) | decide | (unfold inI64; decide)); conv => whnf) | decide | assumption)
 refine .ret _ ?_
 conv => whnf
 refine ⟨[], ⟨?_, rfl⟩, trivial⟩
 conv => lhs; whnf
theorem cmpS_neg (a b : List UInt8) : cmpS a b < 0 ↔ Op.bytesLess a b = true := by unfold cmpS; grind
theorem cmpS_zeroF (a b : List UInt8) : cmpS a b = 0 ↔ a = b := by
 unfold cmpS; grind [less_tri, less_irr]
theorem half2 (lo hi : Nat) (h : hi ≤ 2^20) (hl : lo ≤ hi) : IntKind.wrap .u64 ((lo : Int) + hi) / 2 = (((lo + hi) / 2 : Nat) : Int) := by
 unfold IntKind.wrap; simp [IntKind.signed, IntKind.bits]; omega
theorem vehS_lt {l : List Veh} (hs : vehS l) {key : List UInt8} {i j : Nat} (hij : i ≤ j) (hj : j < l.length) (h : Op.bytesLess (l.getD j veh0).key key = true) : Op.bytesLess (l.getD i veh0).key key = true := by
 rcases Nat.lt_or_ge i j with q | q
 · exact less_trans (hs i j q hj) h
 · obtain rfl : i = j := by omega
   exact h
theorem veIx_hit {l : List Veh} (hs : vehS l) {i : Nat} (hi : i < l.length) : veIx l (l.getD i veh0).key = i := by
 refine ixF_hit hi (fun j hj => ?_) (by simp)
 rw [beq_eq_false_iff_ne]
 intro e
 have := hs j i hj hi
 rw [e, less_irr] at this; cases this
theorem veIx_no {l : List Veh} {key : List UInt8} (h : ∀ i, i < l.length → (l.getD i veh0).key ≠ key) : veIx l key = -1 :=
 ixF_none fun j hj => beq_eq_false_iff_ne.2 (h j hj)
theorem z286 (l : List Veh) (hl : l.length ≤ 2^20) (hs : vehS l) (key : List UInt8) : FSpec Tryz.prog 145 [.d (vehs l), .d (.str key), .fn 146 []] []
 (fun y r => (∃ j : Nat, ∃ b : Bool, y = .tup [.d (.int .i64 j), .d (.bool b)] ∧ veIx l key = if b = true then (j : Int) else -1) ∧ r = []) := by
 refine spec_of hT (C := []) Tryz.func145 rfl Tryz.call145 rfl rfl rfl ?_
 conv => whnf
 refine LoopX.rule hT (C := []) (ι := Nat × Nat) (fun (lo, hi) => (lo ≤ hi ∧ hi ≤ l.length) ∧ (∀ j, j < lo → Op.bytesLess (l.getD j veh0).key key = true) ∧ ∀ j, hi ≤ j → j < l.length → Op.bytesLess (l.getD j veh0).key key = false)
  (fun (lo, hi) => mkSt [(0, .d (vehs l)), (1, .d (.str key)), (2, .fn 146 []), (8, .d (.int .i64 l.length)), (9, .d (.int .i64 lo)), (10, .d (.int .i64 hi))] []) (fun (lo, hi) => hi - lo) (0, l.length)
  ⟨⟨by simp, by simp⟩, fun j hj => by omega, fun j h1 h2 => by omega⟩ (by (refine Entails.mk' [] rfl rfl ?_ ?_ <;> repeat' (first | exact True.intro | exact lr | exact rr | exact SV.le_int (by omega) | exact SV.le_any _ | refine And.intro ?_ ?_)); done) ?_
 rintro ⟨lo, hi⟩ ⟨⟨p1, p2⟩, p3, p4⟩
 have p1 : lo ≤ hi := p1
 have p2 : hi ≤ l.length := p2
 have p3 : ∀ j, j < lo → Op.bytesLess (l.getD j veh0).key key = true := p3
 have p4 : ∀ j, hi ≤ j → j < l.length → Op.bytesLess (l.getD j veh0).key key = false := p4
 have hh := half2 lo hi (by omega) p1
 obtain ⟨M, hM⟩ : ∃ M, M = (lo + hi) / 2 := ⟨_, rfl⟩
 rw [← hM] at hh
 have e1 : ((M : Nat) : Int).toNat = M := Int.toNat_natCast M
 have e2 : ((lo : Nat) : Int).toNat = lo := Int.toNat_natCast lo
 conv => whnf
 repeat' (first | (refine ⟨rfl, ?_⟩; conv => whnf) | (rw [hh]; conv => whnf) | (refine CallX.exact (z287 (l.getD (M : Int).toNat veh0) key) rfl rfl ?_; rotate_right; conv => whnf) | (refine CallX.exact (z287 (l.getD (lo : Int).toNat veh0) key) rfl rfl ?_; rotate_right; conv => whnf) | (refine br_intro ?_ ?_ <;> intro hb <;> (try simp only [brs] at hb) <;> conv => whnf) | omega | (refine And.intro ?_ ?_; ((try dsimp only); first | omega | (refine szA rfl ?_; omega) | (refine szB rfl ?_; omega) | (unfold inI64; omega) | exact rfl | (simp only [List.toList_toArray, List.length_cons, List.length_nil]; omega) | (simp only [lns] at *; omega) | decide | (unfold inI64; decide)); conv => whnf) | decide | assumption)
 · have hb1 := (cmpS_neg _ _).1 hb
   exact ⟨(M + 1, hi), ⟨⟨by omega, p2⟩, fun j hj => vehS_lt hs (show j ≤ M by omega) (by omega) hb1, p4⟩, by show hi - (M + 1) < hi - lo; omega, (by (refine Entails.mk' [] rfl rfl ?_ ?_ <;> repeat' (first | exact True.intro | exact lr | exact rr | exact SV.le_int (by omega) | exact SV.le_any _ | refine And.intro ?_ ?_)); done)⟩
 · have hb1 : Op.bytesLess (l.getD M veh0).key key = false := by
    rw [← Bool.not_eq_true, ← cmpS_neg]; omega
   refine ⟨(lo, M), ⟨⟨by omega, by omega⟩, p3, fun j h1 h2 => ?_⟩, by show M - lo < hi - lo; omega, (by (refine Entails.mk' [] rfl rfl ?_ ?_ <;> repeat' (first | exact True.intro | exact lr | exact rr | exact SV.le_int (by omega) | exact SV.le_any _ | refine And.intro ?_ ?_)); done)⟩
   rw [← Bool.not_eq_true]
   intro q
   rw [vehS_lt hs h1 h2 q] at hb1; cases hb1
 · refine .ret _ ?_
   conv => whnf
   refine ⟨[], ⟨⟨lo, decide (cmpS (l.getD lo veh0).key key = 0), rfl, ?_⟩, rfl⟩, trivial⟩
   by_cases q : (l.getD lo veh0).key = key
   · rw [if_pos (by rw [decide_eq_true_eq, cmpS_zeroF]; exact q), ← q]
     exact veIx_hit hs (by omega)
   · rw [if_neg (by rw [decide_eq_true_eq, cmpS_zeroF]; exact q)]
     have h0 := p4 lo (by omega) (by omega)
     have h1 := less_tri _ _ h0 q
     refine veIx_no fun i hi2 e => ?_
     rcases Nat.lt_trichotomy i lo with r | r | r
     · have := p3 i r; rw [e, less_irr] at this; cases this
     · subst r; exact q e
     · have := less_trans h1 (hs lo i r hi2); rw [e, less_irr] at this; cases this
 · refine .ret _ ?_
   conv => whnf
   refine ⟨[], ⟨⟨lo, false, rfl, ?_⟩, rfl⟩, trivial⟩
   rw [if_neg (by simp)]
   refine veIx_no fun i hi2 e => ?_
   have := p3 i (by omega)
   rw [e, less_irr] at this; cases this
def oUFlE80_8 : List (Nat × List Nat) := [(0, []), (1, []), (2, []), (3, []), (4, []), (5, [3, 4]), (6, [3, 4, 5]), (7, [3, 4, 5]), (8, [3, 4]), (9, [3, 4]), (10, [3, 4]), (11, []), (12, []), (13, [])]
def oUFlE80_22 : List (Nat × List Nat) := [(0, []), (1, [0]), (2, [0]), (4, [0, 1, 2]), (5, [0, 1, 2]), (3, [4, 5]), (6, [])]
set_option maxHeartbeats 2000000 in
theorem z175 (l : List Cls) (hk : clsOk l) : FSpec Tryz.prog 80 [.d (clss l)] [] (fun x r => x = .d (.int .i64 (clssE l)) ∧ r = []) := by
 have hlen := hk.1
 refine spec_of hT (C := []) Tryz.func80 rfl Tryz.call80 rfl rfl rfl ?_
 conv => whnf
 refine br_intro (fun h0 => ?_) (fun h0 => ?_)
 · simp at h0
   conv => whnf
   refine .ret _ ?_
   conv => whnf
   refine ⟨[], ⟨?_, rfl⟩, trivial⟩
   conv => lhs; whnf
   unfold clssE; rw [if_pos (by omega)]
 simp at h0
 conv => whnf
 refine LoopX.rule hT (C := []) (ι := Nat) (fun i => i ≤ l.length ∧ ∀ j, j < i → clsE1 l j = 0) (fun i => mkSt [(0, .d (clss l)), (12, .d (clss l)), (13, .d (.int .i64 l.length)), (14, .d (.int .i64 i))] []) (fun i => l.length - i) 0 ⟨by omega, by omega⟩ (by (refine Entails.mk' [] rfl rfl ?_ ?_ <;> repeat' (first | exact True.intro | exact lr | exact rr | exact SV.le_int (by omega) | exact SV.le_any _ | refine And.intro ?_ ?_)); done) ?_
 rintro i ⟨p1, p2⟩
 have hx : (i : Int) < l.length → (l.getD (i : Int).toNat cls0).key.length ≤ 2^40 ∧ (l.getD (i : Int).toNat cls0).up.length ≤ 2^40 := fun hi => hk.2 _ (getD_mem (by omega))
 have e1 : (i : Int).toNat = i := Int.toNat_natCast i
 have hbad : ∀ e : Int, i < l.length → e ≠ 0 → clsE1 l i = e → clssE l = e := fun e h h1 h2 => by
  unfold clssE; rw [if_neg (by omega), firstAt_eq h p2 h1 h2, firstE, if_neg h1]
 rcases Nat.lt_or_ge i l.length with hi | hi
 · conv => whnf
   repeat' (first | (refine CallX.exact (s108 _ (hx (by omega)).1) rfl rfl ?_; rotate_right; conv => whnf) | (refine CallX.exact (s108 _ (hx (by omega)).2) rfl rfl ?_; rotate_right; conv => whnf) | (refine br_intro ?_ ?_ <;> intro hb <;> (try simp only [brs] at hb) <;> conv => whnf) | (refine RegX.rule (id := 8) hT rfl [] oUFlE80_8 (by decide +kernel) ?_; conv => whnf) | (refine RegX.rule (id := 22) hT rfl [] oUFlE80_22 (by decide +kernel) ?_; conv => whnf) | omega | (refine And.intro ?_ ?_; ((try dsimp only); first | omega | (refine szA rfl ?_; omega) | (refine szB rfl ?_; omega) | (unfold inI64; omega) | exact rfl | (simp only [List.toList_toArray, List.length_cons, List.length_nil]; omega) | (simp only [lns] at *; omega) | decide | (unfold inI64; decide)); conv => whnf) | decide | assumption)
   all_goals try (exfalso; omega)
   all_goals first
    | (refine ⟨i + 1, ⟨by omega, first_step p2 (by clear p2 hbad hk hx; simp only [e1, toNat_pred] at *; unfold clsE1 strLe; grind)⟩, by omega, (by (refine Entails.mk' [] rfl rfl ?_ ?_ <;> repeat' (first | exact True.intro | exact lr | exact rr | exact SV.le_int (by omega) | exact SV.le_any _ | refine And.intro ?_ ?_)); done)⟩)
    | (refine .ret _ ?_
       conv => whnf
       refine ⟨[], ⟨?_, rfl⟩, trivial⟩
       conv => lhs; whnf
       congr 2
       exact (hbad _ (by omega) (by decide) (by clear p2 hbad hk hx; simp only [e1, toNat_pred] at *; unfold clsE1 strLe; grind)).symm)
 have hil : i = l.length := by omega
 subst hil
 have P1 := firstAt_zero p2
 clear hbad hx p2
 conv => whnf
 repeat' (first | (refine br_intro ?_ ?_ <;> intro hb <;> (try simp only [brs] at hb) <;> conv => whnf) | (refine RegX.rule (id := 8) hT rfl [] oUFlE80_8 (by decide +kernel) ?_; conv => whnf) | (refine RegX.rule (id := 22) hT rfl [] oUFlE80_22 (by decide +kernel) ?_; conv => whnf) | omega | (refine And.intro ?_ ?_; ((try dsimp only); first | omega | (refine szA rfl ?_; omega) | (refine szB rfl ?_; omega) | (unfold inI64; omega) | exact rfl | (simp only [List.toList_toArray, List.length_cons, List.length_nil]; omega) | (simp only [lns] at *; omega) | decide | (unfold inI64; decide)); conv => whnf) | decide | assumption)
 all_goals try (exfalso; omega)
 refine LoopX.rule hT (C := []) (ι := Nat) (fun i => i ≤ l.length ∧ ∀ j, j < i → clsE2 l j = 0) (fun i => mkSt [(0, .d (clss l)), (49, .d (clss l)), (50, .d (.int .i64 l.length)), (51, .d (.int .i64 i))] []) (fun i => l.length - i) 0 ⟨by omega, by omega⟩ (by (refine Entails.mk' [] rfl rfl ?_ ?_ <;> repeat' (first | exact True.intro | exact lr | exact rr | exact SV.le_int (by omega) | exact SV.le_any _ | refine And.intro ?_ ?_)); done) ?_
 rintro i ⟨p1, p2⟩
 have e1 : (i : Int).toNat = i := Int.toNat_natCast i
 have hbad : ∀ e : Int, i < l.length → e ≠ 0 → clsE2 l i = e → clssE l = e := fun e h h1 h2 => by
  unfold clssE; rw [if_neg (by omega), firstE, if_pos P1, firstE, firstAt_eq h p2 h1 h2, if_neg h1]
 rcases Nat.lt_or_ge i l.length with hi | hi
 · conv => whnf
   repeat' (first | (refine CallX.exact (z176 l (by omega) _) rfl rfl ?_; rotate_right; conv => whnf) | (refine br_intro ?_ ?_ <;> intro hb <;> (try simp only [brs] at hb) <;> conv => whnf) | (refine RegX.rule (id := 8) hT rfl [] oUFlE80_8 (by decide +kernel) ?_; conv => whnf) | (refine RegX.rule (id := 22) hT rfl [] oUFlE80_22 (by decide +kernel) ?_; conv => whnf) | omega | (refine And.intro ?_ ?_; ((try dsimp only); first | omega | (refine szA rfl ?_; omega) | (refine szB rfl ?_; omega) | (unfold inI64; omega) | exact rfl | (simp only [List.toList_toArray, List.length_cons, List.length_nil]; omega) | (simp only [lns] at *; omega) | decide | (unfold inI64; decide)); conv => whnf) | decide | assumption)
   all_goals try (exfalso; omega)
   all_goals first
    | (refine ⟨i + 1, ⟨by omega, first_step p2 (by clear p2 hbad hk; simp only [e1] at *; unfold clsE2; grind)⟩, by omega, (by (refine Entails.mk' [] rfl rfl ?_ ?_ <;> repeat' (first | exact True.intro | exact lr | exact rr | exact SV.le_int (by omega) | exact SV.le_any _ | refine And.intro ?_ ?_)); done)⟩)
    | (refine .ret _ ?_
       conv => whnf
       refine ⟨[], ⟨?_, rfl⟩, trivial⟩
       conv => lhs; whnf
       congr 2
       exact (hbad _ (by omega) (by decide) (by clear p2 hbad hk; simp only [e1] at *; unfold clsE2; grind)).symm)
 have hil : i = l.length := by omega
 subst hil
 have P2 := firstAt_zero p2
 have hu : upsOk l := fun c hc hn => by
  obtain ⟨j, hj, rfl⟩ := mem_getD (d := cls0) hc
  have := p2 j hj
  unfold clsE2 at this
  rcases Int.lt_or_le (clIx l (l.getD j cls0).up) 0 with q | q
  · rw [if_pos ⟨hn, q⟩] at this; cases this
  · exact q
 clear hbad p2
 conv => whnf
 repeat' (first | (refine br_intro ?_ ?_ <;> intro hb <;> (try simp only [brs] at hb) <;> conv => whnf) | (refine RegX.rule (id := 8) hT rfl [] oUFlE80_8 (by decide +kernel) ?_; conv => whnf) | (refine RegX.rule (id := 22) hT rfl [] oUFlE80_22 (by decide +kernel) ?_; conv => whnf) | omega | (refine And.intro ?_ ?_; ((try dsimp only); first | omega | (refine szA rfl ?_; omega) | (refine szB rfl ?_; omega) | (unfold inI64; omega) | exact rfl | (simp only [List.toList_toArray, List.length_cons, List.length_nil]; omega) | (simp only [lns] at *; omega) | decide | (unfold inI64; decide)); conv => whnf) | decide | assumption)
 all_goals try (exfalso; omega)
 refine LoopX.rule hT (C := []) (ι := Nat) (fun i => i ≤ l.length ∧ ∀ j, j < i → clsE3 l j = 0) (fun i => mkSt [(0, .d (clss l)), (66, .d (clss l)), (67, .d (.int .i64 l.length)), (68, .d (.int .i64 i))] []) (fun i => l.length - i) 0 ⟨by omega, by omega⟩ (by (refine Entails.mk' [] rfl rfl ?_ ?_ <;> repeat' (first | exact True.intro | exact lr | exact rr | exact SV.le_int (by omega) | exact SV.le_any _ | refine And.intro ?_ ?_)); done) ?_
 rintro i ⟨p1, p2⟩
 have e1 : (i : Int).toNat = i := Int.toNat_natCast i
 have hbad : ∀ e : Int, i < l.length → e ≠ 0 → clsE3 l i = e → clssE l = e := fun e h h1 h2 => by
  unfold clssE; rw [if_neg (by omega), firstE, if_pos P1, firstE, if_pos P2, firstE, firstAt_eq h p2 h1 h2, if_neg h1]
 rcases Nat.lt_or_ge i l.length with hi | hi
 · have hin := clIx_pos (l := l) (c := l.getD (i : Int).toNat cls0) (getD_mem (by omega))
   have hal := abv_len l l.length (l.getD (i : Int).toNat cls0).key
   have hlo := loop_eq hu hin
   conv => whnf
   repeat' (first | (refine CallX.exact (z241 l hlen hu _ hin) rfl rfl ?_; rotate_right; conv => whnf) | (refine CallX.exact (z153 _ (by omega) _) rfl rfl ?_; rotate_right; conv => whnf) | (refine br_intro ?_ ?_ <;> intro hb <;> (try simp only [brs] at hb) <;> conv => whnf) | (refine RegX.rule (id := 8) hT rfl [] oUFlE80_8 (by decide +kernel) ?_; conv => whnf) | (refine RegX.rule (id := 22) hT rfl [] oUFlE80_22 (by decide +kernel) ?_; conv => whnf) | omega | (refine And.intro ?_ ?_; ((try dsimp only); first | omega | (refine szA rfl ?_; omega) | (refine szB rfl ?_; omega) | (unfold inI64; omega) | exact rfl | (simp only [List.toList_toArray, List.length_cons, List.length_nil]; omega) | (simp only [lns] at *; omega) | decide | (unfold inI64; decide)); conv => whnf) | decide | assumption)
   all_goals try (exfalso; omega)
   all_goals first
    | (refine ⟨i + 1, ⟨by omega, first_step p2 (by clear p2 hbad hk; simp only [e1] at *; unfold clsE3; grind)⟩, by omega, (by (refine Entails.mk' [] rfl rfl ?_ ?_ <;> repeat' (first | exact True.intro | exact lr | exact rr | exact SV.le_int (by omega) | exact SV.le_any _ | refine And.intro ?_ ?_)); done)⟩)
    | (refine .ret _ ?_
       conv => whnf
       refine ⟨[], ⟨?_, rfl⟩, trivial⟩
       conv => lhs; whnf
       congr 2
       exact (hbad _ (by omega) (by decide) (by clear p2 hbad hk; simp only [e1] at *; unfold clsE3; grind)).symm)
 have hil : i = l.length := by omega
 subst hil
 have P3 := firstAt_zero p2
 conv => whnf
 repeat' (first | (refine br_intro ?_ ?_ <;> intro hb <;> (try simp only [brs] at hb) <;> conv => whnf) | (refine RegX.rule (id := 8) hT rfl [] oUFlE80_8 (by decide +kernel) ?_; conv => whnf) | (refine RegX.rule (id := 22) hT rfl [] oUFlE80_22 (by decide +kernel) ?_; conv => whnf) | omega | (refine And.intro ?_ ?_; ((try dsimp only); first | omega | (refine szA rfl ?_; omega) | (refine szB rfl ?_; omega) | (unfold inI64; omega) | exact rfl | (simp only [List.toList_toArray, List.length_cons, List.length_nil]; omega) | (simp only [lns] at *; omega) | decide | (unfold inI64; decide)); conv => whnf) | decide | assumption)
 all_goals try (exfalso; omega)
 refine .ret _ ?_
 conv => whnf
 refine ⟨[], ⟨?_, rfl⟩, trivial⟩
 conv => lhs; whnf
 unfold clssE
 rw [if_neg (by omega), firstE, if_pos P1, firstE, if_pos P2, firstE, if_pos P3]
 rfl
def oUFlF90_24 : List (Nat × List Nat) := [(0, []), (1, [0]), (2, [0]), (4, [0, 1, 2]), (5, [0, 1, 2]), (3, [4, 5]), (6, [])]
set_option maxHeartbeats 2000000 in
theorem z83 (l : List Cls) (hk : clsOk l) : FSpec Tryz.prog 90 [.d (clss l)] [] (fun x r => x = .d (.int .i64 (clssE l)) ∧ r = []) := by
 have hlen := hk.1
 refine spec_of hT (C := []) Tryz.func90 rfl Tryz.call90 rfl rfl rfl ?_
 conv => whnf
 refine br_intro (fun h0 => ?_) (fun h0 => ?_)
 · simp at h0
   conv => whnf
   refine .ret _ ?_
   conv => whnf
   refine ⟨[], ⟨?_, rfl⟩, trivial⟩
   conv => lhs; whnf
   unfold clssE; rw [if_pos (by omega)]
 simp at h0
 conv => whnf
 refine LoopX.rule hT (C := []) (ι := Nat) (fun i => i ≤ l.length ∧ ∀ j, j < i → clsE1 l j = 0) (fun i => mkSt [(0, .d (clss l)), (3, .d (.str (if i = 0 then [] else (l.getD (i - 1) cls0).key))), (13, .d (clss l)), (14, .d (.int .i64 l.length)), (15, .d (.int .i64 i))] []) (fun i => l.length - i) 0 ⟨by omega, by omega⟩ (by (refine Entails.mk' [] rfl rfl ?_ ?_ <;> repeat' (first | exact True.intro | exact lr | exact rr | exact SV.le_int (by omega) | exact SV.le_any _ | refine And.intro ?_ ?_)); done) ?_
 rintro i ⟨p1, p2⟩
 have hx : (i : Int) < l.length → (l.getD (i : Int).toNat cls0).key.length ≤ 2^40 ∧ (l.getD (i : Int).toNat cls0).up.length ≤ 2^40 := fun hi => hk.2 _ (getD_mem (by omega))
 have e1 : (i : Int).toNat = i := Int.toNat_natCast i
 have hbad : ∀ e : Int, i < l.length → e ≠ 0 → clsE1 l i = e → clssE l = e := fun e h h1 h2 => by
  unfold clssE; rw [if_neg (by omega), firstAt_eq h p2 h1 h2, firstE, if_neg h1]
 rcases Nat.lt_or_ge i l.length with hi | hi
 · conv => whnf
   repeat' (first | (refine CallX.exact (s21 _ (hx (by omega)).1) rfl rfl ?_; rotate_right; conv => whnf) | (refine CallX.exact (s21 _ (hx (by omega)).2) rfl rfl ?_; rotate_right; conv => whnf) | (refine br_intro ?_ ?_ <;> intro hb <;> (try simp only [brs] at hb) <;> conv => whnf) | (refine RegX.rule (id := 24) hT rfl [] oUFlF90_24 (by decide +kernel) ?_; conv => whnf) | omega | (refine And.intro ?_ ?_; ((try dsimp only); first | omega | (refine szA rfl ?_; omega) | (refine szB rfl ?_; omega) | (unfold inI64; omega) | exact rfl | (simp only [List.toList_toArray, List.length_cons, List.length_nil]; omega) | (simp only [lns] at *; omega) | decide | (unfold inI64; decide)); conv => whnf) | decide | assumption)
   all_goals try (exfalso; omega)
   all_goals first
    | (refine ⟨i + 1, ⟨by omega, first_step p2 (by clear p2 hbad hk hx; simp only [e1, toNat_pred] at *; unfold clsE1 strLe; grind)⟩, by omega, Entails.mk' [] rfl rfl ⟨lr, (by rw [show (if i + 1 = 0 then ([] : List UInt8) else (l.getD (i + 1 - 1) cls0).key) = (l.getD (i : Int).toNat cls0).key from by rw [if_neg (by omega), e1, Nat.add_sub_cancel]]; exact lr), lr, lr, lr, trivial⟩ trivial⟩)
    | (refine .ret _ ?_
       conv => whnf
       refine ⟨[], ⟨?_, rfl⟩, trivial⟩
       conv => lhs; whnf
       congr 2
       exact (hbad _ (by omega) (by decide) (by clear p2 hbad hk hx; simp only [e1, toNat_pred] at *; unfold clsE1 strLe; grind[isKey_nil, less_nil])).symm)
 have hil : i = l.length := by omega
 subst hil
 have P1 := firstAt_zero p2
 clear hbad hx p2
 conv => whnf
 repeat' (first | (refine br_intro ?_ ?_ <;> intro hb <;> (try simp only [brs] at hb) <;> conv => whnf) | (refine RegX.rule (id := 24) hT rfl [] oUFlF90_24 (by decide +kernel) ?_; conv => whnf) | omega | (refine And.intro ?_ ?_; ((try dsimp only); first | omega | (refine szA rfl ?_; omega) | (refine szB rfl ?_; omega) | (unfold inI64; omega) | exact rfl | (simp only [List.toList_toArray, List.length_cons, List.length_nil]; omega) | (simp only [lns] at *; omega) | decide | (unfold inI64; decide)); conv => whnf) | decide | assumption)
 all_goals try (exfalso; omega)
 refine LoopX.rule hT (C := []) (ι := Nat) (fun i => i ≤ l.length ∧ ∀ j, j < i → clsE2 l j = 0) (fun i => mkSt [(0, .d (clss l)), (42, .d (clss l)), (43, .d (.int .i64 l.length)), (44, .d (.int .i64 i))] []) (fun i => l.length - i) 0 ⟨by omega, by omega⟩ (by (refine Entails.mk' [] rfl rfl ?_ ?_ <;> repeat' (first | exact True.intro | exact lr | exact rr | exact SV.le_int (by omega) | exact SV.le_any _ | refine And.intro ?_ ?_)); done) ?_
 rintro i ⟨p1, p2⟩
 have e1 : (i : Int).toNat = i := Int.toNat_natCast i
 have hbad : ∀ e : Int, i < l.length → e ≠ 0 → clsE2 l i = e → clssE l = e := fun e h h1 h2 => by
  unfold clssE; rw [if_neg (by omega), firstE, if_pos P1, firstE, firstAt_eq h p2 h1 h2, if_neg h1]
 rcases Nat.lt_or_ge i l.length with hi | hi
 · conv => whnf
   repeat' (first | (refine CallX.exact (z84 l (by omega) _) rfl rfl ?_; rotate_right; conv => whnf) | (refine br_intro ?_ ?_ <;> intro hb <;> (try simp only [brs] at hb) <;> conv => whnf) | (refine RegX.rule (id := 24) hT rfl [] oUFlF90_24 (by decide +kernel) ?_; conv => whnf) | omega | (refine And.intro ?_ ?_; ((try dsimp only); first | omega | (refine szA rfl ?_; omega) | (refine szB rfl ?_; omega) | (unfold inI64; omega) | exact rfl | (simp only [List.toList_toArray, List.length_cons, List.length_nil]; omega) | (simp only [lns] at *; omega) | decide | (unfold inI64; decide)); conv => whnf) | decide | assumption)
   all_goals try (exfalso; omega)
   all_goals first
    | (refine ⟨i + 1, ⟨by omega, first_step p2 (by clear p2 hbad hk; simp only [e1] at *; unfold clsE2; grind)⟩, by omega, (by (refine Entails.mk' [] rfl rfl ?_ ?_ <;> repeat' (first | exact True.intro | exact lr | exact rr | exact SV.le_int (by omega) | exact SV.le_any _ | refine And.intro ?_ ?_)); done)⟩)
    | (refine .ret _ ?_
       conv => whnf
       refine ⟨[], ⟨?_, rfl⟩, trivial⟩
       conv => lhs; whnf
       congr 2
       exact (hbad _ (by omega) (by decide) (by clear p2 hbad hk; simp only [e1] at *; unfold clsE2; grind)).symm)
 have hil : i = l.length := by omega
 subst hil
 have P2 := firstAt_zero p2
 have hu : upsOk l := fun c hc hn => by
  obtain ⟨j, hj, rfl⟩ := mem_getD (d := cls0) hc
  have := p2 j hj
  unfold clsE2 at this
  rcases Int.lt_or_le (clIx l (l.getD j cls0).up) 0 with q | q
  · rw [if_pos ⟨hn, q⟩] at this; cases this
  · exact q
 clear hbad p2
 conv => whnf
 repeat' (first | (refine br_intro ?_ ?_ <;> intro hb <;> (try simp only [brs] at hb) <;> conv => whnf) | (refine RegX.rule (id := 24) hT rfl [] oUFlF90_24 (by decide +kernel) ?_; conv => whnf) | omega | (refine And.intro ?_ ?_; ((try dsimp only); first | omega | (refine szA rfl ?_; omega) | (refine szB rfl ?_; omega) | (unfold inI64; omega) | exact rfl | (simp only [List.toList_toArray, List.length_cons, List.length_nil]; omega) | (simp only [lns] at *; omega) | decide | (unfold inI64; decide)); conv => whnf) | decide | assumption)
 all_goals try (exfalso; omega)
 refine LoopX.rule hT (C := []) (ι := Nat) (fun i => i ≤ l.length ∧ ∀ j, j < i → clsE3 l j = 0) (fun i => mkSt [(0, .d (clss l)), (59, .d (clss l)), (60, .d (.int .i64 l.length)), (61, .d (.int .i64 i))] []) (fun i => l.length - i) 0 ⟨by omega, by omega⟩ (by (refine Entails.mk' [] rfl rfl ?_ ?_ <;> repeat' (first | exact True.intro | exact lr | exact rr | exact SV.le_int (by omega) | exact SV.le_any _ | refine And.intro ?_ ?_)); done) ?_
 rintro i ⟨p1, p2⟩
 have e1 : (i : Int).toNat = i := Int.toNat_natCast i
 have hbad : ∀ e : Int, i < l.length → e ≠ 0 → clsE3 l i = e → clssE l = e := fun e h h1 h2 => by
  unfold clssE; rw [if_neg (by omega), firstE, if_pos P1, firstE, if_pos P2, firstE, firstAt_eq h p2 h1 h2, if_neg h1]
 rcases Nat.lt_or_ge i l.length with hi | hi
 · have hin := clIx_pos (l := l) (c := l.getD (i : Int).toNat cls0) (getD_mem (by omega))
   have hal := abv_len l (l.length + 1) (l.getD (i : Int).toNat cls0).key
   have hlo := loop_eq hu hin
   conv => whnf
   repeat' (first | (refine CallX.exact (z154 l hlen hu _ hin) rfl rfl ?_; rotate_right; conv => whnf) | (refine CallX.exact (z153 _ (by omega) _) rfl rfl ?_; rotate_right; conv => whnf) | (refine br_intro ?_ ?_ <;> intro hb <;> (try simp only [brs] at hb) <;> conv => whnf) | (refine RegX.rule (id := 24) hT rfl [] oUFlF90_24 (by decide +kernel) ?_; conv => whnf) | omega | (refine And.intro ?_ ?_; ((try dsimp only); first | omega | (refine szA rfl ?_; omega) | (refine szB rfl ?_; omega) | (unfold inI64; omega) | exact rfl | (simp only [List.toList_toArray, List.length_cons, List.length_nil]; omega) | (simp only [lns] at *; omega) | decide | (unfold inI64; decide)); conv => whnf) | decide | assumption)
   all_goals try (exfalso; omega)
   all_goals first
    | (refine ⟨i + 1, ⟨by omega, first_step p2 (by clear p2 hbad hk; simp only [e1] at *; unfold clsE3; grind)⟩, by omega, (by (refine Entails.mk' [] rfl rfl ?_ ?_ <;> repeat' (first | exact True.intro | exact lr | exact rr | exact SV.le_int (by omega) | exact SV.le_any _ | refine And.intro ?_ ?_)); done)⟩)
    | (refine .ret _ ?_
       conv => whnf
       refine ⟨[], ⟨?_, rfl⟩, trivial⟩
       conv => lhs; whnf
       congr 2
       exact (hbad _ (by omega) (by decide) (by clear p2 hbad hk; simp only [e1] at *; unfold clsE3; grind)).symm)
 have hil : i = l.length := by omega
 subst hil
 have P3 := firstAt_zero p2
 conv => whnf
 repeat' (first | (refine br_intro ?_ ?_ <;> intro hb <;> (try simp only [brs] at hb) <;> conv => whnf) | (refine RegX.rule (id := 24) hT rfl [] oUFlF90_24 (by decide +kernel) ?_; conv => whnf) | omega | (refine And.intro ?_ ?_; ((try dsimp only); first | omega | (refine szA rfl ?_; omega) | (refine szB rfl ?_; omega) | (unfold inI64; omega) | exact rfl | (simp only [List.toList_toArray, List.length_cons, List.length_nil]; omega) | (simp only [lns] at *; omega) | decide | (unfold inI64; decide)); conv => whnf) | decide | assumption)
 all_goals try (exfalso; omega)
 refine .ret _ ?_
 conv => whnf
 refine ⟨[], ⟨?_, rfl⟩, trivial⟩
 conv => lhs; whnf
 unfold clssE
 rw [if_neg (by omega), firstE, if_pos P1, firstE, if_pos P2, firstE, if_pos P3]
 rfl
def oUFlG79_8 : List (Nat × List Nat) := [(0, []), (1, []), (2, []), (3, []), (4, []), (5, [3, 4]), (6, [3, 4, 5]), (7, [3, 4, 5]), (8, [3, 4]), (9, [3, 4]), (10, [3, 4]), (11, []), (12, []), (13, [])]
def okW (s : Sta) (k : Nat) : Bool := decide ((0 ≤ s.h (2 * k) ∧ s.h (2 * k) ≤ s.h (2 * k + 1)) ∧ s.h (2 * k + 1) ≤ 1440)
def hrs (s : Sta) : Bool := (List.range 7).all (okW s)
theorem hrs_yes {s : Sta} (h : ∀ j, j < 7 → okW s j = true) : hrs s = true := by
 unfold hrs; rw [List.all_eq_true]; intro j hj; exact h j (List.mem_range.1 hj)
theorem hrs_no {s : Sta} {j : Nat} (hj : j < 7) (h : okW s j = false) : hrs s = false := by
 unfold hrs; rw [List.all_eq_false]; exact ⟨j, List.mem_range.2 hj, by simp [h]⟩
def stnE (l : List Sta) (i : Nat) : Int :=
 if isKeyB (l.getD i sta0).key = false then 5 else if 0 < i ∧ strLe (l.getD i sta0).key (l.getD (i - 1) sta0).key = true then 7 else if hrs (l.getD i sta0) = false then 1 else 0
def stasE (l : List Sta) : Int := if 50 < l.length then 2 else firstAt (stnE l) l.length
def stasOk (l : List Sta) : Prop := l.length ≤ 2^20 ∧ ∀ c ∈ l, c.key.length ≤ 2^40
set_option maxHeartbeats 4000000 in
theorem z174 (l : List Sta) (hk : stasOk l) : FSpec Tryz.prog 79 [.d (stas l)] [] (fun x r => x = .d (.int .i64 (stasE l)) ∧ r = []) := by
 have hlen := hk.1
 refine spec_of hT (C := []) Tryz.func79 rfl Tryz.call79 rfl rfl rfl ?_
 conv => whnf
 refine br_intro (fun h0 => ?_) (fun h0 => ?_)
 · simp at h0
   conv => whnf
   refine .ret _ ?_
   conv => whnf
   refine ⟨[], ⟨?_, rfl⟩, trivial⟩
   conv => lhs; whnf
   unfold stasE; rw [if_pos (by omega)]
 simp at h0
 conv => whnf
 refine LoopX.rule hT (C := []) (ι := Nat) (fun i => i ≤ l.length ∧ ∀ j, j < i → stnE l j = 0) (fun i => mkSt [(0, .d (stas l)), (10, .d (stas l)), (11, .d (.int .i64 l.length)), (12, .d (.int .i64 i))] []) (fun i => l.length - i) 0 ⟨by omega, by omega⟩ (by (refine Entails.mk' [] rfl rfl ?_ ?_ <;> repeat' (first | exact True.intro | exact lr | exact rr | exact SV.le_int (by omega) | exact SV.le_any _ | refine And.intro ?_ ?_)); done) ?_
 rintro i ⟨p1, p2⟩
 have hx : (i : Int) < l.length → (l.getD (i : Int).toNat sta0).key.length ≤ 2^40 := fun hi => hk.2 _ (getD_mem (by omega))
 have e1 : (i : Int).toNat = i := Int.toNat_natCast i
 have hbad : ∀ e : Int, i < l.length → e ≠ 0 → stnE l i = e → stasE l = e := fun e h h1 h2 => by
  unfold stasE; rw [if_neg (by omega)]
  exact firstAt_eq h p2 h1 h2
 rcases Nat.lt_or_ge i l.length with hi | hi
 · obtain ⟨s, hs⟩ : ∃ s, s = l.getD (i : Int).toNat sta0 := ⟨_, rfl⟩
   conv => whnf
   repeat' (first | (refine CallX.exact (s108 _ (hx (by omega))) rfl rfl ?_; rotate_right; conv => whnf) | (refine br_intro ?_ ?_ <;> intro hb <;> (try simp only [brs] at hb) <;> conv => whnf) | (refine RegX.rule (id := 8) hT rfl [] oUFlG79_8 (by decide +kernel) ?_; conv => whnf) | omega | (refine And.intro ?_ ?_; ((try dsimp only); first | omega | (refine szA rfl ?_; omega) | (refine szB rfl ?_; omega) | (unfold inI64; omega) | exact rfl | (simp only [List.toList_toArray, List.length_cons, List.length_nil]; omega) | (simp only [lns] at *; omega) | decide | (unfold inI64; decide)); conv => whnf) | decide | assumption)
   all_goals try (exfalso; omega)
   all_goals first
    | (refine .ret _ ?_
       conv => whnf
       refine ⟨[], ⟨?_, rfl⟩, trivial⟩
       conv => lhs; whnf
       congr 2
       exact (hbad _ (by omega) (by decide) (by clear p2 hbad hk hx; simp only [e1, toNat_pred] at *; unfold stnE strLe; grind)).symm)
    | (have hok : stnE l i = if hrs s = false then 1 else 0 := by
        clear p2 hbad hk hx; simp only [e1, toNat_pred] at *; subst hs; unfold stnE strLe; grind
       refine LoopX.rule hT (C := []) (ι := Nat) (fun k => k ≤ 7 ∧ ∀ j, j < k → okW s j = true) (fun k => mkSt [(0, .d (stas l)), (10, .d (stas l)), (11, .d (.int .i64 l.length)), (12, .d (.int .i64 i)), (37, .agg (((staF s).drop 1).map .d)), (38, .d (.int .i64 k))] []) (fun k => 7 - k) 0 ⟨by omega, by omega⟩ (by rw [hs]; exact (by (refine Entails.mk' [] rfl rfl ?_ ?_ <;> repeat' (first | exact True.intro | exact lr | exact rr | exact SV.le_int (by omega) | exact SV.le_any _ | refine And.intro ?_ ?_)); done)) ?_
       rintro k ⟨q1, q2⟩
       have hkk : k = 7 ∨ k = 0 ∨ k = 1 ∨ k = 2 ∨ k = 3 ∨ k = 4 ∨ k = 5 ∨ k = 6 := by omega
       rcases hkk with rfl | rfl | rfl | rfl | rfl | rfl | rfl | rfl
       · rw [hrs_yes q2] at hok
         conv => whnf
         repeat' (first | (refine br_intro ?_ ?_ <;> intro hb <;> (try simp only [brs] at hb) <;> conv => whnf) | (refine RegX.rule (id := 8) hT rfl [] oUFlG79_8 (by decide +kernel) ?_; conv => whnf) | omega | (refine And.intro ?_ ?_; ((try dsimp only); first | omega | (refine szA rfl ?_; omega) | (refine szB rfl ?_; omega) | (unfold inI64; omega) | exact rfl | (simp only [List.toList_toArray, List.length_cons, List.length_nil]; omega) | (simp only [lns] at *; omega) | decide | (unfold inI64; decide)); conv => whnf) | decide | assumption)
         exact ⟨i + 1, ⟨by omega, first_step p2 (by rw [hok]; rfl)⟩, by omega, (by (refine Entails.mk' [] rfl rfl ?_ ?_ <;> repeat' (first | exact True.intro | exact lr | exact rr | exact SV.le_int (by omega) | exact SV.le_any _ | refine And.intro ?_ ?_)); done)⟩
       · conv => whnf
         repeat' (first | (refine CallX.exact (s119 _ _ _) rfl rfl ?_; rotate_right; conv => whnf) | (refine br_intro ?_ ?_ <;> intro hb <;> (try simp only [brs] at hb) <;> conv => whnf) | (refine RegX.rule (id := 8) hT rfl [] oUFlG79_8 (by decide +kernel) ?_; conv => whnf) | omega | (refine And.intro ?_ ?_; ((try dsimp only); first | omega | (refine szA rfl ?_; omega) | (refine szB rfl ?_; omega) | (unfold inI64; omega) | exact rfl | (simp only [List.toList_toArray, List.length_cons, List.length_nil]; omega) | (simp only [lns] at *; omega) | decide | (unfold inI64; decide)); conv => whnf) | decide | assumption)
         all_goals first
          | (refine .ret _ ?_
             conv => whnf
             refine ⟨[], ⟨?_, rfl⟩, trivial⟩
             conv => lhs; whnf
             congr 2
             exact (hbad _ (by omega) (by decide) (by rw [hok, hrs_no (j := 0) (by omega) (by show decide ((0 ≤ s.h 0 ∧ s.h 0 ≤ s.h 1) ∧ s.h 1 ≤ 1440) = false; rw [decide_eq_false_iff_not]; omega)]; rfl)).symm)
          | exact ⟨1, ⟨by omega, all_step (p := fun j => okW s j = true) (i := 0) q2 (by show decide ((0 ≤ s.h 0 ∧ s.h 0 ≤ s.h 1) ∧ s.h 1 ≤ 1440) = true; rw [decide_eq_true_eq]; omega)⟩, by omega, (by (refine Entails.mk' [] rfl rfl ?_ ?_ <;> repeat' (first | exact True.intro | exact lr | exact rr | exact SV.le_int (by omega) | exact SV.le_any _ | refine And.intro ?_ ?_)); done)⟩
       · conv => whnf
         repeat' (first | (refine CallX.exact (s119 _ _ _) rfl rfl ?_; rotate_right; conv => whnf) | (refine br_intro ?_ ?_ <;> intro hb <;> (try simp only [brs] at hb) <;> conv => whnf) | (refine RegX.rule (id := 8) hT rfl [] oUFlG79_8 (by decide +kernel) ?_; conv => whnf) | omega | (refine And.intro ?_ ?_; ((try dsimp only); first | omega | (refine szA rfl ?_; omega) | (refine szB rfl ?_; omega) | (unfold inI64; omega) | exact rfl | (simp only [List.toList_toArray, List.length_cons, List.length_nil]; omega) | (simp only [lns] at *; omega) | decide | (unfold inI64; decide)); conv => whnf) | decide | assumption)
         all_goals first
          | (refine .ret _ ?_
             conv => whnf
             refine ⟨[], ⟨?_, rfl⟩, trivial⟩
             conv => lhs; whnf
             congr 2
             exact (hbad _ (by omega) (by decide) (by rw [hok, hrs_no (j := 1) (by omega) (by show decide ((0 ≤ s.h 2 ∧ s.h 2 ≤ s.h 3) ∧ s.h 3 ≤ 1440) = false; rw [decide_eq_false_iff_not]; omega)]; rfl)).symm)
          | exact ⟨2, ⟨by omega, all_step (p := fun j => okW s j = true) (i := 1) q2 (by show decide ((0 ≤ s.h 2 ∧ s.h 2 ≤ s.h 3) ∧ s.h 3 ≤ 1440) = true; rw [decide_eq_true_eq]; omega)⟩, by omega, (by (refine Entails.mk' [] rfl rfl ?_ ?_ <;> repeat' (first | exact True.intro | exact lr | exact rr | exact SV.le_int (by omega) | exact SV.le_any _ | refine And.intro ?_ ?_)); done)⟩
       · conv => whnf
         repeat' (first | (refine CallX.exact (s119 _ _ _) rfl rfl ?_; rotate_right; conv => whnf) | (refine br_intro ?_ ?_ <;> intro hb <;> (try simp only [brs] at hb) <;> conv => whnf) | (refine RegX.rule (id := 8) hT rfl [] oUFlG79_8 (by decide +kernel) ?_; conv => whnf) | omega | (refine And.intro ?_ ?_; ((try dsimp only); first | omega | (refine szA rfl ?_; omega) | (refine szB rfl ?_; omega) | (unfold inI64; omega) | exact rfl | (simp only [List.toList_toArray, List.length_cons, List.length_nil]; omega) | (simp only [lns] at *; omega) | decide | (unfold inI64; decide)); conv => whnf) | decide | assumption)
         all_goals first
          | (refine .ret _ ?_
             conv => whnf
             refine ⟨[], ⟨?_, rfl⟩, trivial⟩
             conv => lhs; whnf
             congr 2
             exact (hbad _ (by omega) (by decide) (by rw [hok, hrs_no (j := 2) (by omega) (by show decide ((0 ≤ s.h 4 ∧ s.h 4 ≤ s.h 5) ∧ s.h 5 ≤ 1440) = false; rw [decide_eq_false_iff_not]; omega)]; rfl)).symm)
          | exact ⟨3, ⟨by omega, all_step (p := fun j => okW s j = true) (i := 2) q2 (by show decide ((0 ≤ s.h 4 ∧ s.h 4 ≤ s.h 5) ∧ s.h 5 ≤ 1440) = true; rw [decide_eq_true_eq]; omega)⟩, by omega, (by (refine Entails.mk' [] rfl rfl ?_ ?_ <;> repeat' (first | exact True.intro | exact lr | exact rr | exact SV.le_int (by omega) | exact SV.le_any _ | refine And.intro ?_ ?_)); done)⟩
       · conv => whnf
         repeat' (first | (refine CallX.exact (s119 _ _ _) rfl rfl ?_; rotate_right; conv => whnf) | (refine br_intro ?_ ?_ <;> intro hb <;> (try simp only [brs] at hb) <;> conv => whnf) | (refine RegX.rule (id := 8) hT rfl [] oUFlG79_8 (by decide +kernel) ?_; conv => whnf) | omega | (refine And.intro ?_ ?_; ((try dsimp only); first | omega | (refine szA rfl ?_; omega) | (refine szB rfl ?_; omega) | (unfold inI64; omega) | exact rfl | (simp only [List.toList_toArray, List.length_cons, List.length_nil]; omega) | (simp only [lns] at *; omega) | decide | (unfold inI64; decide)); conv => whnf) | decide | assumption)
         all_goals first
          | (refine .ret _ ?_
             conv => whnf
             refine ⟨[], ⟨?_, rfl⟩, trivial⟩
             conv => lhs; whnf
             congr 2
             exact (hbad _ (by omega) (by decide) (by rw [hok, hrs_no (j := 3) (by omega) (by show decide ((0 ≤ s.h 6 ∧ s.h 6 ≤ s.h 7) ∧ s.h 7 ≤ 1440) = false; rw [decide_eq_false_iff_not]; omega)]; rfl)).symm)
          | exact ⟨4, ⟨by omega, all_step (p := fun j => okW s j = true) (i := 3) q2 (by show decide ((0 ≤ s.h 6 ∧ s.h 6 ≤ s.h 7) ∧ s.h 7 ≤ 1440) = true; rw [decide_eq_true_eq]; omega)⟩, by omega, (by (refine Entails.mk' [] rfl rfl ?_ ?_ <;> repeat' (first | exact True.intro | exact lr | exact rr | exact SV.le_int (by omega) | exact SV.le_any _ | refine And.intro ?_ ?_)); done)⟩
       · conv => whnf
         repeat' (first | (refine CallX.exact (s119 _ _ _) rfl rfl ?_; rotate_right; conv => whnf) | (refine br_intro ?_ ?_ <;> intro hb <;> (try simp only [brs] at hb) <;> conv => whnf) | (refine RegX.rule (id := 8) hT rfl [] oUFlG79_8 (by decide +kernel) ?_; conv => whnf) | omega | (refine And.intro ?_ ?_; ((try dsimp only); first | omega | (refine szA rfl ?_; omega) | (refine szB rfl ?_; omega) | (unfold inI64; omega) | exact rfl | (simp only [List.toList_toArray, List.length_cons, List.length_nil]; omega) | (simp only [lns] at *; omega) | decide | (unfold inI64; decide)); conv => whnf) | decide | assumption)
         all_goals first
          | (refine .ret _ ?_
             conv => whnf
             refine ⟨[], ⟨?_, rfl⟩, trivial⟩
             conv => lhs; whnf
             congr 2
             exact (hbad _ (by omega) (by decide) (by rw [hok, hrs_no (j := 4) (by omega) (by show decide ((0 ≤ s.h 8 ∧ s.h 8 ≤ s.h 9) ∧ s.h 9 ≤ 1440) = false; rw [decide_eq_false_iff_not]; omega)]; rfl)).symm)
          | exact ⟨5, ⟨by omega, all_step (p := fun j => okW s j = true) (i := 4) q2 (by show decide ((0 ≤ s.h 8 ∧ s.h 8 ≤ s.h 9) ∧ s.h 9 ≤ 1440) = true; rw [decide_eq_true_eq]; omega)⟩, by omega, (by (refine Entails.mk' [] rfl rfl ?_ ?_ <;> repeat' (first | exact True.intro | exact lr | exact rr | exact SV.le_int (by omega) | exact SV.le_any _ | refine And.intro ?_ ?_)); done)⟩
       · conv => whnf
         repeat' (first | (refine CallX.exact (s119 _ _ _) rfl rfl ?_; rotate_right; conv => whnf) | (refine br_intro ?_ ?_ <;> intro hb <;> (try simp only [brs] at hb) <;> conv => whnf) | (refine RegX.rule (id := 8) hT rfl [] oUFlG79_8 (by decide +kernel) ?_; conv => whnf) | omega | (refine And.intro ?_ ?_; ((try dsimp only); first | omega | (refine szA rfl ?_; omega) | (refine szB rfl ?_; omega) | (unfold inI64; omega) | exact rfl | (simp only [List.toList_toArray, List.length_cons, List.length_nil]; omega) | (simp only [lns] at *; omega) | decide | (unfold inI64; decide)); conv => whnf) | decide | assumption)
         all_goals first
          | (refine .ret _ ?_
             conv => whnf
             refine ⟨[], ⟨?_, rfl⟩, trivial⟩
             conv => lhs; whnf
             congr 2
             exact (hbad _ (by omega) (by decide) (by rw [hok, hrs_no (j := 5) (by omega) (by show decide ((0 ≤ s.h 10 ∧ s.h 10 ≤ s.h 11) ∧ s.h 11 ≤ 1440) = false; rw [decide_eq_false_iff_not]; omega)]; rfl)).symm)
          | exact ⟨6, ⟨by omega, all_step (p := fun j => okW s j = true) (i := 5) q2 (by show decide ((0 ≤ s.h 10 ∧ s.h 10 ≤ s.h 11) ∧ s.h 11 ≤ 1440) = true; rw [decide_eq_true_eq]; omega)⟩, by omega, (by (refine Entails.mk' [] rfl rfl ?_ ?_ <;> repeat' (first | exact True.intro | exact lr | exact rr | exact SV.le_int (by omega) | exact SV.le_any _ | refine And.intro ?_ ?_)); done)⟩
       · conv => whnf
         repeat' (first | (refine CallX.exact (s119 _ _ _) rfl rfl ?_; rotate_right; conv => whnf) | (refine br_intro ?_ ?_ <;> intro hb <;> (try simp only [brs] at hb) <;> conv => whnf) | (refine RegX.rule (id := 8) hT rfl [] oUFlG79_8 (by decide +kernel) ?_; conv => whnf) | omega | (refine And.intro ?_ ?_; ((try dsimp only); first | omega | (refine szA rfl ?_; omega) | (refine szB rfl ?_; omega) | (unfold inI64; omega) | exact rfl | (simp only [List.toList_toArray, List.length_cons, List.length_nil]; omega) | (simp only [lns] at *; omega) | decide | (unfold inI64; decide)); conv => whnf) | decide | assumption)
         all_goals first
          | (refine .ret _ ?_
             conv => whnf
             refine ⟨[], ⟨?_, rfl⟩, trivial⟩
             conv => lhs; whnf
             congr 2
             exact (hbad _ (by omega) (by decide) (by rw [hok, hrs_no (j := 6) (by omega) (by show decide ((0 ≤ s.h 12 ∧ s.h 12 ≤ s.h 13) ∧ s.h 13 ≤ 1440) = false; rw [decide_eq_false_iff_not]; omega)]; rfl)).symm)
          | exact ⟨7, ⟨by omega, all_step (p := fun j => okW s j = true) (i := 6) q2 (by show decide ((0 ≤ s.h 12 ∧ s.h 12 ≤ s.h 13) ∧ s.h 13 ≤ 1440) = true; rw [decide_eq_true_eq]; omega)⟩, by omega, (by (refine Entails.mk' [] rfl rfl ?_ ?_ <;> repeat' (first | exact True.intro | exact lr | exact rr | exact SV.le_int (by omega) | exact SV.le_any _ | refine And.intro ?_ ?_)); done)⟩)
 have hil : i = l.length := by omega
 subst hil
 conv => whnf
 repeat' (first | (refine br_intro ?_ ?_ <;> intro hb <;> (try simp only [brs] at hb) <;> conv => whnf) | (refine RegX.rule (id := 8) hT rfl [] oUFlG79_8 (by decide +kernel) ?_; conv => whnf) | omega | (refine And.intro ?_ ?_; ((try dsimp only); first | omega | (refine szA rfl ?_; omega) | (refine szB rfl ?_; omega) | (unfold inI64; omega) | exact rfl | (simp only [List.toList_toArray, List.length_cons, List.length_nil]; omega) | (simp only [lns] at *; omega) | decide | (unfold inI64; decide)); conv => whnf) | decide | assumption)
 all_goals try (exfalso; omega)
 refine .ret _ ?_
 conv => whnf
 refine ⟨[], ⟨?_, rfl⟩, trivial⟩
 conv => lhs; whnf
 congr 2
 unfold stasE; rw [if_neg (by omega), firstAt_zero p2]
set_option maxHeartbeats 4000000 in
theorem z82 (l : List Sta) (hk : stasOk l) : FSpec Tryz.prog 89 [.d (stas l)] [] (fun x r => x = .d (.int .i64 (stasE l)) ∧ r = []) := by
 have hlen := hk.1
 refine spec_of hT (C := []) Tryz.func89 rfl Tryz.call89 rfl rfl rfl ?_
 conv => whnf
 refine br_intro (fun h0 => ?_) (fun h0 => ?_)
 · simp at h0
   conv => whnf
   refine .ret _ ?_
   conv => whnf
   refine ⟨[], ⟨?_, rfl⟩, trivial⟩
   conv => lhs; whnf
   unfold stasE; rw [if_pos (by omega)]
 simp at h0
 conv => whnf
 refine LoopX.rule hT (C := []) (ι := Nat) (fun i => i ≤ l.length ∧ ∀ j, j < i → stnE l j = 0) (fun i => mkSt [(3, .d (.str (if i = 0 then [] else (l.getD (i - 1) sta0).key))), (11, .d (stas l)), (12, .d (.int .i64 l.length)), (13, .d (.int .i64 i))] []) (fun i => l.length - i) 0 ⟨by omega, by omega⟩ (by (refine Entails.mk' [] rfl rfl ?_ ?_ <;> repeat' (first | exact True.intro | exact lr | exact rr | exact SV.le_int (by omega) | exact SV.le_any _ | refine And.intro ?_ ?_)); done) ?_
 rintro i ⟨p1, p2⟩
 have hx : (i : Int) < l.length → (l.getD (i : Int).toNat sta0).key.length ≤ 2^40 := fun hi => hk.2 _ (getD_mem (by omega))
 have e1 : (i : Int).toNat = i := Int.toNat_natCast i
 have hbad : ∀ e : Int, i < l.length → e ≠ 0 → stnE l i = e → stasE l = e := fun e h h1 h2 => by
  unfold stasE; rw [if_neg (by omega)]
  exact firstAt_eq h p2 h1 h2
 rcases Nat.lt_or_ge i l.length with hi | hi
 · obtain ⟨s, hs⟩ : ∃ s, s = l.getD (i : Int).toNat sta0 := ⟨_, rfl⟩
   conv => whnf
   repeat' (first | (refine CallX.exact (s21 _ (hx (by omega))) rfl rfl ?_; rotate_right; conv => whnf) | (refine br_intro ?_ ?_ <;> intro hb <;> (try simp only [brs] at hb) <;> conv => whnf) | omega | (refine And.intro ?_ ?_; ((try dsimp only); first | omega | (refine szA rfl ?_; omega) | (refine szB rfl ?_; omega) | (unfold inI64; omega) | exact rfl | (simp only [List.toList_toArray, List.length_cons, List.length_nil]; omega) | (simp only [lns] at *; omega) | decide | (unfold inI64; decide)); conv => whnf) | decide | assumption)
   all_goals try (exfalso; omega)
   all_goals first
    | (refine .ret _ ?_
       conv => whnf
       refine ⟨[], ⟨?_, rfl⟩, trivial⟩
       conv => lhs; whnf
       congr 2
       exact (hbad _ (by omega) (by decide) (by clear p2 hbad hk hx; simp only [e1, toNat_pred] at *; unfold stnE strLe; grind [isKey_nil, less_nil])).symm)
    | (have hok : stnE l i = if hrs s = false then 1 else 0 := by
        clear p2 hbad hk hx; simp only [e1, toNat_pred] at *; subst hs; unfold stnE strLe; grind [isKey_nil, less_nil]
       refine LoopX.rule hT (C := []) (ι := Nat) (fun k => k ≤ 7 ∧ ∀ j, j < k → okW s j = true) (fun k => mkSt [(3, .d (.str s.key)), (11, .d (stas l)), (12, .d (.int .i64 l.length)), (13, .d (.int .i64 i)), (30, .agg (((staF s).drop 1).map .d)), (31, .d (.int .i64 k))] []) (fun k => 7 - k) 0 ⟨by omega, by omega⟩ (by rw [hs]; exact (by (refine Entails.mk' [] rfl rfl ?_ ?_ <;> repeat' (first | exact True.intro | exact lr | exact rr | exact SV.le_int (by omega) | exact SV.le_any _ | refine And.intro ?_ ?_)); done)) ?_
       rintro k ⟨q1, q2⟩
       have hkk : k = 7 ∨ k = 0 ∨ k = 1 ∨ k = 2 ∨ k = 3 ∨ k = 4 ∨ k = 5 ∨ k = 6 := by omega
       rcases hkk with rfl | rfl | rfl | rfl | rfl | rfl | rfl | rfl
       · rw [hrs_yes q2] at hok
         conv => whnf
         repeat' (first | (refine br_intro ?_ ?_ <;> intro hb <;> (try simp only [brs] at hb) <;> conv => whnf) | omega | (refine And.intro ?_ ?_; ((try dsimp only); first | omega | (refine szA rfl ?_; omega) | (refine szB rfl ?_; omega) | (unfold inI64; omega) | exact rfl | (simp only [List.toList_toArray, List.length_cons, List.length_nil]; omega) | (simp only [lns] at *; omega) | decide | (unfold inI64; decide)); conv => whnf) | decide | assumption)
         exact ⟨i + 1, ⟨by omega, first_step p2 (by rw [hok]; rfl)⟩, by omega, Entails.mk' [] rfl rfl ⟨(by rw [show (if i + 1 = 0 then ([] : List UInt8) else (l.getD (i + 1 - 1) sta0).key) = s.key from by rw [if_neg (by omega), hs, e1, Nat.add_sub_cancel]]; exact lr), lr, lr, lr, trivial⟩ trivial⟩
       · conv => whnf
         repeat' (first | (refine CallX.exact (s110 _ _ _) rfl rfl ?_; rotate_right; conv => whnf) | (refine br_intro ?_ ?_ <;> intro hb <;> (try simp only [brs] at hb) <;> conv => whnf) | omega | (refine And.intro ?_ ?_; ((try dsimp only); first | omega | (refine szA rfl ?_; omega) | (refine szB rfl ?_; omega) | (unfold inI64; omega) | exact rfl | (simp only [List.toList_toArray, List.length_cons, List.length_nil]; omega) | (simp only [lns] at *; omega) | decide | (unfold inI64; decide)); conv => whnf) | decide | assumption)
         all_goals first
          | (refine .ret _ ?_
             conv => whnf
             refine ⟨[], ⟨?_, rfl⟩, trivial⟩
             conv => lhs; whnf
             congr 2
             exact (hbad _ (by omega) (by decide) (by rw [hok, hrs_no (j := 0) (by omega) (by show decide ((0 ≤ s.h 0 ∧ s.h 0 ≤ s.h 1) ∧ s.h 1 ≤ 1440) = false; rw [decide_eq_false_iff_not]; omega)]; rfl)).symm)
          | exact ⟨1, ⟨by omega, all_step (p := fun j => okW s j = true) (i := 0) q2 (by show decide ((0 ≤ s.h 0 ∧ s.h 0 ≤ s.h 1) ∧ s.h 1 ≤ 1440) = true; rw [decide_eq_true_eq]; omega)⟩, by omega, (by (refine Entails.mk' [] rfl rfl ?_ ?_ <;> repeat' (first | exact True.intro | exact lr | exact rr | exact SV.le_int (by omega) | exact SV.le_any _ | refine And.intro ?_ ?_)); done)⟩
       · conv => whnf
         repeat' (first | (refine CallX.exact (s110 _ _ _) rfl rfl ?_; rotate_right; conv => whnf) | (refine br_intro ?_ ?_ <;> intro hb <;> (try simp only [brs] at hb) <;> conv => whnf) | omega | (refine And.intro ?_ ?_; ((try dsimp only); first | omega | (refine szA rfl ?_; omega) | (refine szB rfl ?_; omega) | (unfold inI64; omega) | exact rfl | (simp only [List.toList_toArray, List.length_cons, List.length_nil]; omega) | (simp only [lns] at *; omega) | decide | (unfold inI64; decide)); conv => whnf) | decide | assumption)
         all_goals first
          | (refine .ret _ ?_
             conv => whnf
             refine ⟨[], ⟨?_, rfl⟩, trivial⟩
             conv => lhs; whnf
             congr 2
             exact (hbad _ (by omega) (by decide) (by rw [hok, hrs_no (j := 1) (by omega) (by show decide ((0 ≤ s.h 2 ∧ s.h 2 ≤ s.h 3) ∧ s.h 3 ≤ 1440) = false; rw [decide_eq_false_iff_not]; omega)]; rfl)).symm)
          | exact ⟨2, ⟨by omega, all_step (p := fun j => okW s j = true) (i := 1) q2 (by show decide ((0 ≤ s.h 2 ∧ s.h 2 ≤ s.h 3) ∧ s.h 3 ≤ 1440) = true; rw [decide_eq_true_eq]; omega)⟩, by omega, (by (refine Entails.mk' [] rfl rfl ?_ ?_ <;> repeat' (first | exact True.intro | exact lr | exact rr | exact SV.le_int (by omega) | exact SV.le_any _ | refine And.intro ?_ ?_)); done)⟩
       · conv => whnf
         repeat' (first | (refine CallX.exact (s110 _ _ _) rfl rfl ?_; rotate_right; conv => whnf) | (refine br_intro ?_ ?_ <;> intro hb <;> (try simp only [brs] at hb) <;> conv => whnf) | omega | (refine And.intro ?_ ?_; ((try dsimp only); first | omega | (refine szA rfl ?_; omega) | (refine szB rfl ?_; omega) | (unfold inI64; omega) | exact rfl | (simp only [List.toList_toArray, List.length_cons, List.length_nil]; omega) | (simp only [lns] at *; omega) | decide | (unfold inI64; decide)); conv => whnf) | decide | assumption)
         all_goals first
          | (refine .ret _ ?_
             conv => whnf
             refine ⟨[], ⟨?_, rfl⟩, trivial⟩
             conv => lhs; whnf
             congr 2
             exact (hbad _ (by omega) (by decide) (by rw [hok, hrs_no (j := 2) (by omega) (by show decide ((0 ≤ s.h 4 ∧ s.h 4 ≤ s.h 5) ∧ s.h 5 ≤ 1440) = false; rw [decide_eq_false_iff_not]; omega)]; rfl)).symm)
          | exact ⟨3, ⟨by omega, all_step (p := fun j => okW s j = true) (i := 2) q2 (by show decide ((0 ≤ s.h 4 ∧ s.h 4 ≤ s.h 5) ∧ s.h 5 ≤ 1440) = true; rw [decide_eq_true_eq]; omega)⟩, by omega, (by (refine Entails.mk' [] rfl rfl ?_ ?_ <;> repeat' (first | exact True.intro | exact lr | exact rr | exact SV.le_int (by omega) | exact SV.le_any _ | refine And.intro ?_ ?_)); done)⟩
       · conv => whnf
         repeat' (first | (refine CallX.exact (s110 _ _ _) rfl rfl ?_; rotate_right; conv => whnf) | (refine br_intro ?_ ?_ <;> intro hb <;> (try simp only [brs] at hb) <;> conv => whnf) | omega | (refine And.intro ?_ ?_; ((try dsimp only); first | omega | (refine szA rfl ?_; omega) | (refine szB rfl ?_; omega) | (unfold inI64; omega) | exact rfl | (simp only [List.toList_toArray, List.length_cons, List.length_nil]; omega) | (simp only [lns] at *; omega) | decide | (unfold inI64; decide)); conv => whnf) | decide | assumption)
         all_goals first
          | (refine .ret _ ?_
             conv => whnf
             refine ⟨[], ⟨?_, rfl⟩, trivial⟩
             conv => lhs; whnf
             congr 2
             exact (hbad _ (by omega) (by decide) (by rw [hok, hrs_no (j := 3) (by omega) (by show decide ((0 ≤ s.h 6 ∧ s.h 6 ≤ s.h 7) ∧ s.h 7 ≤ 1440) = false; rw [decide_eq_false_iff_not]; omega)]; rfl)).symm)
          | exact ⟨4, ⟨by omega, all_step (p := fun j => okW s j = true) (i := 3) q2 (by show decide ((0 ≤ s.h 6 ∧ s.h 6 ≤ s.h 7) ∧ s.h 7 ≤ 1440) = true; rw [decide_eq_true_eq]; omega)⟩, by omega, (by (refine Entails.mk' [] rfl rfl ?_ ?_ <;> repeat' (first | exact True.intro | exact lr | exact rr | exact SV.le_int (by omega) | exact SV.le_any _ | refine And.intro ?_ ?_)); done)⟩
       · conv => whnf
         repeat' (first | (refine CallX.exact (s110 _ _ _) rfl rfl ?_; rotate_right; conv => whnf) | (refine br_intro ?_ ?_ <;> intro hb <;> (try simp only [brs] at hb) <;> conv => whnf) | omega | (refine And.intro ?_ ?_; ((try dsimp only); first | omega | (refine szA rfl ?_; omega) | (refine szB rfl ?_; omega) | (unfold inI64; omega) | exact rfl | (simp only [List.toList_toArray, List.length_cons, List.length_nil]; omega) | (simp only [lns] at *; omega) | decide | (unfold inI64; decide)); conv => whnf) | decide | assumption)
         all_goals first
          | (refine .ret _ ?_
             conv => whnf
             refine ⟨[], ⟨?_, rfl⟩, trivial⟩
             conv => lhs; whnf
             congr 2
             exact (hbad _ (by omega) (by decide) (by rw [hok, hrs_no (j := 4) (by omega) (by show decide ((0 ≤ s.h 8 ∧ s.h 8 ≤ s.h 9) ∧ s.h 9 ≤ 1440) = false; rw [decide_eq_false_iff_not]; omega)]; rfl)).symm)
          | exact ⟨5, ⟨by omega, all_step (p := fun j => okW s j = true) (i := 4) q2 (by show decide ((0 ≤ s.h 8 ∧ s.h 8 ≤ s.h 9) ∧ s.h 9 ≤ 1440) = true; rw [decide_eq_true_eq]; omega)⟩, by omega, (by (refine Entails.mk' [] rfl rfl ?_ ?_ <;> repeat' (first | exact True.intro | exact lr | exact rr | exact SV.le_int (by omega) | exact SV.le_any _ | refine And.intro ?_ ?_)); done)⟩
       · conv => whnf
         repeat' (first | (refine CallX.exact (s110 _ _ _) rfl rfl ?_; rotate_right; conv => whnf) | (refine br_intro ?_ ?_ <;> intro hb <;> (try simp only [brs] at hb) <;> conv => whnf) | omega | (refine And.intro ?_ ?_; ((try dsimp only); first | omega | (refine szA rfl ?_; omega) | (refine szB rfl ?_; omega) | (unfold inI64; omega) | exact rfl | (simp only [List.toList_toArray, List.length_cons, List.length_nil]; omega) | (simp only [lns] at *; omega) | decide | (unfold inI64; decide)); conv => whnf) | decide | assumption)
         all_goals first
          | (refine .ret _ ?_
             conv => whnf
             refine ⟨[], ⟨?_, rfl⟩, trivial⟩
             conv => lhs; whnf
             congr 2
             exact (hbad _ (by omega) (by decide) (by rw [hok, hrs_no (j := 5) (by omega) (by show decide ((0 ≤ s.h 10 ∧ s.h 10 ≤ s.h 11) ∧ s.h 11 ≤ 1440) = false; rw [decide_eq_false_iff_not]; omega)]; rfl)).symm)
          | exact ⟨6, ⟨by omega, all_step (p := fun j => okW s j = true) (i := 5) q2 (by show decide ((0 ≤ s.h 10 ∧ s.h 10 ≤ s.h 11) ∧ s.h 11 ≤ 1440) = true; rw [decide_eq_true_eq]; omega)⟩, by omega, (by (refine Entails.mk' [] rfl rfl ?_ ?_ <;> repeat' (first | exact True.intro | exact lr | exact rr | exact SV.le_int (by omega) | exact SV.le_any _ | refine And.intro ?_ ?_)); done)⟩
       · conv => whnf
         repeat' (first | (refine CallX.exact (s110 _ _ _) rfl rfl ?_; rotate_right; conv => whnf) | (refine br_intro ?_ ?_ <;> intro hb <;> (try simp only [brs] at hb) <;> conv => whnf) | omega | (refine And.intro ?_ ?_; ((try dsimp only); first | omega | (refine szA rfl ?_; omega) | (refine szB rfl ?_; omega) | (unfold inI64; omega) | exact rfl | (simp only [List.toList_toArray, List.length_cons, List.length_nil]; omega) | (simp only [lns] at *; omega) | decide | (unfold inI64; decide)); conv => whnf) | decide | assumption)
         all_goals first
          | (refine .ret _ ?_
             conv => whnf
             refine ⟨[], ⟨?_, rfl⟩, trivial⟩
             conv => lhs; whnf
             congr 2
             exact (hbad _ (by omega) (by decide) (by rw [hok, hrs_no (j := 6) (by omega) (by show decide ((0 ≤ s.h 12 ∧ s.h 12 ≤ s.h 13) ∧ s.h 13 ≤ 1440) = false; rw [decide_eq_false_iff_not]; omega)]; rfl)).symm)
          | exact ⟨7, ⟨by omega, all_step (p := fun j => okW s j = true) (i := 6) q2 (by show decide ((0 ≤ s.h 12 ∧ s.h 12 ≤ s.h 13) ∧ s.h 13 ≤ 1440) = true; rw [decide_eq_true_eq]; omega)⟩, by omega, (by (refine Entails.mk' [] rfl rfl ?_ ?_ <;> repeat' (first | exact True.intro | exact lr | exact rr | exact SV.le_int (by omega) | exact SV.le_any _ | refine And.intro ?_ ?_)); done)⟩)
 have hil : i = l.length := by omega
 subst hil
 conv => whnf
 repeat' (first | (refine br_intro ?_ ?_ <;> intro hb <;> (try simp only [brs] at hb) <;> conv => whnf) | omega | (refine And.intro ?_ ?_; ((try dsimp only); first | omega | (refine szA rfl ?_; omega) | (refine szB rfl ?_; omega) | (unfold inI64; omega) | exact rfl | (simp only [List.toList_toArray, List.length_cons, List.length_nil]; omega) | (simp only [lns] at *; omega) | decide | (unfold inI64; decide)); conv => whnf) | decide | assumption)
 all_goals try (exfalso; omega)
 refine .ret _ ?_
 conv => whnf
 refine ⟨[], ⟨?_, rfl⟩, trivial⟩
 conv => lhs; whnf
 congr 2
 unfold stasE; rw [if_neg (by omega), firstAt_zero p2]
def oUFlK46_33 : List (Nat × List Nat) := [(0, []), (1, []), (2, []), (3, []), (4, [3]), (5, [3]), (6, []), (7, []), (8, [3, 4, 5, 6, 7]), (9, []), (10, []), (11, []), (12, [])]
def vehE1 (f : Flt) (i : Nat) : Int :=
 if isKeyB (f.veh.getD i veh0).key = false then 5 else if 0 < i ∧ strLe (f.veh.getD i veh0).key (f.veh.getD (i - 1) veh0).key = true then 7
 else if clIx f.cls (f.veh.getD i veh0).cls < 0 then 8 else 0
def pltE1 (f : Flt) (i : Nat) : Int :=
 if ¬ (0 ≤ (f.plt.getD i plt0).frm ∧ (f.plt.getD i plt0).frm ≤ 5761439) then 1 else if veIx f.veh (f.plt.getD i plt0).veh < 0 then 8 else if isPlateB (f.plt.getD i plt0).plt = false then 3
 else if 0 < i ∧ 0 ≤ pltCmp (f.plt.getD (i - 1) plt0) (f.plt.getD i plt0) then 7 else if ((f.plt.take i).any (twP (f.plt.getD i plt0))) = true then 6 else 0
def fltE0 (f : Flt) : Int := firstE [stasE f.sta, clssE f.cls, if 500 < f.veh.length then 2 else 0]
def fltE (f : Flt) : Int := if fltE0 f ≠ 0 then fltE0 f else if firstAt (vehE1 f) f.veh.length ≠ 0 then firstAt (vehE1 f) f.veh.length
 else if 1000 < f.plt.length then 2 else firstAt (pltE1 f) f.plt.length
structure fltOk (f : Flt) : Prop where
 sta : stasOk f.sta
 cls : clsOk f.cls
 veh : f.veh.length ≤ 2^20 ∧ ∀ v ∈ f.veh, v.key.length ≤ 2^40 ∧ v.cls.length ≤ 2^40
 plt : f.plt.length ≤ 2^20 ∧ ∀ p ∈ f.plt, (-2^40 ≤ p.frm ∧ p.frm ≤ 2^40) ∧ p.veh.length ≤ 2^40 ∧ p.plt.length ≤ 2^40
def fltC (f : Flt) : Res := .cells 31 [.d (stas f.sta), .d (clss f.cls), .d (vehs f.veh), .d (plts f.plt)]
theorem vehE_sorted {f : Flt} (h : firstAt (vehE1 f) f.veh.length = 0) : vehS f.veh := by
 have h0 := firstAt_all h
 have step : ∀ j, j + 1 < f.veh.length → Op.bytesLess (f.veh.getD j veh0).key (f.veh.getD (j + 1) veh0).key = true := by
  intro j hj
  have := h0 (j + 1) hj
  unfold vehE1 strLe at this
  simp only [Nat.add_sub_cancel] at this
  have hl := less_tri (f.veh.getD (j + 1) veh0).key (f.veh.getD j veh0).key
  grind
 intro i j hij hj
 induction j with
 | zero => omega
 | succ j ih =>
   rcases Nat.lt_or_ge i j with q | q
   · exact less_trans (ih q (by omega)) (step j hj)
   · obtain rfl : i = j := by omega
     exact step i hj
theorem z243 (f : Flt) (hl : f.veh.length ≤ 2^20) (hs : vehS f.veh) (key : List UInt8) : FSpec Tryz.prog 119 [flt f, .d (.str key)] [] (fun x r => x = .d (.int .i64 (veIx f.veh key)) ∧ r = []) := by
 refine spec_of hT (C := []) Tryz.func119 rfl Tryz.call119 rfl rfl rfl ?_
 conv => whnf
 refine CallX.of (z286 f.veh hl hs key) [] rfl ⟨lr, lr, lr, trivial⟩ trivial rfl rfl ?_
 rintro x rout ⟨⟨j, b, rfl, hj⟩, rfl⟩
 refine ⟨rfl, ?_⟩
 conv => whnf
 repeat' (first | (refine br_intro ?_ ?_ <;> intro hb <;> (try simp only [brs] at hb) <;> conv => whnf) | omega | (refine And.intro ?_ ?_; ((try dsimp only); first | omega | (refine szA rfl ?_; omega) | (refine szB rfl ?_; omega) | (unfold inI64; omega) | exact rfl | (simp only [List.toList_toArray, List.length_cons, List.length_nil]; omega) | (simp only [lns] at *; omega) | decide | (unfold inI64; decide)); conv => whnf) | decide | assumption)
 · refine .ret _ ?_
   conv => whnf
   refine ⟨[], ⟨?_, rfl⟩, trivial⟩
   conv => lhs; whnf
   congr 2
   rw [hj, if_neg (by simp [hb])]
 · refine .ret _ ?_
   conv => whnf
   refine ⟨[], ⟨?_, rfl⟩, trivial⟩
   conv => lhs; whnf
   congr 2
   rw [hj, if_pos hb]
set_option maxHeartbeats 4000000 in
theorem z21 (f : Flt) (hk : fltOk f) : FSpec Tryz.prog 46 [flt f] [] (fun x r => x = .d (.int .i64 (fltE f)) ∧ r = []) := by
 have hlv := hk.veh.1
 have hlp := hk.plt.1
 refine spec_of hT (C := []) Tryz.func46 rfl Tryz.call46 rfl rfl rfl ?_
 conv => whnf
 repeat' (first | (refine CallX.exact (z82 f.sta hk.sta) rfl rfl ?_; rotate_right; conv => whnf) | (refine CallX.exact (z83 f.cls hk.cls) rfl rfl ?_; rotate_right; conv => whnf) | (refine br_intro ?_ ?_ <;> intro hb <;> (try simp only [brs] at hb) <;> conv => whnf) | (refine RegX.rule (id := 33) hT rfl [] oUFlK46_33 (by decide +kernel) ?_; conv => whnf) | omega | (refine And.intro ?_ ?_; ((try dsimp only); first | omega | (refine szA rfl ?_; omega) | (refine szB rfl ?_; omega) | (unfold inI64; omega) | exact rfl | (simp only [List.toList_toArray, List.length_cons, List.length_nil]; omega) | (simp only [lns] at *; omega) | decide | (unfold inI64; decide)); conv => whnf) | decide | assumption)
 · refine .ret _ ?_
   conv => whnf
   refine ⟨[], ⟨?_, rfl⟩, trivial⟩
   conv => lhs; whnf
   congr 2
   unfold fltE fltE0
   simp [firstE, hb]
 · refine .ret _ ?_
   conv => whnf
   refine ⟨[], ⟨?_, rfl⟩, trivial⟩
   conv => lhs; whnf
   congr 2
   have h1 : stasE f.sta = 0 := by assumption
   unfold fltE fltE0
   simp [firstE, h1, hb]
 · refine .ret _ ?_
   conv => whnf
   refine ⟨[], ⟨?_, rfl⟩, trivial⟩
   conv => lhs; whnf
   congr 2
   have h1 : stasE f.sta = 0 := by assumption
   have h2 : clssE f.cls = 0 := by assumption
   unfold fltE fltE0
   simp [firstE, h1, h2, show 500 < f.veh.length by omega]
 have F0 : fltE0 f = 0 := by
  have h1 : stasE f.sta = 0 := by assumption
  have h2 : clssE f.cls = 0 := by assumption
  unfold fltE0
  simp [firstE, h1, h2, show ¬ 500 < f.veh.length by omega]
 refine LoopX.rule hT (C := []) (ι := Nat) (fun i => i ≤ f.veh.length ∧ ∀ j, j < i → vehE1 f j = 0) (fun i => mkSt [(1, .ptr 1 0), (5, .d (.str (if i = 0 then [] else (f.veh.getD (i - 1) veh0).key))), (28, .d (vehs f.veh)), (29, .d (.int .i64 f.veh.length)), (30, .d (.int .i64 i))] [(1, fltC f)]) (fun i => f.veh.length - i) 0 ⟨by omega, by omega⟩ (by (refine Entails.mk' [(1, 1)] rfl rfl ?_ ?_ <;> repeat' (first | exact True.intro | exact lr | exact rr | exact SV.le_int (by omega) | exact SV.le_any _ | refine And.intro ?_ ?_)); done) ?_
 rintro i ⟨p1, p2⟩
 have hx : (i : Int) < f.veh.length → (f.veh.getD (i : Int).toNat veh0).key.length ≤ 2^40 ∧ (f.veh.getD (i : Int).toNat veh0).cls.length ≤ 2^40 := fun hi => hk.veh.2 _ (getD_mem (by omega))
 have e1 : (i : Int).toNat = i := Int.toNat_natCast i
 have hbad : ∀ e : Int, i < f.veh.length → e ≠ 0 → vehE1 f i = e → fltE f = e := fun e h h1 h2 => by
  unfold fltE; rw [if_neg (by omega), firstAt_eq h p2 h1 h2, if_pos h1]
 rcases Nat.lt_or_ge i f.veh.length with hi | hi
 · conv => whnf
   repeat' (first | (refine CallX.exact (s21 _ (hx (by omega)).1) rfl rfl ?_; rotate_right; conv => whnf) | (refine CallX.exact (z84 f.cls (Nat.le_trans hk.cls.1 (by decide)) _) rfl rfl ?_; rotate_right; conv => whnf) | (refine br_intro ?_ ?_ <;> intro hb <;> (try simp only [brs] at hb) <;> conv => whnf) | (refine RegX.rule (id := 33) hT rfl [] oUFlK46_33 (by decide +kernel) ?_; conv => whnf) | omega | (refine And.intro ?_ ?_; ((try dsimp only); first | omega | (refine szA rfl ?_; omega) | (refine szB rfl ?_; omega) | (unfold inI64; omega) | exact rfl | (simp only [List.toList_toArray, List.length_cons, List.length_nil]; omega) | (simp only [lns] at *; omega) | decide | (unfold inI64; decide)); conv => whnf) | decide | assumption)
   all_goals try (exfalso; omega)
   all_goals first
    | (refine ⟨i + 1, ⟨by omega, first_step p2 (by clear p2 hbad hk hx; simp only [e1] at *; unfold vehE1 strLe; grind [isKey_nil, less_nil])⟩, by omega, Entails.mk' [(1, 1)] rfl rfl ⟨lr, (by rw [show (if i + 1 = 0 then ([] : List UInt8) else (f.veh.getD (i + 1 - 1) veh0).key) = (f.veh.getD (i : Int).toNat veh0).key from by rw [if_neg (by omega), e1, Nat.add_sub_cancel]]; exact lr), lr, lr, lr, trivial⟩ ⟨rr, trivial⟩⟩)
    | (refine .ret _ ?_
       conv => whnf
       refine ⟨[], ⟨?_, rfl⟩, trivial⟩
       conv => lhs; whnf
       congr 2
       exact (hbad _ (by omega) (by decide) (by clear p2 hbad hk hx; simp only [e1] at *; unfold vehE1 strLe; grind [isKey_nil, less_nil])).symm)
 have hil : i = f.veh.length := by omega
 subst hil
 have F1 := firstAt_zero p2
 clear hbad hx p2
 conv => whnf
 repeat' (first | (refine br_intro ?_ ?_ <;> intro hb <;> (try simp only [brs] at hb) <;> conv => whnf) | (refine RegX.rule (id := 33) hT rfl [] oUFlK46_33 (by decide +kernel) ?_; conv => whnf) | omega | (refine And.intro ?_ ?_; ((try dsimp only); first | omega | (refine szA rfl ?_; omega) | (refine szB rfl ?_; omega) | (unfold inI64; omega) | exact rfl | (simp only [List.toList_toArray, List.length_cons, List.length_nil]; omega) | (simp only [lns] at *; omega) | decide | (unfold inI64; decide)); conv => whnf) | decide | assumption)
 all_goals try (exfalso; omega)
 · refine .ret _ ?_
   conv => whnf
   refine ⟨[], ⟨?_, rfl⟩, trivial⟩
   conv => lhs; whnf
   congr 2
   unfold fltE
   rw [if_neg (by omega), if_neg (by omega), if_pos (by omega)]
 refine LoopX.rule hT (C := []) (ι := Nat) (fun i => i ≤ f.plt.length ∧ ∀ j, j < i → pltE1 f j = 0) (fun i => mkSt [(1, .ptr 1 0), (59, .d (plts f.plt)), (60, .d (.int .i64 f.plt.length)), (61, .d (.int .i64 i))] [(1, fltC f)]) (fun i => f.plt.length - i) 0 ⟨by omega, by omega⟩ (by (refine Entails.mk' [(1, 1)] rfl rfl ?_ ?_ <;> repeat' (first | exact True.intro | exact lr | exact rr | exact SV.le_int (by omega) | exact SV.le_any _ | refine And.intro ?_ ?_)); done) ?_
 rintro i ⟨p1, p2⟩
 have hx : (i : Int) < f.plt.length → (-2^40 ≤ (f.plt.getD (i : Int).toNat plt0).frm ∧ (f.plt.getD (i : Int).toNat plt0).frm ≤ 2^40) ∧ (f.plt.getD (i : Int).toNat plt0).veh.length ≤ 2^40 ∧ (f.plt.getD (i : Int).toNat plt0).plt.length ≤ 2^40 := fun hi => hk.plt.2 _ (getD_mem (by omega))
 have e1 : (i : Int).toNat = i := Int.toNat_natCast i
 have hbad : ∀ e : Int, i < f.plt.length → e ≠ 0 → pltE1 f i = e → fltE f = e := fun e h h1 h2 => by
  unfold fltE; rw [if_neg (by omega), if_neg (by omega), if_neg (by omega), firstAt_eq h p2 h1 h2]
 rcases Nat.lt_or_ge i f.plt.length with hi | hi
 · conv => whnf
   have hx2 := hx (by omega)
   have hpb : (i : Int) > 0 → (-2^40 ≤ (f.plt.getD (0 + ((i : Int) - 1).toNat) plt0).frm ∧ (f.plt.getD (0 + ((i : Int) - 1).toNat) plt0).frm ≤ 2^40) := fun h => (hk.plt.2 _ (getD_mem (by omega))).1
   have hz : (0 : Nat) + ((i : Int) - 1).toNat = i - 1 := by omega
   repeat' (first | (refine CallX.exact (s133 _) rfl rfl ?_; rotate_right; conv => whnf) | (refine CallX.exact (z85 f (by omega) _) rfl rfl ?_; rotate_right; conv => whnf) | (refine CallX.exact (z44 _ hx2.2.2) rfl rfl ?_; rotate_right; conv => whnf) | (refine CallX.exact (z86 (f.plt.getD (0 + ((i : Int) - 1).toNat) plt0) (f.plt.getD (i : Int).toNat plt0) (hpb (by omega)) hx2.1) rfl rfl ?_; rotate_right; conv => whnf) | (refine CallX.of (z87 (f.plt.take i) (by rw [List.length_take]; omega) (f.plt.getD (i : Int).toNat plt0)) [(1000001, 9)] rfl ⟨SV.le_ro (by rw [List.length_take]; omega) (fun j hj => ?_), lr, trivial⟩ ⟨rr, trivial⟩ rfl rfl ?_; rotate_right; rintro x rout ⟨rfl, rfl⟩; refine ⟨rfl, ?_⟩; conv => whnf) | (refine br_intro ?_ ?_ <;> intro hb <;> (try simp only [brs] at hb) <;> conv => whnf) | (refine RegX.rule (id := 33) hT rfl [] oUFlK46_33 (by decide +kernel) ?_; conv => whnf) | omega | (refine And.intro ?_ ?_; ((try dsimp only); first | omega | (refine szA rfl ?_; omega) | (refine szB rfl ?_; omega) | (unfold inI64; omega) | exact rfl | (simp only [List.toList_toArray, List.length_cons, List.length_nil]; omega) | (simp only [lns] at *; omega) | decide | (unfold inI64; decide)); conv => whnf) | decide | assumption)
   all_goals try (exfalso; omega)
   all_goals first
    | (simp only [rowF]
       have hji : j < i := by omega
       rw [show Int.toNat 0 + j = j from Nat.zero_add j, List.getD_eq_getElem?_getD, List.getD_eq_getElem?_getD, List.getElem?_take_of_lt hji]; done)
    | (refine ⟨i + 1, ⟨by omega, first_step p2 (by clear p2 hbad hk hx hx2 hpb; simp only [e1, hz] at *; unfold pltE1; grind)⟩, by omega, (by (refine Entails.mk' [(1, 1)] rfl rfl ?_ ?_ <;> repeat' (first | exact True.intro | exact lr | exact rr | exact SV.le_int (by omega) | exact SV.le_any _ | refine And.intro ?_ ?_)); done)⟩)
    | (refine .ret _ ?_
       conv => whnf
       refine ⟨[], ⟨?_, rfl⟩, trivial⟩
       conv => lhs; whnf
       congr 2
       exact (hbad _ (by omega) (by decide) (by clear p2 hbad hk hx hx2 hpb; simp only [e1, hz] at *; unfold pltE1; grind)).symm)
 have hil : i = f.plt.length := by omega
 subst hil
 have F2 := firstAt_zero p2
 clear hbad hx p2
 conv => whnf
 repeat' (first | (refine br_intro ?_ ?_ <;> intro hb <;> (try simp only [brs] at hb) <;> conv => whnf) | (refine RegX.rule (id := 33) hT rfl [] oUFlK46_33 (by decide +kernel) ?_; conv => whnf) | omega | (refine And.intro ?_ ?_; ((try dsimp only); first | omega | (refine szA rfl ?_; omega) | (refine szB rfl ?_; omega) | (unfold inI64; omega) | exact rfl | (simp only [List.toList_toArray, List.length_cons, List.length_nil]; omega) | (simp only [lns] at *; omega) | decide | (unfold inI64; decide)); conv => whnf) | decide | assumption)
 all_goals try (exfalso; omega)
 refine .ret _ ?_
 conv => whnf
 refine ⟨[], ⟨?_, rfl⟩, trivial⟩
 conv => lhs; whnf
 congr 2
 unfold fltE
 rw [if_neg (by omega), if_neg (by omega), if_neg (by omega)]
 exact F2.symm
def oUFlL83_14 : List (Nat × List Nat) := [(0, []), (1, []), (2, [0, 1]), (3, [0, 1]), (5, [0, 1, 2, 3]), (6, [0, 1, 2, 3]), (7, [0, 1, 2, 3, 5, 6]), (8, [0, 1, 2, 3, 5, 6]), (10, [0, 1, 2, 3, 5, 6, 7, 8]), (11, [0, 1, 2, 3, 5, 6, 7, 8]), (12, [0, 1, 2, 3, 5, 6, 7, 8, 10, 11]), (13, [0, 1, 2, 3, 5, 6, 7, 8, 10, 11]), (4, [5, 6, 7, 8, 10, 11, 12, 13]), (9, [10, 11, 12, 13]), (14, []), (15, []), (16, []), (17, [])]
def oUFlL83_17 : List (Nat × List Nat) := [(0, []), (1, []), (2, []), (3, []), (4, []), (5, [3, 4]), (6, []), (7, []), (8, []), (9, [3, 4, 5, 6, 7, 8]), (10, [3, 4, 5, 6, 7, 8]), (11, []), (12, [])]
theorem pltCmp_frm {a b : Plt} (h : pltCmp a b < 0) : a.frm ≤ b.frm := by
 unfold pltCmp at h
 rw [firstE] at h
 split at h
 · rename_i q; unfold cmpI at q; split at q <;> (try split at q) <;> omega
 · unfold cmpI at h; split at h <;> (try split at h) <;> omega
theorem pltE1_cmp {f : Flt} {j : Nat} (h : pltE1 f j = 0) (hj : 0 < j) : pltCmp (f.plt.getD (j - 1) plt0) (f.plt.getD j plt0) < 0 := by
 unfold pltE1 at h; grind
theorem frm_mono {f : Flt} {i : Nat} (h : ∀ j, j ≤ i → 0 < j → pltCmp (f.plt.getD (j - 1) plt0) (f.plt.getD j plt0) < 0) : ∀ b a, a ≤ b → b ≤ i → (f.plt.getD a plt0).frm ≤ (f.plt.getD b plt0).frm := by
 intro b
 induction b with
 | zero => intro a ha _; obtain rfl : a = 0 := by omega
           exact Int.le_refl _
 | succ b ih =>
   intro a ha hb
   rcases Nat.lt_or_ge a (b + 1) with q | q
   · have h1 := ih a (by omega) (by omega)
     have h2 := pltCmp_frm (h (b + 1) hb (by omega))
     rw [Nat.add_sub_cancel] at h2
     omega
   · obtain rfl : a = b + 1 := by omega
     exact Int.le_refl _
theorem getD_take {α : Type} {l : List α} {d : α} {i j : Nat} (h : j < i) : (l.take i).getD j d = l.getD j d := by
 rw [List.getD_eq_getElem?_getD, List.getElem?_take_of_lt h, ← List.getD_eq_getElem?_getD]
theorem tw_none {f : Flt} {i m : Nat} (hi : i < f.plt.length) (hm : m ≤ i) (h1 : ∀ j, m ≤ j → j < i → twP (f.plt.getD i plt0) (f.plt.getD j plt0) = false)
 (h2 : ∀ j, j < m → (f.plt.getD j plt0).frm ≠ (f.plt.getD i plt0).frm) : (f.plt.take i).any (twP (f.plt.getD i plt0)) = false := by
 rw [List.any_eq_false]
 intro x hx
 obtain ⟨j, hj, rfl⟩ := mem_getD (d := plt0) hx
 rw [List.length_take] at hj
 rw [getD_take (by omega)]
 rcases Nat.lt_or_ge j m with q | q
 · unfold twP; simp only [decide_eq_false (h2 j q), Bool.false_and]; simp
 · rw [h1 j q (by omega)]; simp
theorem tw_some {f : Flt} {i k : Nat} (hi : i < f.plt.length) (hk : k < i) (h : twP (f.plt.getD i plt0) (f.plt.getD k plt0) = true) : (f.plt.take i).any (twP (f.plt.getD i plt0)) = true := by
 rw [List.any_eq_true]
 refine ⟨(f.plt.take i).getD k plt0, getD_mem (by rw [List.length_take]; omega), ?_⟩
 rw [getD_take hk]
 exact h
def pltsE (f : Flt) : Int := if 1000 < f.plt.length then 2 else firstAt (pltE1 f) f.plt.length
set_option maxHeartbeats 4000000 in
theorem z177 (f : Flt) (hk : fltOk f) (hs : vehS f.veh) : FSpec Tryz.prog 83 [flt f] [] (fun x r => x = .d (.int .i64 (pltsE f)) ∧ r = []) := by
 have hlv := hk.veh.1
 have hlp := hk.plt.1
 refine spec_of hT (C := []) Tryz.func83 rfl Tryz.call83 rfl rfl rfl ?_
 conv => whnf
 repeat' (first | (refine br_intro ?_ ?_ <;> intro hb <;> (try simp only [brs] at hb) <;> conv => whnf) | (refine RegX.rule (id := 14) hT rfl [] oUFlL83_14 (by decide +kernel) ?_; conv => whnf) | (refine RegX.rule (id := 17) hT rfl [] oUFlL83_17 (by decide +kernel) ?_; conv => whnf) | omega | (refine And.intro ?_ ?_; ((try dsimp only); first | omega | (refine szA rfl ?_; omega) | (refine szB rfl ?_; omega) | (unfold inI64; omega) | exact rfl | (simp only [List.toList_toArray, List.length_cons, List.length_nil]; omega) | (simp only [lns] at *; omega) | decide | (unfold inI64; decide)); conv => whnf) | decide | assumption)
 · refine .ret _ ?_
   conv => whnf
   refine ⟨[], ⟨?_, rfl⟩, trivial⟩
   conv => lhs; whnf
   congr 2
   unfold pltsE; rw [if_pos (by omega)]
 refine LoopX.rule hT (C := []) (ι := Nat) (fun i => i ≤ f.plt.length ∧ ∀ j, j < i → pltE1 f j = 0) (fun i => mkSt [(1, .ptr 1 0), (13, .d (plts f.plt)), (14, .d (.int .i64 f.plt.length)), (15, .d (.int .i64 i))] [(1, fltC f)]) (fun i => f.plt.length - i) 0 ⟨by omega, by omega⟩ (by (refine Entails.mk' [(1, 1)] rfl rfl ?_ ?_ <;> repeat' (first | exact True.intro | exact lr | exact rr | exact SV.le_int (by omega) | exact SV.le_any _ | refine And.intro ?_ ?_)); done) ?_
 rintro i ⟨p1, p2⟩
 have hx : (i : Int) < f.plt.length → (-2^40 ≤ (f.plt.getD (i : Int).toNat plt0).frm ∧ (f.plt.getD (i : Int).toNat plt0).frm ≤ 2^40) ∧ (f.plt.getD (i : Int).toNat plt0).veh.length ≤ 2^40 ∧ (f.plt.getD (i : Int).toNat plt0).plt.length ≤ 2^40 := fun hi => hk.plt.2 _ (getD_mem (by omega))
 have e1 : (i : Int).toNat = i := Int.toNat_natCast i
 have hbad : ∀ e : Int, i < f.plt.length → e ≠ 0 → pltE1 f i = e → pltsE f = e := fun e h h1 h2 => by
  unfold pltsE; rw [if_neg (by omega), firstAt_eq h p2 h1 h2]
 rcases Nat.lt_or_ge i f.plt.length with hi | hi
 · have hx2 := hx (by omega)
   have hz : ((i : Int) - 1).toNat = i - 1 := by omega
   conv => whnf
   repeat' (first | (refine CallX.exact (s154 _) rfl rfl ?_; rotate_right; conv => whnf) | (refine CallX.exact (z243 f (by omega) hs _) rfl rfl ?_; rotate_right; conv => whnf) | (refine CallX.exact (s185 _ hx2.2.2) rfl rfl ?_; rotate_right; conv => whnf) | (refine CallX.exact (s183 _ _) rfl rfl ?_; rotate_right; conv => whnf) | (refine CallX.exact (s184 _ _) rfl rfl ?_; rotate_right; conv => whnf) | (refine CallX.pure (s182 [cmpI (f.plt.getD ((i : Int) - 1).toNat plt0).frm (f.plt.getD (i : Int).toNat plt0).frm, cmpS (f.plt.getD ((i : Int) - 1).toNat plt0).veh (f.plt.getD (i : Int).toNat plt0).veh, cmpS (f.plt.getD ((i : Int) - 1).toNat plt0).plt (f.plt.getD (i : Int).toNat plt0).plt] (by simp)) ⟨SV.le_lit (by rfl) (by rfl), trivial⟩ rfl ?_; conv => whnf) | (refine br_intro ?_ ?_ <;> intro hb <;> (try simp only [brs] at hb) <;> conv => whnf) | (refine RegX.rule (id := 14) hT rfl [] oUFlL83_14 (by decide +kernel) ?_; conv => whnf) | (refine RegX.rule (id := 17) hT rfl [] oUFlL83_17 (by decide +kernel) ?_; conv => whnf) | omega | (refine And.intro ?_ ?_; ((try dsimp only); first | omega | (refine szA rfl ?_; omega) | (refine szB rfl ?_; omega) | (unfold inI64; omega) | exact rfl | (simp only [List.toList_toArray, List.length_cons, List.length_nil]; omega) | (simp only [lns] at *; omega) | decide | (unfold inI64; decide)); conv => whnf) | decide | assumption)
   all_goals first
    | (refine .ret _ ?_
       conv => whnf
       refine ⟨[], ⟨?_, rfl⟩, trivial⟩
       conv => lhs; whnf
       congr 2
       exact (hbad _ (by omega) (by decide) (by clear p2 hbad hk hx hx2; simp only [e1, hz] at *; unfold pltE1; (try unfold pltCmp); grind)).symm)
    | (have hcmp : 0 < i → pltCmp (f.plt.getD (i - 1) plt0) (f.plt.getD i plt0) < 0 := by
        intro _
        first
         | (exfalso; omega)
         | (clear p2 hbad hk hx hx2; simp only [e1, hz] at *; unfold pltCmp; assumption)
       have hall : ∀ j, j ≤ i → 0 < j → pltCmp (f.plt.getD (j - 1) plt0) (f.plt.getD j plt0) < 0 := fun j h1 h2 => by
        rcases Nat.lt_or_ge j i with q | q
        · exact pltE1_cmp (p2 j q) h2
        · obtain rfl : j = i := by omega
          exact hcmp h2
       have hz0 : ∀ (c : Bool), pltE1 f i = (if (f.plt.take i).any (twP (f.plt.getD i plt0)) = true then 6 else 0) := by
        intro _
        clear p2 hbad hk hx hx2; simp only [e1, hz] at *; unfold pltE1; grind
       have hz0 := hz0 true
       refine LoopX.rule hT (C := []) (ι := Nat) (fun m => m ≤ i ∧ ∀ j, m ≤ j → j < i → (f.plt.getD j plt0).frm = (f.plt.getD i plt0).frm ∧ twP (f.plt.getD i plt0) (f.plt.getD j plt0) = false)
        (fun m => mkSt [(1, .ptr 1 0), (4, .ptr 4 0), (6, .d (.int .i64 ((m : Int) - 1))), (13, .d (plts f.plt)), (14, .d (.int .i64 f.plt.length)), (15, .d (.int .i64 i))] [(1, fltC f), (4, pltC (f.plt.getD (i : Int).toNat plt0))]) (fun m => m) i ⟨by omega, fun j h1 h2 => by omega⟩ (by (refine Entails.mk' [(1, 1), (4, 4)] rfl rfl ?_ ?_ <;> repeat' (first | exact True.intro | exact lr | exact rr | exact SV.le_int (by omega) | exact SV.le_any _ | refine And.intro ?_ ?_)); done) ?_
       rintro m ⟨q1, q2⟩
       have hm1 : 0 < m → ((m : Int) - 1).toNat = m - 1 := fun h => by omega
       conv => whnf
       repeat' (first | (refine br_intro ?_ ?_ <;> intro hb <;> (try simp only [brs] at hb) <;> conv => whnf) | (refine RegX.rule (id := 14) hT rfl [] oUFlL83_14 (by decide +kernel) ?_; conv => whnf) | (refine RegX.rule (id := 17) hT rfl [] oUFlL83_17 (by decide +kernel) ?_; conv => whnf) | omega | (refine And.intro ?_ ?_; ((try dsimp only); first | omega | (refine szA rfl ?_; omega) | (refine szB rfl ?_; omega) | (unfold inI64; omega) | exact rfl | (simp only [List.toList_toArray, List.length_cons, List.length_nil]; omega) | (simp only [lns] at *; omega) | decide | (unfold inI64; decide)); conv => whnf) | decide | assumption)
       all_goals first
        | (refine .ret _ ?_
           conv => whnf
           refine ⟨[], ⟨?_, rfl⟩, trivial⟩
           conv => lhs; whnf
           congr 2
           refine (hbad _ (by omega) (by decide) ?_).symm
           rw [hz0, if_pos (tw_some hi (k := m - 1) (by omega) (by clear p2 hbad hk hx hx2 hall; simp only [e1, hm1 (by omega)] at *; unfold twP; grind))])
        | exact ⟨m - 1, ⟨by omega, fun j h1 h2 => by
           rcases Nat.lt_or_ge j m with r | r
           · obtain rfl : j = m - 1 := by omega
             clear p2 hbad hk hx hx2 hall; simp only [e1, hm1 (by omega)] at *; unfold twP; grind
           · exact q2 j r h2⟩, by show m - 1 < m; omega, Entails.mk' [(1, 1), (4, 4)] rfl rfl ⟨lr, lr, SV.le_int (by omega), lr, lr, lr, trivial⟩ ⟨rr, rr, trivial⟩⟩
        | exact ⟨i + 1, ⟨by omega, first_step p2 (by
           rw [hz0, tw_none hi q1 (fun j h1 h2 => (q2 j h1 h2).2) (fun j h1 => by
            have h2 := frm_mono hall i (m - 1) (by omega) (by omega)
            have h3 := frm_mono hall (m - 1) j (by omega) (by omega)
            clear p2 hbad hk hx hx2 hall; simp only [e1, hm1 (by omega)] at *
            omega)]
           rfl)⟩, by omega, (by (refine Entails.mk' [(1, 1)] rfl rfl ?_ ?_ <;> repeat' (first | exact True.intro | exact lr | exact rr | exact SV.le_int (by omega) | exact SV.le_any _ | refine And.intro ?_ ?_)); done)⟩)
 have hil : i = f.plt.length := by omega
 subst hil
 have F2 := firstAt_zero p2
 clear hbad hx p2
 conv => whnf
 repeat' (first | (refine br_intro ?_ ?_ <;> intro hb <;> (try simp only [brs] at hb) <;> conv => whnf) | (refine RegX.rule (id := 14) hT rfl [] oUFlL83_14 (by decide +kernel) ?_; conv => whnf) | (refine RegX.rule (id := 17) hT rfl [] oUFlL83_17 (by decide +kernel) ?_; conv => whnf) | omega | (refine And.intro ?_ ?_; ((try dsimp only); first | omega | (refine szA rfl ?_; omega) | (refine szB rfl ?_; omega) | (unfold inI64; omega) | exact rfl | (simp only [List.toList_toArray, List.length_cons, List.length_nil]; omega) | (simp only [lns] at *; omega) | decide | (unfold inI64; decide)); conv => whnf) | decide | assumption)
 all_goals try (exfalso; omega)
 refine .ret _ ?_
 conv => whnf
 refine ⟨[], ⟨?_, rfl⟩, trivial⟩
 conv => lhs; whnf
 congr 2
 unfold pltsE
 rw [if_neg (by omega)]
 exact F2.symm
def oUFlM43_1 : List (Nat × List Nat) := [(0, []), (1, []), (3, [0, 1]), (4, [0, 1]), (6, [0, 1, 3, 4]), (7, [0, 1, 3, 4]), (8, [0, 1, 3, 4]), (9, [0, 1, 3, 4]), (2, [3, 4, 6, 7, 8, 9]), (5, [6, 7, 8, 9]), (10, []), (11, []), (12, []), (13, [])]
def oUFlM43_9 : List (Nat × List Nat) := [(0, []), (1, []), (2, []), (3, []), (4, []), (5, [3, 4]), (6, [3, 4]), (7, [3, 4, 5, 6]), (8, [3, 4, 5, 6]), (9, [3, 4]), (10, [3, 4]), (11, [3, 4]), (12, []), (13, []), (14, [])]
set_option maxHeartbeats 4000000 in
theorem z114 (f : Flt) (hk : fltOk f) : FSpec Tryz.prog 43 [flt f] [] (fun x r => x = .d (.int .i64 (fltE f)) ∧ r = []) := by
 have hlv := hk.veh.1
 have hlp := hk.plt.1
 have H : (if decide ((500 : Int) < f.veh.length) = true then (2 : Int) else 0) = if 500 < f.veh.length then 2 else 0 := by
  simp only [decide_eq_true_eq]; congr 1; rw [eq_iff_iff]; omega
 have h3 := s105 [stasE f.sta, clssE f.cls, if decide ((500 : Int) < f.veh.length) = true then 2 else 0] (by simp)
 rw [show firstE [stasE f.sta, clssE f.cls, if decide ((500 : Int) < f.veh.length) = true then 2 else 0] = fltE0 f from by rw [H]; rfl] at h3
 refine spec_of hT (C := []) Tryz.func43 rfl Tryz.call43 rfl rfl rfl ?_
 conv => whnf
 repeat' (first | (refine CallX.exact (z174 f.sta hk.sta) rfl rfl ?_; rotate_right; conv => whnf) | (refine CallX.exact (z175 f.cls hk.cls) rfl rfl ?_; rotate_right; conv => whnf) | (refine CallX.exact (s107 _ _) rfl rfl ?_; rotate_right; conv => whnf) | (refine CallX.pure h3 ⟨SV.le_lit (by rfl) (by rfl), trivial⟩ rfl ?_; conv => whnf) | (refine br_intro ?_ ?_ <;> intro hb <;> (try simp only [brs] at hb) <;> conv => whnf) | (refine RegX.rule (id := 1) hT rfl [] oUFlM43_1 (by decide +kernel) ?_; conv => whnf) | (refine RegX.rule (id := 9) hT rfl [] oUFlM43_9 (by decide +kernel) ?_; conv => whnf) | omega | (refine And.intro ?_ ?_; ((try dsimp only); first | omega | (refine szA rfl ?_; omega) | (refine szB rfl ?_; omega) | (unfold inI64; omega) | exact rfl | (simp only [List.toList_toArray, List.length_cons, List.length_nil]; omega) | (simp only [lns] at *; omega) | decide | (unfold inI64; decide)); conv => whnf) | decide | assumption)
 · refine .ret _ ?_
   conv => whnf
   refine ⟨[], ⟨?_, rfl⟩, trivial⟩
   conv => lhs; whnf
   congr 2
   unfold fltE; rw [if_pos hb]
 have F0 : fltE0 f = 0 := hb
 refine LoopX.rule hT (C := []) (ι := Nat) (fun i => i ≤ f.veh.length ∧ ∀ j, j < i → vehE1 f j = 0) (fun i => mkSt [(1, .ptr 1 0), (23, .d (vehs f.veh)), (24, .d (.int .i64 f.veh.length)), (25, .d (.int .i64 i))] [(1, fltC f)]) (fun i => f.veh.length - i) 0 ⟨by omega, by omega⟩ (by (refine Entails.mk' [(1, 1)] rfl rfl ?_ ?_ <;> repeat' (first | exact True.intro | exact lr | exact rr | exact SV.le_int (by omega) | exact SV.le_any _ | refine And.intro ?_ ?_)); done) ?_
 rintro i ⟨p1, p2⟩
 have hx : (i : Int) < f.veh.length → (f.veh.getD (i : Int).toNat veh0).key.length ≤ 2^40 ∧ (f.veh.getD (i : Int).toNat veh0).cls.length ≤ 2^40 := fun hi => hk.veh.2 _ (getD_mem (by omega))
 have e1 : (i : Int).toNat = i := Int.toNat_natCast i
 have hbad : ∀ e : Int, i < f.veh.length → e ≠ 0 → vehE1 f i = e → fltE f = e := fun e h h1 h2 => by
  unfold fltE; rw [if_neg (by omega), firstAt_eq h p2 h1 h2, if_pos h1]
 rcases Nat.lt_or_ge i f.veh.length with hi | hi
 · conv => whnf
   repeat' (first | (refine CallX.exact (s108 _ (hx (by omega)).1) rfl rfl ?_; rotate_right; conv => whnf) | (refine CallX.exact (z176 f.cls (Nat.le_trans hk.cls.1 (by decide)) _) rfl rfl ?_; rotate_right; conv => whnf) | (refine br_intro ?_ ?_ <;> intro hb <;> (try simp only [brs] at hb) <;> conv => whnf) | (refine RegX.rule (id := 1) hT rfl [] oUFlM43_1 (by decide +kernel) ?_; conv => whnf) | (refine RegX.rule (id := 9) hT rfl [] oUFlM43_9 (by decide +kernel) ?_; conv => whnf) | omega | (refine And.intro ?_ ?_; ((try dsimp only); first | omega | (refine szA rfl ?_; omega) | (refine szB rfl ?_; omega) | (unfold inI64; omega) | exact rfl | (simp only [List.toList_toArray, List.length_cons, List.length_nil]; omega) | (simp only [lns] at *; omega) | decide | (unfold inI64; decide)); conv => whnf) | decide | assumption)
   all_goals try (exfalso; omega)
   all_goals first
    | (refine ⟨i + 1, ⟨by omega, first_step p2 (by clear p2 hbad hk hx; simp only [e1, toNat_pred] at *; unfold vehE1 strLe; grind)⟩, by omega, (by (refine Entails.mk' [(1, 1)] rfl rfl ?_ ?_ <;> repeat' (first | exact True.intro | exact lr | exact rr | exact SV.le_int (by omega) | exact SV.le_any _ | refine And.intro ?_ ?_)); done)⟩)
    | (refine .ret _ ?_
       conv => whnf
       refine ⟨[], ⟨?_, rfl⟩, trivial⟩
       conv => lhs; whnf
       congr 2
       exact (hbad _ (by omega) (by decide) (by clear p2 hbad hk hx; simp only [e1, toNat_pred] at *; unfold vehE1 strLe; grind)).symm)
 have hil : i = f.veh.length := by omega
 subst hil
 have F1 := firstAt_zero p2
 clear hbad hx p2
 conv => whnf
 repeat' (first | (refine CallX.exact (z177 f hk (vehE_sorted F1)) rfl rfl ?_; rotate_right; conv => whnf) | (refine br_intro ?_ ?_ <;> intro hb <;> (try simp only [brs] at hb) <;> conv => whnf) | (refine RegX.rule (id := 1) hT rfl [] oUFlM43_1 (by decide +kernel) ?_; conv => whnf) | (refine RegX.rule (id := 9) hT rfl [] oUFlM43_9 (by decide +kernel) ?_; conv => whnf) | omega | (refine And.intro ?_ ?_; ((try dsimp only); first | omega | (refine szA rfl ?_; omega) | (refine szB rfl ?_; omega) | (unfold inI64; omega) | exact rfl | (simp only [List.toList_toArray, List.length_cons, List.length_nil]; omega) | (simp only [lns] at *; omega) | decide | (unfold inI64; decide)); conv => whnf) | decide | assumption)
 all_goals try (exfalso; omega)
 refine .ret _ ?_
 conv => whnf
 refine ⟨[], ⟨?_, rfl⟩, trivial⟩
 conv => lhs; whnf
 congr 2
 unfold fltE pltsE
 simp [F0, F1]
end Go.Proofs.YtobgeiclibhiiaaGreatDoor
