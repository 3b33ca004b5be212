/- PlacesLeast is proved: for every input the law returns true, and its argument reads afterwards as it read before. Conditions: those of the given row alone. -/
import Derived.Test.YtellmmmohdjpeaaDoorPlConOct
set_option linter.unusedVariables false
set_option linter.unusedSimpArgs false
set_option maxRecDepth 20000
namespace Go.Proofs.YtellmmmohdjpeaaDoor
open Go Go.Eng
abbrev PSt := List Plc × Int
def foldN (f : Nat → PSt → PSt) : Nat → PSt → PSt
  | 0, st => st
  | n + 1, st => f n (foldN f n st)
def plN (s : List Slt) (w : List Wnt) (l : List Plc) (k : Nat) : Plc := ⟨(w.getD l.length wn0).v, (s.getD k sl0).day⟩
def canP (s : List Slt) (w : List Wnt) (l : List Plc) (k : Nat) : Prop :=
  cntD l (s.getD k sl0).day l.length < (s.getD k sl0).many ∧ (w.getD l.length wn0).fr ≤ (s.getD k sl0).day ∧ (s.getD k sl0).day < (w.getD l.length wn0).to
instance (s : List Slt) (w : List Wnt) (l : List Plc) (k : Nat) : Decidable (canP s w l k) := inferInstanceAs (Decidable (_ ∧ _ ∧ _))
/-- The search: with d vehicles to place after l. The state: the best placing and what it loses, or -1. -/
def srch (s : List Slt) (w : List Wnt) (b : List Bsy) : Nat → List Plc → PSt → PSt
  | 0, l, st => if 0 ≤ st.2 ∧ st.2 ≤ lostA b l then st else (l, lostA b l)
  | d + 1, l, st => if 0 ≤ st.2 ∧ st.2 ≤ lostA b l then st else foldN (fun k st => if canP s w l k then srch s w b d (l ++ [plN s w l k]) st else st) s.length st
theorem getD_app_lt {α : Type} {l m : List α} {i : Nat} {z : α} (h : i < l.length) : (l ++ m).getD i z = l.getD i z := by
  rw [List.getD_eq_getElem?_getD, List.getD_eq_getElem?_getD, List.getElem?_append_left h]
theorem getD_app_end {α : Type} {l : List α} {x z : α} : (l ++ [x]).getD l.length z = x := by
  rw [List.getD_eq_getElem?_getD, List.getElem?_append_right (Nat.le_refl _)]; simp
theorem getD_take' {α : Type} {l : List α} {n i : Nat} {z : α} (h : i < n) : (l.take n).getD i z = l.getD i z := by
  rw [List.getD_eq_getElem?_getD, List.getD_eq_getElem?_getD, List.getElem?_take_of_lt h]
theorem cntD_app {l m : List Plc} {day : Int} : ∀ {n : Nat}, n ≤ l.length → cntD (l ++ m) day n = cntD l day n := by
  intro n
  induction n with
  | zero => intro _; rfl
  | succ n ih => intro h; rw [cntD, cntD, ih (by omega), getD_app_lt (by omega)]
theorem cntD_snoc (l : List Plc) (p : Plc) (day : Int) : cntD (l ++ [p]) day (l.length + 1) = cntD l day l.length + (if p.day = day then 1 else 0) := by
  rw [cntD, cntD_app (Nat.le_refl _), getD_app_end]
theorem sumN_congr {f g : Nat → Int} : ∀ {n : Nat}, (∀ i, i < n → f i = g i) → sumN f n = sumN g n := by
  intro n
  induction n with
  | zero => intro _; rfl
  | succ n ih => intro h; rw [sumN, sumN, ih (fun i hi => h i (by omega)), h n (by omega)]
theorem lostA_snoc (b : List Bsy) (l : List Plc) (p : Plc) : lostA b (l ++ [p]) = lostA b l + lostP b p := by
  unfold lostA
  rw [show (l ++ [p]).length = l.length + 1 by simp, sumN, getD_app_end, sumN_congr (fun i hi => by rw [getD_app_lt hi])]
theorem lostP_bd {b : List Bsy} (hb : bsysE b = 0) (p : Plc) : 0 ≤ lostP b p ∧ lostP b p ≤ 200000000 := by
  obtain ⟨b1, b2⟩ := bsys_bd hb
  have := sumN_bd (f := fun i => lostC (b.getD i bs0) p) (c := 1000000) (n := b.length) (fun i hi => lostC_bd (b2 i hi))
  unfold lostP
  omega
theorem lostA_bd {b : List Bsy} (hb : bsysE b = 0) (l : List Plc) (hl : l.length ≤ 6) : 0 ≤ lostA b l ∧ lostA b l ≤ 1200000000 := by
  have := sumN_bd (f := fun j => lostP b (l.getD j pl0)) (c := 200000000) (n := l.length) (fun i hi => lostP_bd hb _)
  unfold lostA
  omega
def inS (s : List Slt) (w : List Wnt) (l : List Plc) : Prop := ∀ i, i < l.length → ((∃ k, k < s.length ∧ (s.getD k sl0).day = (l.getD i pl0).day) ∧ (w.getD i wn0).fr ≤ (l.getD i pl0).day ∧ (l.getD i pl0).day < (w.getD i wn0).to) ∧ (l.getD i pl0).v = (w.getD i wn0).v
structure good (s : List Slt) (w : List Wnt) (l : List Plc) : Prop where
  len : l.length ≤ w.length
  ins : inS s w l
  room : ∀ k, k < s.length → cntD l (s.getD k sl0).day l.length ≤ (s.getD k sl0).many
theorem good_nil {s : List Slt} (w : List Wnt) (hs : sltsE s = 0) : good s w [] where
  len := by simp
  ins := fun i hi => absurd hi (by simp)
  room := fun k hk => by
    have := (slts_bd hs).2 (s.getD k sl0) (getD_mem hk)
    show (0 : Int) ≤ _
    omega
theorem day_inj {s : List Slt} (hs : sltsE s = 0) {j k : Nat} (hj : j < s.length) (hk : k < s.length) (h : (s.getD j sl0).day = (s.getD k sl0).day) : j = k := by
  rcases Nat.lt_trichotomy j k with q | q | q
  · have := slts_inc hs q hk; omega
  · exact q
  · have := slts_inc hs q hj; omega
theorem good_snoc {s : List Slt} {w : List Wnt} {l : List Plc} (hs : sltsE s = 0) (g : good s w l) (hw : l.length < w.length) {k : Nat} (hk : k < s.length) (hc : canP s w l k) : good s w (l ++ [plN s w l k]) where
  len := by simp; omega
  ins := fun i hi => by
    simp at hi
    rcases Nat.lt_or_ge i l.length with q | q
    · rw [getD_app_lt q]; exact g.ins i q
    · have : i = l.length := by omega
      subst this
      rw [getD_app_end]
      exact ⟨⟨⟨k, hk, rfl⟩, hc.2⟩, rfl⟩
  room := fun j hj => by
    rw [show (l ++ [plN s w l k]).length = l.length + 1 by simp, cntD_snoc]
    have h1 := g.room j hj
    split
    · rename_i hq
      have : k = j := day_inj hs hk hj hq
      subst this
      have := hc.1
      omega
    · omega
theorem ixF_some {p : Nat → Bool} {n k : Nat} (hk : k < n) (h : p k = true) : 0 ≤ ixF p n := by
  have hb := ixF_bd (p := p) (n := n)
  rcases Int.lt_or_le (ixF p n) 0 with q | q
  · exfalso
    have hn : ∀ m, ixF p m < 0 → ∀ j, j < m → p j = false := by
      intro m
      induction m with
      | zero => intro _ j hj; omega
      | succ m ih =>
        intro hm j hj
        rw [ixF] at hm
        split at hm
        · rename_i hz
          by_cases hjm : j = m
          · subst hjm
            split at hm
            · omega
            · rename_i hf; simpa using hf
          · exact ih (by omega) j (by omega)
        · rename_i hz; have := (ixF_bd (p := p) (n := m)).1; omega
    rw [hn n q k hk] at h
    cases h
  · exact q
theorem good_placed {s : List Slt} {w : List Wnt} {l : List Plc} (g : good s w l) : placedE s (w.take l.length) l = 0 := by
  have hlen : (w.take l.length).length = l.length := by rw [List.length_take]; have := g.len; omega
  have hn : namesB (w.take l.length) l := ⟨hlen, fun i hi => by rw [getD_take' (by omega)]; exact ((g.ins i (by omega)).2).symm⟩
  have hset : ∀ j, j < l.length → setE s (w.take l.length) l j = 0 := fun j hj => by
    obtain ⟨⟨⟨k, hk, hd⟩, h2, h3⟩, h4⟩ := g.ins j hj
    unfold setE
    simp only
    rw [getD_take' hj, if_neg (by omega), if_neg]
    have := ixF_some (p := fun i => decide ((s.getD i sl0).day = (l.getD j pl0).day)) hk (by simpa using hd)
    unfold sltIx
    omega
  unfold placedE
  rw [if_neg (fun q => q hn), firstAt_zero hset, if_neg (by simp), firstAt_zero (fun k hk => ?_)]
  unfold roomE
  rw [if_neg]
  have := g.room k hk
  omega
theorem placed_can {s : List Slt} {w : List Wnt} {l : List Plc} (hw : l.length < w.length) {k : Nat} (hk : k < s.length) (h : placedE s (w.take (l.length + 1)) (l ++ [plN s w l k]) = 0) : canP s w l k := by
  have hlen : (l ++ [plN s w l k]).length = l.length + 1 := by simp
  unfold placedE at h
  split at h
  · cases h
  split at h
  · rename_i h1; exact absurd h h1
  rename_i h1
  have h2 := firstAt_all (by simpa using h1) l.length (by omega)
  have h3 := firstAt_all h k hk
  unfold setE at h2
  simp only at h2
  rw [getD_take' (by omega), getD_app_end] at h2
  unfold roomE at h3
  rw [hlen, cntD_snoc, if_pos (show (plN s w l k).day = (s.getD k sl0).day from rfl)] at h3
  have e1 : (plN s w l k).day = (s.getD k sl0).day := rfl
  rw [e1] at h2
  refine ⟨?_, ?_, ?_⟩
  · split at h3
    · cases h3
    · omega
  · split at h2
    · cases h2
    · omega
  · split at h2
    · cases h2
    · omega
theorem wnts_key {w : List Wnt} (h : wntsE w = 0) : w.length ≤ 6 ∧ ∀ i, i < w.length → wntE w i = 0 := by
  unfold wntsE at h
  split at h
  · cases h
  · exact ⟨by omega, firstAt_all h⟩
theorem wnts_take {w : List Wnt} (h : wntsE w = 0) (n : Nat) (hn : n ≤ w.length) : wntsE (w.take n) = 0 := by
  obtain ⟨h1, h2⟩ := wnts_key h
  have hl : (w.take n).length = n := by rw [List.length_take]; omega
  unfold wntsE
  rw [hl, if_neg (by omega), firstAt_zero (fun i hi => ?_)]
  have := h2 i (by omega)
  unfold wntE at this ⊢
  rw [getD_take' hi]
  rcases Nat.eq_zero_or_pos i with q | q
  · subst q; exact this
  · rw [getD_take' (show i - 1 < n by omega)]; exact this
theorem good_plcs {s : List Slt} {w : List Wnt} {l : List Plc} (hs : sltsE s = 0) (hw : wntsE w = 0) (g : inS s w l) (hl : l.length ≤ w.length) : plcsE l = 0 := by
  obtain ⟨h1, h2⟩ := wnts_key hw
  unfold plcsE
  rw [if_neg (by omega), firstAt_zero (fun i hi => ?_)]
  have := h2 i (by omega)
  obtain ⟨⟨⟨k, hk, hd⟩, _⟩, h4⟩ := g i hi
  have hday := ((slts_bd hs).2 (s.getD k sl0) (getD_mem hk)).1
  unfold wntE at this
  unfold plcE
  simp only at this ⊢
  rw [h4]
  rcases Nat.eq_zero_or_pos i with q | q
  · subst q
    simp only [Nat.lt_irrefl, false_and, if_false] at this ⊢
    split at this
    · cases this
    · rename_i hq; rw [if_neg hq, if_neg (by omega)]
  · rw [(g (i - 1) (by omega)).2]
    split at this
    · cases this
    · rename_i hq
      rw [if_neg hq]
      split at this
      · cases this
      · rename_i hq2; rw [if_neg hq2, if_neg (by omega)]
theorem snoc_plcs {s : List Slt} {w : List Wnt} {l : List Plc} (hs : sltsE s = 0) (hw : wntsE w = 0) (g : good s w l) (hl : l.length < w.length) {k : Nat} (hk : k < s.length) : plcsE (l ++ [plN s w l k]) = 0 := by
  obtain ⟨h1, h2⟩ := wnts_key hw
  have hlen : (l ++ [plN s w l k]).length = l.length + 1 := by simp
  unfold plcsE
  rw [hlen, if_neg (by omega), firstAt_zero (fun i hi => ?_)]
  have := h2 i (by omega)
  have hv : ∀ j, j ≤ l.length → ((l ++ [plN s w l k]).getD j pl0).v = (w.getD j wn0).v := fun j hj => by
    rcases Nat.lt_or_ge j l.length with q | q
    · rw [getD_app_lt q]; exact (g.ins j q).2
    · have : j = l.length := by omega
      subst this
      rw [getD_app_end]; rfl
  have hdy : 0 ≤ ((l ++ [plN s w l k]).getD i pl0).day ∧ ((l ++ [plN s w l k]).getD i pl0).day ≤ 4000 := by
    rcases Nat.lt_or_ge i l.length with q | q
    · rw [getD_app_lt q]
      obtain ⟨⟨⟨k', hk', hd⟩, _⟩, _⟩ := g.ins i q
      rw [← hd]
      exact ((slts_bd hs).2 (s.getD k' sl0) (getD_mem hk')).1
    · have : i = l.length := by omega
      subst this
      rw [getD_app_end]
      exact ((slts_bd hs).2 (s.getD k sl0) (getD_mem hk)).1
  unfold wntE at this
  unfold plcE
  simp only at this ⊢
  rw [hv i (by omega), hv (i - 1) (by omega)]
  split at this
  · cases this
  · rename_i hq
    rw [if_neg hq]
    split at this
    · cases this
    · rename_i hq2; rw [if_neg hq2, if_neg (by omega)]
/-- What room is left. -/
def roomL (s : List Slt) (l : List Plc) : List Int := (List.range s.length).map fun k => (s.getD k sl0).many - cntD l (s.getD k sl0).day l.length
theorem roomL_len (s : List Slt) (l : List Plc) : (roomL s l).length = s.length := by simp [roomL]
theorem roomL_get {s : List Slt} (l : List Plc) {k : Nat} (hk : k < s.length) : (roomL s l).getD k 0 = (s.getD k sl0).many - cntD l (s.getD k sl0).day l.length := by
  rw [List.getD_eq_getElem?_getD]
  simp [roomL, hk]
theorem roomL_snoc {s : List Slt} (w : List Wnt) (l : List Plc) (hs : sltsE s = 0) {k : Nat} (hk : k < s.length) : (roomL s l).set k ((roomL s l).getD k 0 - 1) = roomL s (l ++ [plN s w l k]) := by
  apply List.ext_getElem
  · simp [roomL]
  intro j h1 h2
  have hj : j < s.length := by simpa [roomL] using h1
  rw [List.getElem_set]
  have e1 : (roomL s (l ++ [plN s w l k]))[j] = (s.getD j sl0).many - cntD (l ++ [plN s w l k]) (s.getD j sl0).day (l.length + 1) := by simp [roomL]
  rw [e1, cntD_snoc]
  split
  · rename_i q
    subst q
    rw [roomL_get l hk, if_pos (show (plN s w l k).day = (s.getD k sl0).day from rfl)]
    omega
  · rename_i q
    rw [if_neg (show ¬ (plN s w l k).day = (s.getD j sl0).day from fun e => q (day_inj hs hk hj e))]
    simp [roomL]
theorem roomL_back {s : List Slt} (w : List Wnt) (l : List Plc) (hs : sltsE s = 0) {k : Nat} (hk : k < s.length) : (roomL s (l ++ [plN s w l k])).set k ((roomL s (l ++ [plN s w l k])).getD k 0 + 1) = roomL s l := by
  rw [← roomL_snoc w l hs hk, List.set_set]
  apply List.ext_getElem
  · simp
  intro j h1 h2
  rw [List.getElem_set]
  split
  · rename_i q
    subst q
    have hlt : k < (roomL s l).length := h2
    rw [List.getD_eq_getElem?_getD, List.getElem?_set_self hlt, Option.getD_some, List.getD_eq_getElem?_getD, List.getElem?_eq_getElem hlt, Option.getD_some]
    omega
  · rfl
theorem foldN_bd {f : Nat → PSt → PSt} {q : PSt → Prop} : ∀ {n : Nat} {st : PSt}, (∀ k st, k < n → q st → q (f k st)) → q st → q (foldN f n st) := by
  intro n
  induction n with
  | zero => intro st _ h; exact h
  | succ n ih => intro st hf h; exact hf n _ (by omega) (ih (fun k st hk h => hf k st (by omega) h) h)
end Go.Proofs.YtellmmmohdjpeaaDoor
set_option maxRecDepth 20000
namespace Go.Proofs.YtellmmmohdjpeaaDoor
open Go Go.Eng
abbrev plB (l : List Plc) : Res := seqB 130 2 plF pl0 l
-- slices.Clone of placed ones, of an own row: what it gives back is changed no more
theorem s140 (l : List Plc) (hl : l.length ≤ 2^20) : FSpec Tryd.prog 140 [.buf 1000001] [(1000001, plB l)] (fun y r => y = .d (plcs l) ∧ r = [(1000001, plB l)]) := by
  refine spec_of hT (C := [5]) Tryd.func140 rfl Tryd.call140 rfl rfl rfl ?_
  conv => whnf
  rintro b hbn
  conv => whnf
  repeat' (first
    | (refine br_intro (fun hb => ?_) (fun hb => ?_) <;> (try simp only [decide_eq_true_eq, decide_eq_false_iff_not, Bool.not_eq_true', Bool.not_eq_false', Bool.and_eq_true, Bool.or_eq_true, beq_iff_eq, not_and, Int.not_le, Int.not_lt, Int.toNat_natCast, beq_eq_false_iff_ne, ne_eq, eq_self, not_true_eq_false, not_false_eq_true] at hb) <;> (conv => whnf))
    | omega
    | (refine And.intro ?_ ?_; ((try dsimp only); first | omega | (refine ⟨by omega, by omega, Int.le_trans (Int.mul_le_mul_of_nonneg_right (Int.ofNat_le.2 (Nat.le_of_ble_eq_true (rfl : Nat.ble _ 1024 = true))) (by omega)) (by omega), by omega⟩) | (refine Nat.le_trans (Nat.mul_le_mul_left _ (Nat.le_of_ble_eq_true (rfl : Nat.ble _ 1024 = true))) ?_; omega) | (unfold inI64; omega) | (constructor <;> omega) | (simp only [inI64, List.length_cons, List.length_append, List.length_nil, List.length_set] at *; omega) | decide | (unfold inI64; decide)); conv => whnf)
    | omega | decide | assumption)
  · have : l = [] := List.eq_nil_of_length_eq_zero (hbn (by assumption))
    subst this
    refine .weak _ ?_
    (conv => whnf)
    exact ⟨_, _, SV.le_nilS, ⟨rfl, rfl⟩, Res.le_refl _, trivial⟩
  · refine .freeze _ 7 130 2 _ _ rfl (.weak _ ?_)
    (conv => whnf)
    exact ⟨_, _, SV.le_ro (by simp) (fun i hi => by rw [appGet_ge (by omega)]; rfl), ⟨rfl, rfl⟩, Res.le_refl _, trivial⟩
-- the same, of a frozen row
theorem s140f (l : List Plc) (hl : l.length ≤ 2^20) : FSpec Tryd.prog 140 [.d (plcs l)] [] (fun y r => y = .d (plcs l) ∧ r = []) := by
  refine spec_of hT (C := [5]) Tryd.func140 rfl Tryd.call140 rfl rfl rfl ?_
  conv => whnf
  rintro b hbn
  conv => whnf
  repeat' (first
    | (refine br_intro (fun hb => ?_) (fun hb => ?_) <;> (try simp only [decide_eq_true_eq, decide_eq_false_iff_not, Bool.not_eq_true', Bool.not_eq_false', Bool.and_eq_true, Bool.or_eq_true, beq_iff_eq, not_and, Int.not_le, Int.not_lt, Int.toNat_natCast, beq_eq_false_iff_ne, ne_eq, eq_self, not_true_eq_false, not_false_eq_true] at hb) <;> (conv => whnf))
    | omega
    | (refine And.intro ?_ ?_; ((try dsimp only); first | omega | (refine ⟨by omega, by omega, Int.le_trans (Int.mul_le_mul_of_nonneg_right (Int.ofNat_le.2 (Nat.le_of_ble_eq_true (rfl : Nat.ble _ 1024 = true))) (by omega)) (by omega), by omega⟩) | (refine Nat.le_trans (Nat.mul_le_mul_left _ (Nat.le_of_ble_eq_true (rfl : Nat.ble _ 1024 = true))) ?_; omega) | (unfold inI64; omega) | (constructor <;> omega) | (simp only [inI64, List.length_cons, List.length_append, List.length_nil, List.length_set] at *; omega) | decide | (unfold inI64; decide)); conv => whnf)
    | omega | decide | assumption)
  · have : l = [] := List.eq_nil_of_length_eq_zero (hbn (by assumption))
    subst this
    refine .weak _ ?_
    (conv => whnf)
    exact ⟨_, _, SV.le_nilS, ⟨rfl, rfl⟩, trivial⟩
  · refine .freeze _ 7 130 2 _ _ rfl (.weak _ ?_)
    (conv => whnf)
    exact ⟨_, _, SV.le_ro (by simp) (fun i hi => by rw [appGet_ge (by omega)]; rfl), ⟨rfl, rfl⟩, trivial⟩
-- the same, of a row that is changed no more: what it gives back is the caller's own
theorem s140r (l : List Plc) (hl : l.length ≤ 2^20) : FSpec Tryd.prog 140 [.d (plcs l)] [] (fun y r => (y = .d .nilsl ∧ l = [] ∧ r = []) ∨ (y = .buf 7 ∧ r = [(7, plB l)])) := by
  refine spec_of hT (C := [5]) Tryd.func140 rfl Tryd.call140 rfl rfl rfl ?_
  conv => whnf
  rintro b hbn
  conv => whnf
  repeat' (first
    | (refine br_intro (fun hb => ?_) (fun hb => ?_) <;> (try simp only [decide_eq_true_eq, decide_eq_false_iff_not, Bool.not_eq_true', Bool.not_eq_false', Bool.and_eq_true, Bool.or_eq_true, beq_iff_eq, not_and, Int.not_le, Int.not_lt, Int.toNat_natCast, beq_eq_false_iff_ne, ne_eq, eq_self, not_true_eq_false, not_false_eq_true] at hb) <;> (conv => whnf))
    | omega
    | (refine And.intro ?_ ?_; ((try dsimp only); first | omega | (refine ⟨by omega, by omega, Int.le_trans (Int.mul_le_mul_of_nonneg_right (Int.ofNat_le.2 (Nat.le_of_ble_eq_true (rfl : Nat.ble _ 1024 = true))) (by omega)) (by omega), by omega⟩) | (refine Nat.le_trans (Nat.mul_le_mul_left _ (Nat.le_of_ble_eq_true (rfl : Nat.ble _ 1024 = true))) ?_; omega) | (unfold inI64; omega) | (constructor <;> omega) | (simp only [inI64, List.length_cons, List.length_append, List.length_nil, List.length_set] at *; omega) | decide | (unfold inI64; decide)); conv => whnf)
    | omega | decide | assumption)
  · have : l = [] := List.eq_nil_of_length_eq_zero (hbn (by assumption))
    refine .ret _ ?_
    conv => whnf
    exact ⟨_, .inl ⟨rfl, this, rfl⟩, trivial⟩
  · refine .ret _ ?_
    conv => whnf
    refine ⟨_, .inr ⟨rfl, rfl⟩, Res.le_buf (by simp) (fun i hi => ?_), trivial⟩
    rw [appGet_ge (by omega)]; rfl
theorem pl_eq {a b : Plc} : a = b ↔ a.v = b.v ∧ a.day = b.day := by cases a; cases b; simp
instance : DecidableEq Plc := fun _ _ => decidable_of_iff _ pl_eq.symm
-- slices.Equal of placed ones
theorem s77 (l m : List Plc) (hl : l.length ≤ 2^40) : FSpec Tryd.prog 77 [.d (plcs l), .d (plcs m)] [] (fun x r => x = .d (.bool (decide (l = m))) ∧ r = []) := by
  refine spec_of hT (C := []) Tryd.func77 rfl Tryd.call77 rfl rfl rfl ?_
  conv => whnf
  repeat' (first
    | (refine br_intro (fun hb => ?_) (fun hb => ?_) <;> (try simp only [decide_eq_true_eq, decide_eq_false_iff_not, Bool.not_eq_true', Bool.not_eq_false', Bool.and_eq_true, Bool.or_eq_true, beq_iff_eq, not_and, Int.not_le, Int.not_lt, Int.toNat_natCast, beq_eq_false_iff_ne, ne_eq, eq_self, not_true_eq_false, not_false_eq_true] at hb) <;> (conv => whnf))
    | (refine RegX.rule (id := 6) hT rfl [] [(0, []), (1, [0]), (2, []), (3, []), (4, [0, 1, 2, 3]), (5, [0, 1, 2, 3, 4]), (6, [0, 1, 2, 3]), (7, [0, 1, 2, 3]), (8, [])] (by decide +kernel) ?_; conv => whnf)
    | omega
    | (refine And.intro ?_ ?_; ((try dsimp only); first | omega | (refine ⟨by omega, by omega, Int.le_trans (Int.mul_le_mul_of_nonneg_right (Int.ofNat_le.2 (Nat.le_of_ble_eq_true (rfl : Nat.ble _ 1024 = true))) (by omega)) (by omega), by omega⟩) | (refine Nat.le_trans (Nat.mul_le_mul_left _ (Nat.le_of_ble_eq_true (rfl : Nat.ble _ 1024 = true))) ?_; omega) | (unfold inI64; omega) | (constructor <;> omega) | (simp only [inI64, List.length_cons, List.length_append, List.length_nil, List.length_set] at *; omega) | decide | (unfold inI64; decide)); conv => whnf)
    | omega | decide | assumption)
  · refine .ret _ ?_
    conv => whnf
    refine ⟨[], ⟨?_, rfl⟩, trivial⟩
    conv => lhs; whnf
    have : ¬ l = m := fun q => by subst q; simp at hb
    simp [this]
  have hlen : l.length = m.length := by
    omega
  refine LoopX.rule hT (C := []) (ι := Nat) (fun i => i ≤ l.length ∧ ∀ j, j < i → l.getD j pl0 = m.getD j pl0) (fun i => mkSt [(0, .d (plcs l)), (1, .d (plcs m)), (12, .d (.int .i64 l.length)), (13, .d (.int .i64 i))] []) (fun i => l.length - i) 0 ⟨by omega, by omega⟩ (by refine Entails.mk' [] rfl rfl ?_ ?_ <;> repeat' (first | exact True.intro | exact SV.le_refl _ | exact Res.le_refl _ | exact SV.le_int (by omega) | exact SV.le_any _ | refine And.intro ?_ ?_)) ?_
  rintro i ⟨p1, p2⟩
  have e1 : (i : Int).toNat = i := Int.toNat_natCast i
  conv => whnf
  repeat' (first
    | (refine br_intro (fun hb => ?_) (fun hb => ?_) <;> (try simp only [decide_eq_true_eq, decide_eq_false_iff_not, Bool.not_eq_true', Bool.not_eq_false', Bool.and_eq_true, Bool.or_eq_true, beq_iff_eq, not_and, Int.not_le, Int.not_lt, Int.toNat_natCast, beq_eq_false_iff_ne, ne_eq, eq_self, not_true_eq_false, not_false_eq_true] at hb) <;> (conv => whnf))
    | (refine RegX.rule (id := 6) hT rfl [] [(0, []), (1, [0]), (2, []), (3, []), (4, [0, 1, 2, 3]), (5, [0, 1, 2, 3, 4]), (6, [0, 1, 2, 3]), (7, [0, 1, 2, 3]), (8, [])] (by decide +kernel) ?_; conv => whnf)
    | omega
    | (refine And.intro ?_ ?_; ((try dsimp only); first | omega | (refine ⟨by omega, by omega, Int.le_trans (Int.mul_le_mul_of_nonneg_right (Int.ofNat_le.2 (Nat.le_of_ble_eq_true (rfl : Nat.ble _ 1024 = true))) (by omega)) (by omega), by omega⟩) | (refine Nat.le_trans (Nat.mul_le_mul_left _ (Nat.le_of_ble_eq_true (rfl : Nat.ble _ 1024 = true))) ?_; omega) | (unfold inI64; omega) | (constructor <;> omega) | (simp only [inI64, List.length_cons, List.length_append, List.length_nil, List.length_set] at *; omega) | decide | (unfold inI64; decide)); conv => whnf)
    | omega | decide | assumption)
  · refine .ret _ ?_
    conv => whnf
    refine ⟨[], ⟨?_, rfl⟩, trivial⟩
    conv => lhs; whnf
    have : ¬ l = m := fun q => by subst q; simp at hb
    simp [this]
  · exact ⟨i + 1, ⟨by omega, all_step p2 (by rw [pl_eq]; simpa [and_assoc] using hb)⟩, by omega, (by refine Entails.mk' [] rfl rfl ?_ ?_ <;> repeat' (first | exact True.intro | exact SV.le_refl _ | exact Res.le_refl _ | exact SV.le_int (by omega) | exact SV.le_any _ | refine And.intro ?_ ?_))⟩
  · refine .ret _ ?_
    conv => whnf
    refine ⟨[], ⟨?_, rfl⟩, trivial⟩
    conv => lhs; whnf
    have : i = l.length := by omega
    subst this
    simp [eq_of_getD pl0 hlen p2]
end Go.Proofs.YtellmmmohdjpeaaDoor
set_option maxRecDepth 20000
namespace Go.Proofs.YtellmmmohdjpeaaDoor
open Go Go.Eng
theorem SV.le_takeP {α : Type} {f : α → List DV} {d : α} {l : List α} {k n m : Nat} {h : Nat → List DV} (hn : n = m) (hm : m ≤ l.length) (hg : ∀ i, i < m → h i = rowF f d l i) :
    SV.le (.d (.ro k n h)) (.d (seqD k f d (l.take m))) :=
  SV.le_ro (by rw [List.length_take]; omega) (fun i hi => by
    rw [hg i (by omega)]
    simp only [rowF]
    rw [List.getD_eq_getElem?_getD, List.getD_eq_getElem?_getD, List.getElem?_take_of_lt (by omega)])
abbrev tryF : SV := .fn 139 [.ptr 1000000 0, .ptr 1000001 0, .ptr 1000002 0, .ptr 1000003 0, .ptr 1000004 0, .ptr 1000005 0, .ptr 1000006 0]
abbrev tryR (s : List Slt) (w : List Wnt) (b : List Bsy) (f : Bool) (v : Int) (l : List Plc) : List (Nat × Res) :=
  [(1000000, .cells 118 [.d (bsys b)]), (1000001, .cells 4 [.d (.bool f)]), (1000002, .cells 3 [.d (.int .i64 v)]), (1000003, .cells 116 [.d (wnts w)]), (1000004, .cells 120 [.d (plcs l)]), (1000005, .cells 114 [.d (slts s)]), (1000006, .cells 233 [tryF])]
abbrev tryC (s : List Slt) (w : List Wnt) (b : List Bsy) (st : PSt) : List (Nat × Res) := tryR s w b (decide (0 ≤ st.2)) (if 0 ≤ st.2 then st.2 else 0) st.1
theorem tryC_yes {s : List Slt} {w : List Wnt} {b : List Bsy} {st : PSt} (h : 0 ≤ st.2) : tryC s w b st = tryR s w b true st.2 st.1 := by
  unfold tryC; rw [decide_eq_true h, if_pos h]
theorem tryC_no {s : List Slt} {w : List Wnt} {b : List Bsy} {st : PSt} (h : ¬ 0 ≤ st.2) : tryC s w b st = tryR s w b false 0 st.1 := by
  unfold tryC; rw [decide_eq_false h, if_neg h]
-- the search of the reference, at its leaves
theorem s139z (s : List Slt) (w : List Wnt) (b : List Bsy) (hs : sltsE s = 0) (hw : wntsE w = 0) (hb0 : bsysE b = 0) (l : List Plc) (hd : l.length = w.length) (g : good s w l) (st : PSt) :
    FSpec Tryd.prog 139 [.d (plcs l), .ptr 1000000 0, .ptr 1000001 0, .ptr 1000002 0, .ptr 1000003 0, .ptr 1000004 0, .ptr 1000005 0, .ptr 1000006 0] (tryC s w b st) (fun y r => y = .tup [] ∧ r = tryC s w b (srch s w b 0 l st)) := by
  have hpl := good_plcs hs hw g.ins g.len
  have hw6 := (wnts_key hw).1
  have h0 := (lostA_bd hb0 l (by omega)).1
  by_cases hf : 0 ≤ st.2
  · rw [tryC_yes hf]
    refine spec_of hT (C := []) Tryd.func139 rfl Tryd.call139 rfl rfl rfl ?_
    conv => whnf
    repeat' (first
      | (refine CallX.exact (s83 b l hb0 hpl) rfl rfl ?_; rotate_right; conv => whnf)
      | (refine CallX.exact (s140f l (by omega)) rfl rfl ?_; rotate_right; conv => whnf)
      | (refine br_intro (fun hb => ?_) (fun hb => ?_) <;> (try simp only [decide_eq_true_eq, decide_eq_false_iff_not, Bool.not_eq_true', Bool.not_eq_false', Bool.and_eq_true, Bool.or_eq_true, beq_iff_eq, not_and, Int.not_le, Int.not_lt, Int.toNat_natCast, beq_eq_false_iff_ne, ne_eq, eq_self, not_true_eq_false, not_false_eq_true] at hb) <;> (conv => whnf))
      | (refine RegX.rule (id := 8) hT rfl [] [(0, []), (2, [0]), (3, [0]), (4, [0, 2, 3]), (5, [0, 2, 3]), (6, [0]), (7, [0]), (1, [2, 3, 4, 5, 6, 7]), (8, []), (9, [])] (by decide +kernel) ?_; conv => whnf)
      | (refine RegX.rule (id := 9) hT rfl [] [(0, []), (1, [0]), (2, [0, 1]), (3, [0, 1]), (4, [0]), (5, [0, 1, 2, 3, 4]), (6, []), (7, [])] (by decide +kernel) ?_; conv => whnf)
      | omega
      | (refine And.intro ?_ ?_; ((try dsimp only); first | omega | (refine ⟨by omega, by omega, Int.le_trans (Int.mul_le_mul_of_nonneg_right (Int.ofNat_le.2 (Nat.le_of_ble_eq_true (rfl : Nat.ble _ 1024 = true))) (by omega)) (by omega), by omega⟩) | (refine Nat.le_trans (Nat.mul_le_mul_left _ (Nat.le_of_ble_eq_true (rfl : Nat.ble _ 1024 = true))) ?_; omega) | (unfold inI64; omega) | (constructor <;> omega) | (simp only [inI64, List.length_cons, List.length_append, List.length_nil, List.length_set] at *; omega) | decide | (unfold inI64; decide)); conv => whnf)
      | omega | decide | assumption)
    · rw [srch, if_pos (by omega), tryC_yes hf]
      refine .ret _ ?_
      conv => whnf
      exact ⟨_, ⟨rfl, rfl⟩, Res.le_refl _, Res.le_refl _, Res.le_refl _, Res.le_refl _, Res.le_refl _, Res.le_refl _, Res.le_refl _, trivial⟩
    · rw [srch, if_neg (by omega), tryC_yes (st := (l, lostA b l)) h0]
      refine .ret _ ?_
      conv => whnf
      exact ⟨_, ⟨rfl, rfl⟩, Res.le_refl _, Res.le_refl _, Res.le_refl _, Res.le_refl _, Res.le_refl _, Res.le_refl _, Res.le_refl _, trivial⟩
  · rw [tryC_no hf]
    refine spec_of hT (C := []) Tryd.func139 rfl Tryd.call139 rfl rfl rfl ?_
    conv => whnf
    repeat' (first
      | (refine CallX.exact (s83 b l hb0 hpl) rfl rfl ?_; rotate_right; conv => whnf)
      | (refine CallX.exact (s140f l (by omega)) rfl rfl ?_; rotate_right; conv => whnf)
      | (refine br_intro (fun hb => ?_) (fun hb => ?_) <;> (try simp only [decide_eq_true_eq, decide_eq_false_iff_not, Bool.not_eq_true', Bool.not_eq_false', Bool.and_eq_true, Bool.or_eq_true, beq_iff_eq, not_and, Int.not_le, Int.not_lt, Int.toNat_natCast, beq_eq_false_iff_ne, ne_eq, eq_self, not_true_eq_false, not_false_eq_true] at hb) <;> (conv => whnf))
      | (refine RegX.rule (id := 8) hT rfl [] [(0, []), (2, [0]), (3, [0]), (4, [0, 2, 3]), (5, [0, 2, 3]), (6, [0]), (7, [0]), (1, [2, 3, 4, 5, 6, 7]), (8, []), (9, [])] (by decide +kernel) ?_; conv => whnf)
      | (refine RegX.rule (id := 9) hT rfl [] [(0, []), (1, [0]), (2, [0, 1]), (3, [0, 1]), (4, [0]), (5, [0, 1, 2, 3, 4]), (6, []), (7, [])] (by decide +kernel) ?_; conv => whnf)
      | omega
      | (refine And.intro ?_ ?_; ((try dsimp only); first | omega | (refine ⟨by omega, by omega, Int.le_trans (Int.mul_le_mul_of_nonneg_right (Int.ofNat_le.2 (Nat.le_of_ble_eq_true (rfl : Nat.ble _ 1024 = true))) (by omega)) (by omega), by omega⟩) | (refine Nat.le_trans (Nat.mul_le_mul_left _ (Nat.le_of_ble_eq_true (rfl : Nat.ble _ 1024 = true))) ?_; omega) | (unfold inI64; omega) | (constructor <;> omega) | (simp only [inI64, List.length_cons, List.length_append, List.length_nil, List.length_set] at *; omega) | decide | (unfold inI64; decide)); conv => whnf)
      | omega | decide | assumption)
    · rw [srch, if_neg (by omega), tryC_yes (st := (l, lostA b l)) h0]
      refine .ret _ ?_
      conv => whnf
      exact ⟨_, ⟨rfl, rfl⟩, Res.le_refl _, Res.le_refl _, Res.le_refl _, Res.le_refl _, Res.le_refl _, Res.le_refl _, Res.le_refl _, trivial⟩
end Go.Proofs.YtellmmmohdjpeaaDoor
set_option maxRecDepth 20000
namespace Go.Proofs.YtellmmmohdjpeaaDoor
open Go Go.Eng
-- the search of the reference
theorem s139 (s : List Slt) (w : List Wnt) (b : List Bsy) (hs : sltsE s = 0) (hw : wntsE w = 0) (hb0 : bsysE b = 0) : ∀ (d : Nat) (l : List Plc), l.length + d = w.length → good s w l → ∀ st : PSt,
    FSpec Tryd.prog 139 [.d (plcs l), .ptr 1000000 0, .ptr 1000001 0, .ptr 1000002 0, .ptr 1000003 0, .ptr 1000004 0, .ptr 1000005 0, .ptr 1000006 0] (tryC s w b st) (fun y r => y = .tup [] ∧ r = tryC s w b (srch s w b d l st)) := by
  intro d
  induction d with
  | zero => intro l hd g st; exact s139z s w b hs hw hb0 l (by omega) g st
  | succ d ih =>
    intro l hd g st
    have hpl := good_plcs hs hw g.ins g.len
    have hw6 := (wnts_key hw).1
    have hs12 := (slts_bd hs).1
    have h0 := (lostA_bd hb0 l (by omega)).1
    have main : ∀ (f : Bool) (v : Int), tryC s w b st = tryR s w b f v st.1 → ¬ (0 ≤ st.2 ∧ st.2 ≤ lostA b l) → (f = true → v = st.2 ∧ 0 ≤ st.2) →
        FSpec Tryd.prog 139 [.d (plcs l), .ptr 1000000 0, .ptr 1000001 0, .ptr 1000002 0, .ptr 1000003 0, .ptr 1000004 0, .ptr 1000005 0, .ptr 1000006 0] (tryR s w b f v st.1) (fun y r => y = .tup [] ∧ r = tryC s w b (srch s w b (d + 1) l st)) := by
      intro f v hC hn hf
      rw [srch, if_neg hn]
      refine spec_of hT (C := []) Tryd.func139 rfl Tryd.call139 rfl rfl rfl ?_
      conv => whnf
      repeat' (first
        | (refine CallX.exact (s83 b l hb0 hpl) rfl rfl ?_; rotate_right; conv => whnf)
        | (refine br_intro (fun hb => ?_) (fun hb => ?_) <;> (try simp only [decide_eq_true_eq, decide_eq_false_iff_not, Bool.not_eq_true', Bool.not_eq_false', Bool.and_eq_true, Bool.or_eq_true, beq_iff_eq, not_and, Int.not_le, Int.not_lt, Int.toNat_natCast, beq_eq_false_iff_ne, ne_eq, eq_self, not_true_eq_false, not_false_eq_true] at hb) <;> (conv => whnf))
        | (refine RegX.rule (id := 8) hT rfl [] [(0, []), (2, [0]), (3, [0]), (4, [0, 2, 3]), (5, [0, 2, 3]), (6, [0]), (7, [0]), (1, [2, 3, 4, 5, 6, 7]), (8, []), (9, [])] (by decide +kernel) ?_; conv => whnf)
        | (refine RegX.rule (id := 9) hT rfl [] [(0, []), (1, [0]), (2, [0, 1]), (3, [0, 1]), (4, [0]), (5, [0, 1, 2, 3, 4]), (6, []), (7, [])] (by decide +kernel) ?_; conv => whnf)
        | omega
        | (refine And.intro ?_ ?_; ((try dsimp only); first | omega | (refine ⟨by omega, by omega, Int.le_trans (Int.mul_le_mul_of_nonneg_right (Int.ofNat_le.2 (Nat.le_of_ble_eq_true (rfl : Nat.ble _ 1024 = true))) (by omega)) (by omega), by omega⟩) | (refine Nat.le_trans (Nat.mul_le_mul_left _ (Nat.le_of_ble_eq_true (rfl : Nat.ble _ 1024 = true))) ?_; omega) | (unfold inI64; omega) | (constructor <;> omega) | (simp only [inI64, List.length_cons, List.length_append, List.length_nil, List.length_set] at *; omega) | decide | (unfold inI64; decide)); conv => whnf)
        | omega | decide | assumption)
      · have := hf (by assumption); exact absurd ⟨this.2, by omega⟩ hn
      all_goals
        refine LoopX.rule hT (C := []) (ι := Nat) (fun k => k ≤ s.length) (fun k => mkSt [(0, .d (plcs l)), (4, .ptr 1000003 0), (6, .ptr 1000005 0), (7, .ptr 1000006 0), (10, .ptr 10 0), (36, .d (slts s)), (37, .d (.int .i64 s.length)), (38, .d (.int .i64 k))]
          ((10, .cells 222 ((wnF (w.getD l.length wn0)).map .d)) :: tryC s w b (foldN (fun k st => if canP s w l k then srch s w b d (l ++ [plN s w l k]) st else st) k st))) (fun k => s.length - k) 0 (by omega) ?_ ?_
        · rw [foldN, hC]
          exact (by refine Entails.mk' [(10, 10), (1000000, 1000000), (1000001, 1000001), (1000002, 1000002), (1000003, 1000003), (1000004, 1000004), (1000005, 1000005), (1000006, 1000006)] rfl rfl ?_ ?_ <;> repeat' (first | exact True.intro | exact SV.le_refl _ | exact Res.le_refl _ | exact SV.le_int (by omega) | exact SV.le_any _ | refine And.intro ?_ ?_))
        rintro k p1
        have e1 : (k : Int).toNat = k := Int.toNat_natCast k
        have h81 : k < s.length → FSpec Tryd.prog 81 [.d (slts s), .d (wnts (w.take (l.length + 1))), .d (plcs (l ++ [plN s w l k]))] [] (fun x r => x = .d (.int .i64 (placedE s (w.take (l.length + 1)) (l ++ [plN s w l k]))) ∧ r = []) :=
          fun hk => s81 s (w.take (l.length + 1)) (l ++ [plN s w l k]) hs (wnts_take hw _ (by omega)) (snoc_plcs hs hw g (by omega) hk)
        obtain ⟨q, hq⟩ : ∃ q, q = foldN (fun k st => if canP s w l k then srch s w b d (l ++ [plN s w l k]) st else st) k st := ⟨_, rfl⟩
        have hstep : foldN (fun k st => if canP s w l k then srch s w b d (l ++ [plN s w l k]) st else st) (k + 1) st = if canP s w l k then srch s w b d (l ++ [plN s w l k]) q else q := by rw [hq]; rfl
        rw [← hq]
        conv => whnf
        repeat' (first
          | (refine CallX.of (s140r l (by omega)) [(7, 43)] rfl ⟨SV.le_refl _, trivial⟩ trivial rfl rfl ?_; rintro x rout (⟨rfl, hl0, rfl⟩ | ⟨rfl, rfl⟩) <;> (refine ⟨rfl, ?_⟩; conv => whnf); conv => whnf)
          | (refine br_intro (fun hb => ?_) (fun hb => ?_) <;> (try simp only [decide_eq_true_eq, decide_eq_false_iff_not, Bool.not_eq_true', Bool.not_eq_false', Bool.and_eq_true, Bool.or_eq_true, beq_iff_eq, not_and, Int.not_le, Int.not_lt, Int.toNat_natCast, beq_eq_false_iff_ne, ne_eq, eq_self, not_true_eq_false, not_false_eq_true] at hb) <;> (conv => whnf))
          | (refine RegX.rule (id := 8) hT rfl [] [(0, []), (2, [0]), (3, [0]), (4, [0, 2, 3]), (5, [0, 2, 3]), (6, [0]), (7, [0]), (1, [2, 3, 4, 5, 6, 7]), (8, []), (9, [])] (by decide +kernel) ?_; conv => whnf)
          | (refine RegX.rule (id := 9) hT rfl [] [(0, []), (1, [0]), (2, [0, 1]), (3, [0, 1]), (4, [0]), (5, [0, 1, 2, 3, 4]), (6, []), (7, [])] (by decide +kernel) ?_; conv => whnf)
          | omega
          | (refine And.intro ?_ ?_; ((try dsimp only); first | omega | (refine ⟨by omega, by omega, Int.le_trans (Int.mul_le_mul_of_nonneg_right (Int.ofNat_le.2 (Nat.le_of_ble_eq_true (rfl : Nat.ble _ 1024 = true))) (by omega)) (by omega), by omega⟩) | (refine Nat.le_trans (Nat.mul_le_mul_left _ (Nat.le_of_ble_eq_true (rfl : Nat.ble _ 1024 = true))) ?_; omega) | (unfold inI64; omega) | (constructor <;> omega) | (simp only [inI64, List.length_cons, List.length_append, List.length_nil, List.length_set] at *; omega) | decide | (unfold inI64; decide)); conv => whnf)
          | omega | decide | assumption)
        · have h81 := h81 (by omega)
          have hll : l.length = 0 := by rw [hl0]; rfl
          obtain ⟨m, hm⟩ : ∃ m, m = l ++ [plN s w l k] := ⟨_, rfl⟩
          have hgm : canP s w l k → good s w m := fun h => by rw [hm]; exact good_snoc hs g (by omega) (by omega) h
          have hpm : placedE s (w.take (l.length + 1)) m = 0 ↔ canP s w l k := by
            rw [hm]
            refine ⟨fun h => placed_can (by omega) (by omega) h, fun h => ?_⟩
            have := good_placed (good_snoc hs g (by omega) (by omega) h)
            rwa [show (l ++ [plN s w l k]).length = l.length + 1 by simp] at this
          have hml : m.length = l.length + 1 := by rw [hm]; simp
          rw [← hm] at h81
          refine CallX.of (FSpec.fro (args' := [.d (slts s), .d (wnts (w.take (l.length + 1))), .buf 1000001]) 1000001 130 2 m.length (rowF plF pl0 m) h81 rfl ⟨.inr ⟨rfl, rfl⟩, .inr ⟨rfl, rfl⟩, .inl ⟨rfl, rfl⟩, trivial⟩) [(1000001, 50)] rfl ⟨SV.le_refl _, SV.le_takeP (by omega) (by omega) (fun i hi => by rw [show Int.toNat 0 + i = i by simp]), SV.le_refl _, trivial⟩ ⟨by rw [hm]; first | exact Res.le_snocF (x := plN s w l k) rfl | (rw [hl0]; exact Res.le_lit rfl rfl), trivial⟩ rfl rfl ?_
          rintro x rout ⟨rfl, rfl⟩
          refine ⟨rfl, ?_⟩
          conv => whnf
          repeat' (first
            | (refine CallX.of (ih m (by omega) (hgm (hpm.1 (by assumption))) q) [(1000000, 1000000), (1000001, 1000001), (1000002, 1000002), (1000003, 1000003), (1000004, 1000004), (1000005, 1000005), (1000006, 1000006)] rfl ⟨SV.le_refl _, SV.le_refl _, SV.le_refl _, SV.le_refl _, SV.le_refl _, SV.le_refl _, SV.le_refl _, SV.le_refl _, trivial⟩ ⟨Res.le_refl _, Res.le_refl _, Res.le_refl _, Res.le_refl _, Res.le_refl _, Res.le_refl _, Res.le_refl _, trivial⟩ rfl rfl ?_; rintro x rout ⟨rfl, rfl⟩; refine ⟨rfl, ?_⟩; conv => whnf)
            | (refine br_intro (fun hb => ?_) (fun hb => ?_) <;> (try simp only [decide_eq_true_eq, decide_eq_false_iff_not, Bool.not_eq_true', Bool.not_eq_false', Bool.and_eq_true, Bool.or_eq_true, beq_iff_eq, not_and, Int.not_le, Int.not_lt, Int.toNat_natCast, beq_eq_false_iff_ne, ne_eq, eq_self, not_true_eq_false, not_false_eq_true] at hb) <;> (conv => whnf))
            | (refine RegX.rule (id := 8) hT rfl [] [(0, []), (2, [0]), (3, [0]), (4, [0, 2, 3]), (5, [0, 2, 3]), (6, [0]), (7, [0]), (1, [2, 3, 4, 5, 6, 7]), (8, []), (9, [])] (by decide +kernel) ?_; conv => whnf)
            | (refine RegX.rule (id := 9) hT rfl [] [(0, []), (1, [0]), (2, [0, 1]), (3, [0, 1]), (4, [0]), (5, [0, 1, 2, 3, 4]), (6, []), (7, [])] (by decide +kernel) ?_; conv => whnf)
            | omega
            | (refine And.intro ?_ ?_; ((try dsimp only); first | omega | (refine ⟨by omega, by omega, Int.le_trans (Int.mul_le_mul_of_nonneg_right (Int.ofNat_le.2 (Nat.le_of_ble_eq_true (rfl : Nat.ble _ 1024 = true))) (by omega)) (by omega), by omega⟩) | (refine Nat.le_trans (Nat.mul_le_mul_left _ (Nat.le_of_ble_eq_true (rfl : Nat.ble _ 1024 = true))) ?_; omega) | (unfold inI64; omega) | (constructor <;> omega) | (simp only [inI64, List.length_cons, List.length_append, List.length_nil, List.length_set] at *; omega) | decide | (unfold inI64; decide)); conv => whnf)
            | omega | decide | assumption)
          · refine ⟨k + 1, by omega, by omega, ?_⟩
            rw [hstep, if_pos (hpm.1 (by assumption)), ← hm]
            exact (by refine Entails.mk' [(10, 10), (1000000, 1000000), (1000001, 1000001), (1000002, 1000002), (1000003, 1000003), (1000004, 1000004), (1000005, 1000005), (1000006, 1000006)] rfl rfl ?_ ?_ <;> repeat' (first | exact True.intro | exact SV.le_refl _ | exact Res.le_refl _ | exact SV.le_int (by omega) | exact SV.le_any _ | refine And.intro ?_ ?_))
          · refine ⟨k + 1, by omega, by omega, ?_⟩
            rw [hstep, if_neg (fun e => absurd (hpm.2 e) (by assumption))]
            exact (by refine Entails.mk' [(10, 10), (1000000, 1000000), (1000001, 1000001), (1000002, 1000002), (1000003, 1000003), (1000004, 1000004), (1000005, 1000005), (1000006, 1000006)] rfl rfl ?_ ?_ <;> repeat' (first | exact True.intro | exact SV.le_refl _ | exact Res.le_refl _ | exact SV.le_int (by omega) | exact SV.le_any _ | refine And.intro ?_ ?_))
        · have h81 := h81 (by omega)
          obtain ⟨m, hm⟩ : ∃ m, m = l ++ [plN s w l k] := ⟨_, rfl⟩
          have hgm : canP s w l k → good s w m := fun h => by rw [hm]; exact good_snoc hs g (by omega) (by omega) h
          have hpm : placedE s (w.take (l.length + 1)) m = 0 ↔ canP s w l k := by
            rw [hm]
            refine ⟨fun h => placed_can (by omega) (by omega) h, fun h => ?_⟩
            have := good_placed (good_snoc hs g (by omega) (by omega) h)
            rwa [show (l ++ [plN s w l k]).length = l.length + 1 by simp] at this
          have hml : m.length = l.length + 1 := by rw [hm]; simp
          rw [← hm] at h81
          refine CallX.of (FSpec.fro (args' := [.d (slts s), .d (wnts (w.take (l.length + 1))), .buf 1000001]) 1000001 130 2 m.length (rowF plF pl0 m) h81 rfl ⟨.inr ⟨rfl, rfl⟩, .inr ⟨rfl, rfl⟩, .inl ⟨rfl, rfl⟩, trivial⟩) [(1000001, 50)] rfl ⟨SV.le_refl _, SV.le_takeP (by omega) (by omega) (fun i hi => by rw [show Int.toNat 0 + i = i by simp]), SV.le_refl _, trivial⟩ ⟨by rw [hm]; first | exact Res.le_snocF (x := plN s w l k) rfl | (rw [hl0]; exact Res.le_lit rfl rfl), trivial⟩ rfl rfl ?_
          rintro x rout ⟨rfl, rfl⟩
          refine ⟨rfl, ?_⟩
          conv => whnf
          repeat' (first
            | (refine CallX.of (ih m (by omega) (hgm (hpm.1 (by assumption))) q) [(1000000, 1000000), (1000001, 1000001), (1000002, 1000002), (1000003, 1000003), (1000004, 1000004), (1000005, 1000005), (1000006, 1000006)] rfl ⟨SV.le_refl _, SV.le_refl _, SV.le_refl _, SV.le_refl _, SV.le_refl _, SV.le_refl _, SV.le_refl _, SV.le_refl _, trivial⟩ ⟨Res.le_refl _, Res.le_refl _, Res.le_refl _, Res.le_refl _, Res.le_refl _, Res.le_refl _, Res.le_refl _, trivial⟩ rfl rfl ?_; rintro x rout ⟨rfl, rfl⟩; refine ⟨rfl, ?_⟩; conv => whnf)
            | (refine br_intro (fun hb => ?_) (fun hb => ?_) <;> (try simp only [decide_eq_true_eq, decide_eq_false_iff_not, Bool.not_eq_true', Bool.not_eq_false', Bool.and_eq_true, Bool.or_eq_true, beq_iff_eq, not_and, Int.not_le, Int.not_lt, Int.toNat_natCast, beq_eq_false_iff_ne, ne_eq, eq_self, not_true_eq_false, not_false_eq_true] at hb) <;> (conv => whnf))
            | (refine RegX.rule (id := 8) hT rfl [] [(0, []), (2, [0]), (3, [0]), (4, [0, 2, 3]), (5, [0, 2, 3]), (6, [0]), (7, [0]), (1, [2, 3, 4, 5, 6, 7]), (8, []), (9, [])] (by decide +kernel) ?_; conv => whnf)
            | (refine RegX.rule (id := 9) hT rfl [] [(0, []), (1, [0]), (2, [0, 1]), (3, [0, 1]), (4, [0]), (5, [0, 1, 2, 3, 4]), (6, []), (7, [])] (by decide +kernel) ?_; conv => whnf)
            | omega
            | (refine And.intro ?_ ?_; ((try dsimp only); first | omega | (refine ⟨by omega, by omega, Int.le_trans (Int.mul_le_mul_of_nonneg_right (Int.ofNat_le.2 (Nat.le_of_ble_eq_true (rfl : Nat.ble _ 1024 = true))) (by omega)) (by omega), by omega⟩) | (refine Nat.le_trans (Nat.mul_le_mul_left _ (Nat.le_of_ble_eq_true (rfl : Nat.ble _ 1024 = true))) ?_; omega) | (unfold inI64; omega) | (constructor <;> omega) | (simp only [inI64, List.length_cons, List.length_append, List.length_nil, List.length_set] at *; omega) | decide | (unfold inI64; decide)); conv => whnf)
            | omega | decide | assumption)
          · refine ⟨k + 1, by omega, by omega, ?_⟩
            rw [hstep, if_pos (hpm.1 (by assumption)), ← hm]
            exact (by refine Entails.mk' [(10, 10), (1000000, 1000000), (1000001, 1000001), (1000002, 1000002), (1000003, 1000003), (1000004, 1000004), (1000005, 1000005), (1000006, 1000006)] rfl rfl ?_ ?_ <;> repeat' (first | exact True.intro | exact SV.le_refl _ | exact Res.le_refl _ | exact SV.le_int (by omega) | exact SV.le_any _ | refine And.intro ?_ ?_))
          · refine ⟨k + 1, by omega, by omega, ?_⟩
            rw [hstep, if_neg (fun e => absurd (hpm.2 e) (by assumption))]
            exact (by refine Entails.mk' [(10, 10), (1000000, 1000000), (1000001, 1000001), (1000002, 1000002), (1000003, 1000003), (1000004, 1000004), (1000005, 1000005), (1000006, 1000006)] rfl rfl ?_ ?_ <;> repeat' (first | exact True.intro | exact SV.le_refl _ | exact Res.le_refl _ | exact SV.le_int (by omega) | exact SV.le_any _ | refine And.intro ?_ ?_))
        · obtain rfl : k = s.length := by omega
          rw [← hq]
          refine .ret _ ?_
          conv => whnf
          exact ⟨_, ⟨rfl, rfl⟩, Res.le_refl _, Res.le_refl _, Res.le_refl _, Res.le_refl _, Res.le_refl _, Res.le_refl _, Res.le_refl _, trivial⟩
    by_cases hf : 0 ≤ st.2
    · by_cases hn : st.2 ≤ lostA b l
      · rw [tryC_yes hf]
        refine spec_of hT (C := []) Tryd.func139 rfl Tryd.call139 rfl rfl rfl ?_
        conv => whnf
        repeat' (first
          | (refine CallX.exact (s83 b l hb0 hpl) rfl rfl ?_; rotate_right; conv => whnf)
          | (refine br_intro (fun hb => ?_) (fun hb => ?_) <;> (try simp only [decide_eq_true_eq, decide_eq_false_iff_not, Bool.not_eq_true', Bool.not_eq_false', Bool.and_eq_true, Bool.or_eq_true, beq_iff_eq, not_and, Int.not_le, Int.not_lt, Int.toNat_natCast, beq_eq_false_iff_ne, ne_eq, eq_self, not_true_eq_false, not_false_eq_true] at hb) <;> (conv => whnf))
          | (refine RegX.rule (id := 8) hT rfl [] [(0, []), (2, [0]), (3, [0]), (4, [0, 2, 3]), (5, [0, 2, 3]), (6, [0]), (7, [0]), (1, [2, 3, 4, 5, 6, 7]), (8, []), (9, [])] (by decide +kernel) ?_; conv => whnf)
          | (refine RegX.rule (id := 9) hT rfl [] [(0, []), (1, [0]), (2, [0, 1]), (3, [0, 1]), (4, [0]), (5, [0, 1, 2, 3, 4]), (6, []), (7, [])] (by decide +kernel) ?_; conv => whnf)
          | omega
          | (refine And.intro ?_ ?_; ((try dsimp only); first | omega | (refine ⟨by omega, by omega, Int.le_trans (Int.mul_le_mul_of_nonneg_right (Int.ofNat_le.2 (Nat.le_of_ble_eq_true (rfl : Nat.ble _ 1024 = true))) (by omega)) (by omega), by omega⟩) | (refine Nat.le_trans (Nat.mul_le_mul_left _ (Nat.le_of_ble_eq_true (rfl : Nat.ble _ 1024 = true))) ?_; omega) | (unfold inI64; omega) | (constructor <;> omega) | (simp only [inI64, List.length_cons, List.length_append, List.length_nil, List.length_set] at *; omega) | decide | (unfold inI64; decide)); conv => whnf)
          | omega | decide | assumption)
        · rw [srch, if_pos (by omega), tryC_yes hf]
          refine .ret _ ?_
          conv => whnf
          exact ⟨_, ⟨rfl, rfl⟩, Res.le_refl _, Res.le_refl _, Res.le_refl _, Res.le_refl _, Res.le_refl _, Res.le_refl _, Res.le_refl _, trivial⟩
      · have := main true st.2 (tryC_yes hf) (fun q => hn q.2) (fun _ => ⟨rfl, hf⟩)
        rwa [tryC_yes hf]
    · have := main false 0 (tryC_no hf) (fun q => hf q.1) (fun q => by cases q)
      rwa [tryC_no hf]
end Go.Proofs.YtellmmmohdjpeaaDoor
set_option maxRecDepth 20000
namespace Go.Proofs.YtellmmmohdjpeaaDoor
open Go Go.Eng
def cellsLe : List SV → List SV → Prop
  | [], [] => True
  | x :: l, y :: m => SV.le x y ∧ cellsLe l m
  | _, _ => False
theorem cellsLe_get : ∀ {l m : List SV}, cellsLe l m → l.length = m.length ∧ ∀ (i : Nat) x y, l[i]? = some x → m[i]? = some y → SV.le x y := by
  intro l
  induction l with
  | nil =>
    intro m h
    cases m with
    | nil => exact ⟨rfl, by simp⟩
    | cons y m => exact h.elim
  | cons x l ih =>
    intro m h
    cases m with
    | nil => exact h.elim
    | cons y m =>
      obtain ⟨h1, h2⟩ := h
      obtain ⟨i1, i2⟩ := ih h2
      refine ⟨by simp [i1], fun i a b ha hb => ?_⟩
      cases i with
      | zero => simp at ha hb; subst ha; subst hb; exact h1
      | succ i => exact i2 i a b (by simpa using ha) (by simpa using hb)
theorem Res.le_cellsL {e : TypeId} {l m : List SV} (h : cellsLe l m) : Res.le (.cells e l) (.cells e m) :=
  Res.le_cells (cellsLe_get h).1 (cellsLe_get h).2
abbrev srch0 (s : List Slt) (w : List Wnt) (b : List Bsy) : PSt := srch s w b w.length [] ([], -1)
-- PlaceOf
theorem s76 (s : List Slt) (w : List Wnt) (b : List Bsy) (hs : sltsE s = 0) (hw : wntsE w = 0) (hb0 : bsysE b = 0) :
    FSpec Tryd.prog 76 [.d (slts s), .d (wnts w), .d (bsys b)] [] (fun x r => x = .tup [.d (plcs (srch0 s w b).1), .d (.int .i64 (if 0 ≤ (srch0 s w b).2 then (srch0 s w b).2 else 0)), .d (.bool (decide (0 ≤ (srch0 s w b).2)))] ∧ r = []) := by
  have h := s139 s w b hs hw hb0 w.length [] (by simp) (good_nil w hs) ([], -1)
  rw [tryC_no (st := ([], -1)) (by decide)] at h
  generalize hR : srch s w b w.length [] ([], -1) = R at h
  unfold srch0
  rw [hR]
  refine spec_of hT (C := []) Tryd.func76 rfl Tryd.call76 rfl rfl rfl ?_
  conv => whnf
  repeat' (first
    | (refine CallX.of h [(1000000, 5), (1000001, 11), (1000002, 10), (1000003, 4), (1000004, 9), (1000005, 3), (1000006, 12)] rfl ⟨SV.le_nilS, SV.le_refl _, SV.le_refl _, SV.le_refl _, SV.le_refl _, SV.le_refl _, SV.le_refl _, SV.le_refl _, trivial⟩ ⟨Res.le_refl _, Res.le_refl _, Res.le_refl _, Res.le_refl _, Res.le_cellsL ⟨SV.le_nilS, trivial⟩, Res.le_refl _, Res.le_refl _, trivial⟩ rfl rfl ?_; rintro x rout ⟨rfl, rfl⟩; refine ⟨rfl, ?_⟩; conv => whnf)
    | (refine br_intro (fun hb => ?_) (fun hb => ?_) <;> (try simp only [decide_eq_true_eq, decide_eq_false_iff_not, Bool.not_eq_true', Bool.not_eq_false', Bool.and_eq_true, Bool.or_eq_true, beq_iff_eq, not_and, Int.not_le, Int.not_lt, Int.toNat_natCast, beq_eq_false_iff_ne, ne_eq, eq_self, not_true_eq_false, not_false_eq_true] at hb) <;> (conv => whnf))
    | (refine RegX.rule (id := 6) hT rfl [] [(0, []), (1, [0]), (2, [0, 1]), (3, [1, 2]), (4, [2]), (5, [])] (by decide +kernel) ?_; conv => whnf)
    | omega
    | (refine And.intro ?_ ?_; ((try dsimp only); first | omega | (refine ⟨by omega, by omega, Int.le_trans (Int.mul_le_mul_of_nonneg_right (Int.ofNat_le.2 (Nat.le_of_ble_eq_true (rfl : Nat.ble _ 1024 = true))) (by omega)) (by omega), by omega⟩) | (refine Nat.le_trans (Nat.mul_le_mul_left _ (Nat.le_of_ble_eq_true (rfl : Nat.ble _ 1024 = true))) ?_; omega) | (unfold inI64; omega) | (constructor <;> omega) | (simp only [inI64, List.length_cons, List.length_append, List.length_nil, List.length_set] at *; omega) | decide | (unfold inI64; decide)); conv => whnf)
    | omega | decide | assumption)
  refine .ret _ ?_
  conv => whnf
  refine ⟨[], ⟨congrArg SV.tup ?_, rfl⟩, trivial⟩
  repeat' (refine cons_eq ?_ ?_)
  all_goals (conv => lhs; whnf)
  all_goals try (with_reducible rfl)
  all_goals rfl
end Go.Proofs.YtellmmmohdjpeaaDoor
