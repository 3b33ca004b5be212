/- ReportsTrace is proved: for every input the law returns true, and its argument reads afterwards as it read before. Conditions: those of the given row alone. -/
import Derived.Test.YtnkdlkgannnfhaaGreatDoorRtConOne
import Derived.Shelf.Small.Strs
import Derived.Test.YtnkdlkgannnfhaaGreatDoorProg
import Derived.Test.YtnkdlkgannnfhaaGreatDoorRtEngTwo
set_option linter.unusedVariables false
set_option linter.unusedSimpArgs false
set_option maxRecDepth 20000
namespace Go.Proofs.YtnkdlkgannnfhaaGreatDoor
open Go Go.Eng
theorem foldl_range_succ {β : Type} (f : β → Nat → β) (st : β) (k : Nat) : (List.range (k + 1)).foldl f st = f ((List.range k).foldl f st) k := by
  rw [List.range_succ, List.foldl_append]; rfl
theorem foldl_inv {α β : Type} {q : β → Prop} {f : β → α → β} : ∀ {l : List α} {st : β}, (∀ st x, x ∈ l → q st → q (f st x)) → q st → q (l.foldl f st) := by
  intro l
  induction l with
  | nil => intro st _ h; exact h
  | cons x l ih => intro st hf h; exact ih (fun st y hy => hf st y (List.mem_cons_of_mem _ hy)) (hf st x (List.mem_cons_self ..) h)
theorem foldl_filter' {α β : Type} (p : α → Bool) (f : β → α → β) : ∀ (l : List α) (st : β), (∀ st x, p x = false → f st x = st) → (l.filter p).foldl f st = l.foldl f st := by
  intro l
  induction l with
  | nil => intro st _; rfl
  | cons x l ih =>
    intro st h
    cases hp : p x
    · rw [List.filter_cons_of_neg (by simp [hp]), List.foldl_cons, h st x hp, ih st h]
    · rw [List.filter_cons_of_pos (by simp [hp]), List.foldl_cons, List.foldl_cons, ih _ h]
theorem SV.le_agg {l m : List SV} (h : argsLe0 l m) : SV.le (.agg l) (.agg m) := by
  obtain ⟨h1, h2⟩ := argsLe0_get h
  intro G β v hv
  cases hv with | agg _ vs hl hd =>
  refine .agg _ _ (hl.trans h1) (fun i y v hy hv => ?_)
  have hi : i < l.length := by rw [h1]; exact (List.getElem?_eq_some_iff.1 hy).1
  exact h2 i _ y (List.getElem?_eq_getElem hi) hy G β v (hd i _ v (List.getElem?_eq_getElem hi) hv)
theorem rows_app {α : Type} {f : α → List DV} {d : α} {l m : List α} {n : Nat} {g h : Nat → List DV} (hn : n = l.length) (hg : ∀ i, i < l.length → g i = rowF f d l i) (hh : ∀ i, i < m.length → h i = rowF f d m i) :
    ∀ i, i < (l ++ m).length → appGet n g h i = rowF f d (l ++ m) i := by
  intro i hi
  subst hn
  rw [List.length_append] at hi
  simp only [rowF]
  rcases Nat.lt_or_ge i l.length with q | q
  · rw [appGet_lt q, hg i q, List.getD_eq_getElem?_getD, List.getElem?_append_left q, ← List.getD_eq_getElem?_getD]; rfl
  · rw [appGet_ge q, hh _ (by omega), List.getD_eq_getElem?_getD, List.getElem?_append_right q, ← List.getD_eq_getElem?_getD]; rfl
theorem foldl_take {α β : Type} (f : β → α → β) (z : α) (l : List α) (st : β) {j : Nat} (h : j < l.length) : (l.take (j + 1)).foldl f st = f ((l.take j).foldl f st) (l.getD j z) := by
  rw [List.take_add_one, List.foldl_append, List.getD_eq_getElem?_getD, List.getElem?_eq_getElem h]; rfl
def toI (l : List Nat) : List Int := l.map Int.ofNat
theorem toI_len (l : List Nat) : (toI l).length = l.length := by simp [toI]
theorem toI_get {l : List Nat} {j : Nat} (h : j < l.length) : (toI l).getD j 0 = ((l.getD j 0 : Nat) : Int) := by
  simp [toI, List.getD_eq_getElem?_getD, h]
def rangeI (i d : Nat) : List Int := toI (List.range' i d)
theorem rangeI_len (i d : Nat) : (rangeI i d).length = d := by simp [rangeI, toI]
theorem rangeI_drop (i d : Nat) : (rangeI i (d + 1)).drop 1 = rangeI (i + 1) d := rfl
def cellsLe : List SV → List SV → Prop
  | [], [] => True
  | x :: l, y :: m => SV.le x y ∧ cellsLe l m
  | _, _ => False
theorem cellsLe_get : ∀ {l m : List SV}, cellsLe l m → l.length = m.length ∧ ∀ (i : Nat) x y, l[i]? = some x → m[i]? = some y → SV.le x y := by
  intro l
  induction l with
  | nil =>
    intro m h
    cases m with
    | nil => exact ⟨rfl, by simp⟩
    | cons y m => exact h.elim
  | cons x l ih =>
    intro m h
    cases m with
    | nil => exact h.elim
    | cons y m =>
      obtain ⟨h1, h2⟩ := h
      obtain ⟨i1, i2⟩ := ih h2
      refine ⟨by simp [i1], fun i a b ha hb => ?_⟩
      cases i with
      | zero => simp at ha hb; subst ha; subst hb; exact h1
      | succ i => exact i2 i a b (by simpa using ha) (by simpa using hb)
theorem Res.le_cellsL {e : TypeId} {l m : List SV} (h : cellsLe l m) : Res.le (.cells e l) (.cells e m) :=
  Res.le_cells (cellsLe_get h).1 (cellsLe_get h).2
theorem Res.le_cutF {α : Type} {f : α → List DV} {d : α} {l m : List α} {e k n : Nat} (hn : n = l.length) (h : ∀ i, i < l.length → m.getD i d = l.getD i d) : Res.le (.buf e k n (rowF f d m)) (seqB e k f d l) :=
  Res.le_buf hn (fun i hi => by simp only [rowF]; rw [h i (by omega)])
theorem getD_app_lt {α : Type} {l m : List α} {i : Nat} {z : α} (h : i < l.length) : (l ++ m).getD i z = l.getD i z := by
  rw [List.getD_eq_getElem?_getD, List.getD_eq_getElem?_getD, List.getElem?_append_left h]
end Go.Proofs.YtnkdlkgannnfhaaGreatDoor
set_option maxRecDepth 20000
namespace Go.Proofs.YtnkdlkgannnfhaaGreatDoor
open Go Go.Eng
structure Prg where
  a : Int
  b : Int
def prF : Prg → List DV := fun p => [.int .i64 p.a, .int .i64 p.b]
def pr0 : Prg := ⟨0, 0⟩
abbrev prgs (l : List Prg) : DV := seqD 2 prF pr0 l
theorem prg_eq {a b : Prg} : a = b ↔ a.a = b.a ∧ a.b = b.b := by cases a; cases b; simp
instance : DecidableEq Prg := fun _ _ => decidable_of_iff _ prg_eq.symm
def distM (a b : Mrk) : Int := (a.x - b.x) * (a.x - b.x) + (a.y - b.y) * (a.y - b.y)
def canB (r : Rul) (a b : Mrk) : Bool := a.pan == b.pan && decide (a.kind = b.kind) && decide (distM a b ≤ r.near * r.near) && decide (a.size - r.slack ≤ b.size)
def cmpPr (p q : Prg) : Int := if cmpI p.a q.a ≠ 0 then cmpI p.a q.a else cmpI p.b q.b
def cmpPL : List Prg → List Prg → Int
  | [], [] => 0
  | [], _ :: _ => -1
  | _ :: _, [] => 1
  | x :: xs, y :: ys => if cmpPr x y ≠ 0 then cmpPr x y else cmpPL xs ys
abbrev MSt := List Prg × Int
def beatsM (m o : MSt) : Bool := if m.1.length ≠ o.1.length then decide (o.1.length < m.1.length) else if m.2 ≠ o.2 then decide (m.2 < o.2) else decide (cmpPL m.1 o.1 < 0)
def usedM (l : List Prg) (k : Nat) : Bool := l.any fun p => p.b == (k : Int)
def okM (r : Rul) (a b : List Mrk) (i : Nat) (l : List Prg) (k : Nat) : Bool := !usedM l k && canB r (a.getD i mk0) (b.getD k mk0)
/-- The search: with d marks of a to pair, from i on. -/
def mtch (r : Rul) (a b : List Mrk) : Nat → Nat → MSt → MSt → MSt
  | 0, _, now, best => if beatsM now best then now else best
  | d + 1, i, now, best =>
    mtch r a b d (i + 1) now ((List.range b.length).foldl (fun st k => if okM r a b i now.1 k then mtch r a b d (i + 1) (now.1 ++ [⟨i, k⟩], now.2 + distM (a.getD i mk0) (b.getD k mk0)) st else st) best)
theorem mtch_prune {r : Rul} {a b : List Mrk} : ∀ (d i : Nat) (now st : MSt), now.1.length + d < st.1.length → mtch r a b d i now st = st := by
  intro d
  induction d with
  | zero =>
    intro i now st h
    have : beatsM now st = false := by unfold beatsM; rw [if_pos (by omega)]; simp; omega
    rw [mtch, this]; rfl
  | succ d ih =>
    intro i now st h
    have hf : (List.range b.length).foldl (fun st k => if okM r a b i now.1 k then mtch r a b d (i + 1) (now.1 ++ [⟨i, k⟩], now.2 + distM (a.getD i mk0) (b.getD k mk0)) st else st) st = st := by
      refine foldl_inv (q := fun s => s = st) (fun s k _ hs => ?_) rfl
      subst hs
      split
      · exact ih _ _ _ (by simp; omega)
      · rfl
    rw [mtch, hf]
    exact ih _ _ _ (by omega)
/-- Pairings of some marks: from i on, to a's end. -/
structure mOk (a b : List Mrk) (m : MSt) : Prop where
  ins : ∀ p ∈ m.1, ∃ i k : Nat, p = ⟨i, k⟩ ∧ i < a.length ∧ k < b.length
  sum : 0 ≤ m.2 ∧ m.2 ≤ 100000000 * m.1.length
theorem mtch_inv {r : Rul} {a b : List Mrk} {Q : MSt → Prop} (hQ : ∀ i k (m : MSt), i < a.length → k < b.length → Q m → Q (m.1 ++ [⟨i, k⟩], m.2 + distM (a.getD i mk0) (b.getD k mk0))) :
    ∀ (d i : Nat) (now st : MSt), i + d ≤ a.length → Q now → Q st → Q (mtch r a b d i now st) := by
  intro d
  induction d with
  | zero => intro i now st _ h1 h2; rw [mtch]; split <;> assumption
  | succ d ih =>
    intro i now st hd h1 h2
    rw [mtch]
    refine ih _ _ _ (by omega) h1 (foldl_inv (fun s k hk hs => ?_) h2)
    split
    · exact ih _ _ _ (by omega) (hQ i k now (by omega) (List.mem_range.1 hk) h1) hs
    · exact hs
theorem mtch_len {r : Rul} {a b : List Mrk} : ∀ (d i : Nat) (now st : MSt) (n : Nat), now.1.length + d ≤ n → st.1.length ≤ n → (mtch r a b d i now st).1.length ≤ n := by
  intro d
  induction d with
  | zero => intro i now st n h1 h2; rw [mtch]; split <;> omega
  | succ d ih =>
    intro i now st n h1 h2
    rw [mtch]
    refine ih _ _ _ n (by omega) (foldl_inv (q := fun s : MSt => s.1.length ≤ n) (fun s k _ hs => ?_) h2)
    split
    · exact ih _ _ _ n (by simp; omega) hs
    · exact hs
/-- The marks of b that are of a mark's panel and kind. -/
def likeM (b : List Mrk) (m : Mrk) : List Nat := (List.range b.length).filter fun k => sameM (b.getD k mk0) m
theorem canB_same {r : Rul} {a b : Mrk} (h : sameM b a = false) : canB r a b = false := by
  unfold canB
  unfold sameM at h
  by_cases h1 : a.pan = b.pan
  · by_cases h2 : a.kind = b.kind
    · simp [h1, h2] at h
    · simp [h2]
  · have : (a.pan == b.pan) = false := by simpa using h1
    simp [this]
theorem mtch_like {r : Rul} {a b : List Mrk} {m : Mrk} (d i : Nat) (now st : MSt) (hm : sameM (a.getD i mk0) m = true) :
    (likeM b m).foldl (fun st k => if okM r a b i now.1 k then mtch r a b d (i + 1) (now.1 ++ [⟨i, k⟩], now.2 + distM (a.getD i mk0) (b.getD k mk0)) st else st) st
      = (List.range b.length).foldl (fun st k => if okM r a b i now.1 k then mtch r a b d (i + 1) (now.1 ++ [⟨i, k⟩], now.2 + distM (a.getD i mk0) (b.getD k mk0)) st else st) st := by
  refine foldl_filter' _ _ _ _ (fun st k hk => ?_)
  have : sameM (b.getD k mk0) (a.getD i mk0) = false := by
    rw [← Bool.not_eq_true] at hk ⊢
    exact fun q => hk (sameM_trans q hm)
  rw [if_neg]
  unfold okM
  rw [canB_same this]
  simp
/-- Where the run ends that begins at i. -/
def runN (a : List Mrk) (m : Mrk) : Nat → Nat → Nat
  | 0, i => i
  | d + 1, i => if sameM (a.getD i mk0) m then runN a m d (i + 1) else i
def runE (a : List Mrk) (i : Nat) : Nat := runN a (a.getD i mk0) (a.length - i) i
theorem runN_eq {a : List Mrk} {m : Mrk} : ∀ (d i t : Nat), i ≤ t → t ≤ i + d → (∀ j, i ≤ j → j < t → sameM (a.getD j mk0) m = true) → (t = i + d ∨ sameM (a.getD t mk0) m = false) → runN a m d i = t := by
  intro d
  induction d with
  | zero => intro i t h1 h2 _ _; rw [runN]; omega
  | succ d ih =>
    intro i t h1 h2 h3 h4
    rw [runN]
    by_cases q : i = t
    · subst q
      rcases h4 with h4 | h4
      · omega
      · rw [h4]; rfl
    · rw [h3 i (Nat.le_refl _) (by omega), if_pos rfl]
      exact ih (i + 1) t (by omega) (by omega) (fun j j1 j2 => h3 j (by omega) j2) (by rcases h4 with h4 | h4; exact .inl (by omega); exact .inr h4)
theorem runE_eq {a : List Mrk} {i t : Nat} (h1 : i ≤ t) (h2 : t ≤ a.length) (h3 : ∀ j, i ≤ j → j < t → sameM (a.getD j mk0) (a.getD i mk0) = true) (h4 : t = a.length ∨ sameM (a.getD t mk0) (a.getD i mk0) = false) : runE a i = t :=
  runN_eq _ _ _ h1 (by omega) h3 (by rcases h4 with h4 | h4; exact .inl (by omega); exact .inr h4)
theorem runN_spec {a : List Mrk} {m : Mrk} : ∀ (d i : Nat), i ≤ runN a m d i ∧ runN a m d i ≤ i + d ∧ (∀ j, i ≤ j → j < runN a m d i → sameM (a.getD j mk0) m = true) ∧ (runN a m d i = i + d ∨ sameM (a.getD (runN a m d i) mk0) m = false) := by
  intro d
  induction d with
  | zero => intro i; exact ⟨Nat.le_refl _, Nat.le_refl _, fun j h1 h2 => by rw [runN] at h2; omega, .inl rfl⟩
  | succ d ih =>
    intro i
    rw [runN]
    split
    · rename_i h
      obtain ⟨h1, h2, h3, h4⟩ := ih (i + 1)
      refine ⟨by omega, by omega, fun j j1 j2 => ?_, by rcases h4 with h4 | h4; exact .inl (by omega); exact .inr h4⟩
      by_cases q : j = i
      · subst q; exact h
      · exact h3 j (by omega) j2
    · rename_i h
      exact ⟨Nat.le_refl _, by omega, fun j j1 j2 => by omega, .inr (by simpa using h)⟩
theorem runE_spec {a : List Mrk} {i : Nat} (hi : i < a.length) : i < runE a i ∧ runE a i ≤ a.length ∧ (∀ j, i ≤ j → j < runE a i → sameM (a.getD j mk0) (a.getD i mk0) = true) ∧ (runE a i = a.length ∨ sameM (a.getD (runE a i) mk0) (a.getD i mk0) = false) := by
  obtain ⟨h1, h2, h3, h4⟩ := runN_spec (a := a) (m := a.getD i mk0) (a.length - i) i
  have e : runN a (a.getD i mk0) (a.length - i) i = runE a i := rfl
  rw [e] at h1 h2 h3 h4
  refine ⟨?_, by omega, h3, by rcases h4 with h4 | h4; exact .inl (by omega); exact .inr h4⟩
  rcases Nat.lt_or_ge i (runE a i) with q | q
  · exact q
  · have q : runE a i = i := by omega
    rw [q, sameM_refl] at h4
    rcases h4 with h4 | h4
    · omega
    · cases h4
/-- The matching, run by run, from i on. -/
def mtAll (r : Rul) (a b : List Mrk) : Nat → Nat → List Prg
  | 0, _ => []
  | f + 1, i => if i < a.length then (mtch r a b (runE a i - i) i ([], 0) ([], 0)).1 ++ mtAll r a b f (runE a i) else []
def mtL (r : Rul) (a b : List Mrk) : List Prg := mtAll r a b a.length 0
theorem mtAll_end {r : Rul} {a b : List Mrk} (f : Nat) {i : Nat} (h : a.length ≤ i) : mtAll r a b f i = [] := by
  cases f with
  | zero => rfl
  | succ f => rw [mtAll, if_neg (by omega)]
/-- Out is what was found before i. -/
def mtPre (r : Rul) (a b : List Mrk) (i : Nat) (out : List Prg) : Prop := i ≤ a.length ∧ ∃ f, a.length ≤ i + f ∧ out ++ mtAll r a b f i = mtL r a b
theorem mtPre_zero {r : Rul} {a b : List Mrk} : mtPre r a b 0 [] := ⟨by omega, a.length, by omega, rfl⟩
theorem mtPre_step {r : Rul} {a b : List Mrk} {i : Nat} {out : List Prg} (h : mtPre r a b i out) (hi : i < a.length) : mtPre r a b (runE a i) (out ++ (mtch r a b (runE a i - i) i ([], 0) ([], 0)).1) := by
  obtain ⟨h0, f, h1, h2⟩ := h
  obtain ⟨r1, r2, _⟩ := runE_spec hi
  cases f with
  | zero => omega
  | succ f =>
    rw [mtAll, if_pos hi, ← List.append_assoc] at h2
    exact ⟨r2, f, by omega, h2⟩
theorem mtPre_end {r : Rul} {a b : List Mrk} {i : Nat} {out : List Prg} (h : mtPre r a b i out) (hi : ¬ i < a.length) : out = mtL r a b := by
  obtain ⟨h0, f, h1, h2⟩ := h
  rw [mtAll_end f (by omega), List.append_nil] at h2
  exact h2
theorem mtch_ins {r : Rul} {a b : List Mrk} {d i : Nat} (h : i + d ≤ a.length) : ∀ p ∈ (mtch r a b d i ([], 0) ([], 0)).1, ∃ i k : Nat, p = ⟨i, k⟩ ∧ i < a.length ∧ k < b.length := by
  refine mtch_inv (Q := fun m => ∀ p ∈ m.1, ∃ i k : Nat, p = ⟨i, k⟩ ∧ i < a.length ∧ k < b.length) (fun i k m hi hk hm p hp => ?_) d i _ _ h (by simp) (by simp)
  rcases List.mem_append.1 hp with q | q
  · exact hm p q
  · simp at q; exact ⟨i, k, q, hi, hk⟩
theorem mtAll_ok {r : Rul} {a b : List Mrk} : ∀ (f i : Nat), i ≤ a.length → (mtAll r a b f i).length ≤ a.length - i ∧ ∀ p ∈ mtAll r a b f i, ∃ i k : Nat, p = ⟨i, k⟩ ∧ i < a.length ∧ k < b.length := by
  intro f
  induction f with
  | zero => intro i h; simp [mtAll]
  | succ f ih =>
    intro i h
    rw [mtAll]
    split
    · rename_i hi
      obtain ⟨r1, r2, _⟩ := runE_spec hi
      obtain ⟨h1, h2⟩ := ih (runE a i) r2
      have h3 := mtch_len (r := r) (a := a) (b := b) (runE a i - i) i ([], 0) ([], 0) (runE a i - i) (by simp) (by simp)
      refine ⟨by rw [List.length_append]; omega, fun p hp => ?_⟩
      rcases List.mem_append.1 hp with q | q
      · exact mtch_ins (by omega) p q
      · exact h2 p q
    · simp
theorem mtL_ok (r : Rul) (a b : List Mrk) : (mtL r a b).length ≤ a.length ∧ ∀ p ∈ mtL r a b, ∃ i k : Nat, p = ⟨i, k⟩ ∧ i < a.length ∧ k < b.length :=
  mtAll_ok a.length 0 (by omega)
/-- Of marks in order, those of a run are all of their kind. -/
theorem run_like {a : List Mrk} (h : incM a) {i : Nat} (hi : i < a.length) (hs : ∀ j, j < i → sameM (a.getD j mk0) (a.getD i mk0) = false) (j : Nat) (hj : j < a.length) : sameM (a.getD j mk0) (a.getD i mk0) = true ↔ i ≤ j ∧ j < runE a i := by
  obtain ⟨r1, r2, r3, r4⟩ := runE_spec hi
  constructor
  · intro q
    have h1 : i ≤ j := by
      rcases Nat.lt_or_ge j i with q1 | q1
      · rw [hs j q1] at q; cases q
      · exact q1
    refine ⟨h1, ?_⟩
    rcases Nat.lt_or_ge j (runE a i) with q1 | q1
    · exact q1
    · exfalso
      rcases r4 with r4 | r4
      · omega
      · have k1 := inc_le h (i := i) (j := runE a i) (by omega) (by omega)
        have k2 := inc_le h (i := runE a i) (j := j) q1 hj
        have k3 : kle (a.getD j mk0) (a.getD i mk0) := by
          simp [sameM] at q
          exact .inr ⟨by simpa using q.1, by simpa using Int.le_of_eq q.2⟩
        have := kle_anti (kle_trans k2 k3) k1
        rw [r4] at this; cases this
  · intro q; exact r3 j q.1 q.2
theorem run_next {a : List Mrk} (h : incM a) {i : Nat} (hi : i < a.length) (ht : runE a i < a.length) : ∀ j, j < runE a i → sameM (a.getD j mk0) (a.getD (runE a i) mk0) = false := by
  obtain ⟨r1, r2, r3, r4⟩ := runE_spec hi
  intro j hj
  rcases r4 with r4 | r4
  · omega
  rw [← Bool.not_eq_true]
  intro q
  have k1 := inc_le h (i := i) (j := runE a i) (by omega) (by omega)
  have hij : i ≤ j ∨ j < i := by omega
  have k3 : kle (a.getD (runE a i) mk0) (a.getD i mk0) := by
    rcases hij with hij | hij
    · have := sameM_trans (sameM_symm q) (r3 j hij hj)
      rw [r4] at this; cases this
    · have q' := sameM_symm q
      simp [sameM] at q'
      have k4 : kle (a.getD (runE a i) mk0) (a.getD j mk0) := .inr ⟨by simpa using q'.1, by simpa using Int.le_of_eq q'.2⟩
      exact kle_trans k4 (inc_le h (by omega) (by omega))
  have := kle_anti k3 k1
  rw [r4] at this; cases this
/-- The numbers of a run. -/
def likeR (i t : Nat) : List Nat := List.range' i (t - i)
theorem filter_range_eq {p : Nat → Bool} {i : Nat} : ∀ {n t : Nat}, i ≤ t → t ≤ n → (∀ j, j < n → (p j = true ↔ i ≤ j ∧ j < t)) → (List.range n).filter p = List.range' i (t - i) := by
  intro n
  induction n with
  | zero =>
    intro t hi ht _
    obtain rfl : i = 0 := by omega
    obtain rfl : t = 0 := by omega
    rfl
  | succ n ih =>
    intro t hi ht h
    rw [List.range_succ, List.filter_append]
    by_cases q : t = n + 1
    · subst q
      by_cases q2 : i = n + 1
      · subst q2
        have e1 : (List.range n).filter p = [] := by
          rw [List.filter_eq_nil_iff]; intro x hx; have hx := List.mem_range.1 hx; intro q; have := (h x (by omega)).1 q; omega
        have e2 : [n].filter p = [] := by
          rw [List.filter_eq_nil_iff]; intro x hx; simp at hx; subst hx; intro q; have := (h x (by omega)).1 q; omega
        rw [e1, e2]; simp
      · have hp : p n = true := (h n (by omega)).2 ⟨by omega, by omega⟩
        have e : (List.range n).filter p = List.range' i (n - i) := ih (by omega) (Nat.le_refl _) (fun j hj => by rw [h j (by omega)]; omega)
        rw [e, List.filter_cons_of_pos hp, show n + 1 - i = (n - i) + 1 by omega, List.range'_concat]
        simp; omega
    · have hp : p n = false := by
        rw [← Bool.not_eq_true]; intro q2; have := (h n (by omega)).1 q2; omega
      rw [ih (t := t) hi (by omega) (fun j hj => h j (by omega)), List.filter_cons_of_neg (by simp [hp])]; simp
theorem distM_bd {a b : Mrk} (ha : 0 ≤ a.x ∧ a.x ≤ 5000 ∧ 0 ≤ a.y ∧ a.y ≤ 5000) (hb : 0 ≤ b.x ∧ b.x ≤ 5000 ∧ 0 ≤ b.y ∧ b.y ≤ 5000) : 0 ≤ distM a b ∧ distM a b ≤ 50000000 := by
  have sq : ∀ x y : Int, 0 ≤ x → x ≤ 5000 → 0 ≤ y → y ≤ 5000 → 0 ≤ (x - y) * (x - y) ∧ (x - y) * (x - y) ≤ 25000000 := by
    intro x y h1 h2 h3 h4
    rcases Int.le_total 0 (x - y) with q | q
    · exact ⟨Int.mul_nonneg q q, Int.le_trans (Int.mul_le_mul (by omega : x - y ≤ 5000) (by omega : x - y ≤ 5000) q (by omega)) (by omega)⟩
    · have e : (x - y) * (x - y) = (y - x) * (y - x) := by rw [← Int.neg_mul_neg]; congr 1 <;> omega
      rw [e]
      exact ⟨Int.mul_nonneg (by omega) (by omega), Int.le_trans (Int.mul_le_mul (by omega : y - x ≤ 5000) (by omega : y - x ≤ 5000) (by omega) (by omega)) (by omega)⟩
  have h1 := sq a.x b.x ha.1 ha.2.1 hb.1 hb.2.1
  have h2 := sq a.y b.y ha.2.2.1 ha.2.2.2 hb.2.2.1 hb.2.2.2
  unfold distM
  omega
theorem mrks_bd {l : List Mrk} (h : mrksE l = 0) : l.length ≤ 60 ∧ ∀ i, i < l.length → (0 ≤ (l.getD i mk0).x ∧ (l.getD i mk0).x ≤ 5000 ∧ 0 ≤ (l.getD i mk0).y ∧ (l.getD i mk0).y ≤ 5000) ∧ 1 ≤ (l.getD i mk0).size ∧ (l.getD i mk0).size ≤ 2000 := by
  unfold mrksE at h
  split at h
  · cases h
  refine ⟨by omega, fun i hi => ?_⟩
  have := firstAt_all h i hi
  unfold mrkE at this
  simp only at this
  grind
theorem onPE_bd {p : List Pnl} {l : List Mrk} (h : onPE p l = 0) : mrksE l = 0 ∧ firstAt (fullE l) l.length = 0 := by
  unfold onPE at h
  split at h
  · rename_i h1; exact absurd h h1
  rename_i h1
  split at h
  · rename_i h2; exact absurd h h2
  exact ⟨by omega, h⟩
/-- A run has at most six marks. -/
theorem run_six {l : List Mrk} (h : firstAt (fullE l) l.length = 0) {i : Nat} (hi : i < l.length) : runE l i - i ≤ 6 := by
  obtain ⟨r1, r2, r3, _⟩ := runE_spec hi
  have key : ∀ k, i + k < runE l i → k + 1 ≤ runM l (i + k) := by
    intro k
    induction k with
    | zero => intro _; cases i with
      | zero => simp [runM]
      | succ i => simp only [Nat.add_zero]; rw [runM]; split <;> omega
    | succ k ih =>
      intro hk
      have := ih (by omega)
      rw [show i + (k + 1) = (i + k) + 1 by omega, runM, if_pos (sameM_trans (r3 (i + k + 1) (by omega) (by omega)) (sameM_symm (r3 (i + k) (by omega) (by omega))))]
      omega
  have h1 := key (runE l i - i - 1) (by omega)
  have h2 := firstAt_all h (i + (runE l i - i - 1)) (by omega)
  unfold fullE at h2
  split at h2
  · cases h2
  · omega
end Go.Proofs.YtnkdlkgannnfhaaGreatDoor
namespace Go.Proofs
open Go.Shelf
def Tryz.lays106_ren : Go.Shelf.Ren := ⟨fun | 106 => 101 | 213 => 202 | 265 => 259 | n => n, fun | 9 => 9 | 3 => 3 | n => n, fun | n => n⟩
theorem Tryz.lays106 : Go.Proofs.Lays.n106 Tryz.prog Tryz.lays106_ren := {
  mixed := by kernel_rfl
  f106 := Tryz.func101.trans (congrArg some (by kernel_rfl))
  f213 := Tryz.func202.trans (congrArg some (by kernel_rfl))
  f265 := Tryz.func259.trans (congrArg some (by kernel_rfl))
  t3 := Tryz.underlying3
  a3 := Tryz.isAgg3
  z3 := Tryz.sizeOf3
  v3 := Tryz.zeroValue3
  t9 := Tryz.underlying9
  a9 := Tryz.isAgg9
  z9 := Tryz.sizeOf9
  v9 := Tryz.zeroValue9 }
end Go.Proofs

set_option maxRecDepth 20000
namespace Go.Proofs.YtnkdlkgannnfhaaGreatDoor
open Go Go.Eng Go.RowKit
def pnK (p : Pnl) : Prop := p.key.length ≤ 2^40
def pnOk (l : List Pnl) : Prop := l.length ≤ 2^40 ∧ ∀ p ∈ l, pnK p
def mkK (m : Mrk) : Prop := m.pan.length ≤ 2^40
def mkOk (l : List Mrk) : Prop := l.length ≤ 2^40 ∧ ∀ m ∈ l, mkK m
-- mark.CheckPanels
theorem s98 (l : List Pnl) (hk : pnOk l) : FSpec Tryz.prog 164 [.d (pnls l)] [] (fun x r => x = .d (.int .i64 (pansE l)) ∧ r = []) := by
  refine spec_of hT (C := []) Tryz.func164 rfl Tryz.call164 rfl rfl rfl ?_
  conv => whnf
  refine br_intro (fun h0 => ?_) (fun h0 => ?_)
  · simp at h0
    conv => whnf
    refine .ret _ ?_
    conv => whnf
    refine ⟨[], ⟨?_, rfl⟩, trivial⟩
    conv => lhs; whnf
    unfold pansE; rw [if_pos (by omega)]
  simp at h0
  conv => whnf
  refine LoopX.rule hT (C := []) (ι := Nat) (fun i => i ≤ l.length ∧ ∀ j, j < i → panE l j = 0) (fun i => mkSt [(0, .d (pnls l)), (8, .d (pnls l)), (9, .d (.int .i64 l.length)), (10, .d (.int .i64 i))] []) (fun i => l.length - i) 0 ⟨by omega, by omega⟩ (by refine Entails.mk' [] rfl rfl ?_ ?_ <;> repeat' (first | exact True.intro | exact SV.le_refl _ | exact Res.le_refl _ | exact SV.le_int (by omega) | exact SV.le_any _ | refine And.intro ?_ ?_)) ?_
  rintro i ⟨p1, p2⟩
  have hx : (i : Int) < l.length → pnK (l.getD (i : Int).toNat pn0) := fun hi => hk.2 _ (getD_mem (by omega))
  have e1 : (i : Int).toNat = i := Int.toNat_natCast i
  have hbad : ∀ e : Int, i < l.length → e ≠ 0 → panE l i = e → pansE l = e := fun e h h1 h2 => by
    unfold pansE; rw [if_neg (by omega)]
    exact firstAt_eq h p2 h1 h2
  conv => whnf
  repeat' (first
    | (refine CallX.exact (s108 _ (hx (by omega))) rfl rfl ?_; rotate_right; conv => whnf)
    | (refine CallX.exact (s119 _ _ _) rfl rfl ?_; rotate_right; conv => whnf)
    | (refine br_intro (fun hb => ?_) (fun hb => ?_) <;> (try simp only [decide_eq_true_eq, decide_eq_false_iff_not, Bool.not_eq_true', Bool.not_eq_false', Bool.and_eq_true, Bool.or_eq_true, beq_iff_eq, not_and, Int.not_le, Int.not_lt, Int.toNat_natCast, beq_eq_false_iff_ne, ne_eq, eq_self, not_true_eq_false, not_false_eq_true] at hb) <;> (conv => whnf))
    | (refine RegX.rule (id := 8) hT rfl [] [(0, []), (1, []), (2, []), (3, []), (4, []), (5, [3, 4]), (6, [3, 4, 5]), (7, [3, 4, 5]), (8, [3, 4]), (9, [3, 4]), (10, [3, 4]), (11, []), (12, []), (13, [])] (by decide +kernel) ?_; conv => whnf)
    | omega
    | (refine And.intro ?_ ?_; ((try dsimp only); first | omega | (refine ⟨by omega, by omega, Int.le_trans (Int.mul_le_mul_of_nonneg_right (Int.ofNat_le.2 (Nat.le_of_ble_eq_true (rfl : Nat.ble _ 1024 = true))) (by omega)) (by omega), by omega⟩) | (refine Nat.le_trans (Nat.mul_le_mul_left _ (Nat.le_of_ble_eq_true (rfl : Nat.ble _ 1024 = true))) ?_; omega) | (unfold inI64; omega) | (constructor <;> omega) | (simp only [inI64, List.length_cons, List.length_append, List.length_nil, List.length_set] at *; omega) | decide | (unfold inI64; decide)); conv => whnf)
    | omega | decide | assumption)
  all_goals first
    | (refine ⟨i + 1, ⟨by omega, first_step p2 (by clear p2 hbad hk hx; simp only [e1, toNat_pred] at *; unfold panE strLe; grind)⟩, by omega, (by refine Entails.mk' [] rfl rfl ?_ ?_ <;> repeat' (first | exact True.intro | exact SV.le_refl _ | exact Res.le_refl _ | exact SV.le_int (by omega) | exact SV.le_any _ | refine And.intro ?_ ?_))⟩)
    | (refine .ret _ ?_
       conv => whnf
       refine ⟨[], ⟨?_, rfl⟩, trivial⟩
       conv => lhs; whnf
       congr 2
       first
         | exact (hbad _ (by omega) (by decide) (by clear p2 hbad hk hx; simp only [e1, toNat_pred] at *; unfold panE strLe; grind)).symm
         | (have : i = l.length := by omega
            subst this
            unfold pansE; rw [if_neg (by omega), firstAt_zero p2]))
-- PanelsFault
theorem s99 (l : List Pnl) (hk : pnOk l) : FSpec Tryz.prog 161 [.d (pnls l)] [] (fun x r => x = .d (.int .i64 (pansE l)) ∧ r = []) := by
  refine spec_of hT (C := []) Tryz.func161 rfl Tryz.call161 rfl rfl rfl ?_
  conv => whnf
  refine br_intro (fun h0 => ?_) (fun h0 => ?_)
  · simp at h0
    conv => whnf
    refine .ret _ ?_
    conv => whnf
    refine ⟨[], ⟨?_, rfl⟩, trivial⟩
    conv => lhs; whnf
    unfold pansE; rw [if_pos (by omega)]
  simp at h0
  conv => whnf
  refine LoopX.rule hT (C := []) (ι := Nat) (fun i => i ≤ l.length ∧ ∀ j, j < i → panE l j = 0) (fun i => mkSt [(3, .d (.str (if i = 0 then [] else (l.getD (i - 1) pn0).key))), (9, .d (pnls l)), (10, .d (.int .i64 l.length)), (11, .d (.int .i64 i))] []) (fun i => l.length - i) 0 ⟨by omega, by omega⟩ (by refine Entails.mk' [] rfl rfl ?_ ?_ <;> repeat' (first | exact True.intro | exact SV.le_refl _ | exact Res.le_refl _ | exact SV.le_int (by omega) | exact SV.le_any _ | refine And.intro ?_ ?_)) ?_
  rintro i ⟨p1, p2⟩
  have hx : (i : Int) < l.length → pnK (l.getD (i : Int).toNat pn0) := fun hi => hk.2 _ (getD_mem (by omega))
  have e1 : (i : Int).toNat = i := Int.toNat_natCast i
  have hbad : ∀ e : Int, i < l.length → e ≠ 0 → panE l i = e → pansE l = e := fun e h h1 h2 => by
    unfold pansE; rw [if_neg (by omega)]
    exact firstAt_eq h p2 h1 h2
  conv => whnf
  repeat' (first
    | (refine CallX.exact (s21 _ (hx (by omega))) rfl rfl ?_; rotate_right; conv => whnf)
    | (refine CallX.exact (s109 _ _ _) rfl rfl ?_; rotate_right; conv => whnf)
    | (refine br_intro (fun hb => ?_) (fun hb => ?_) <;> (try simp only [decide_eq_true_eq, decide_eq_false_iff_not, Bool.not_eq_true', Bool.not_eq_false', Bool.and_eq_true, Bool.or_eq_true, beq_iff_eq, not_and, Int.not_le, Int.not_lt, Int.toNat_natCast, beq_eq_false_iff_ne, ne_eq, eq_self, not_true_eq_false, not_false_eq_true] at hb) <;> (conv => whnf))
    | omega
    | (refine And.intro ?_ ?_; ((try dsimp only); first | omega | (refine ⟨by omega, by omega, Int.le_trans (Int.mul_le_mul_of_nonneg_right (Int.ofNat_le.2 (Nat.le_of_ble_eq_true (rfl : Nat.ble _ 1024 = true))) (by omega)) (by omega), by omega⟩) | (refine Nat.le_trans (Nat.mul_le_mul_left _ (Nat.le_of_ble_eq_true (rfl : Nat.ble _ 1024 = true))) ?_; omega) | (unfold inI64; omega) | (constructor <;> omega) | (simp only [inI64, List.length_cons, List.length_append, List.length_nil, List.length_set] at *; omega) | decide | (unfold inI64; decide)); conv => whnf)
    | omega | decide | assumption)
  all_goals first
    | (refine ⟨i + 1, ⟨by omega, first_step p2 (by clear p2 hbad hk hx; simp only [e1] at *; unfold panE strLe; grind)⟩, by omega, Entails.mk' [] rfl rfl ⟨(by rw [show (if i + 1 = 0 then ([] : List UInt8) else (l.getD (i + 1 - 1) pn0).key) = (l.getD (i : Int).toNat pn0).key from by rw [if_neg (by omega), e1, Nat.add_sub_cancel]]; exact SV.le_refl _), SV.le_refl _, SV.le_refl _, SV.le_refl _, trivial⟩ trivial⟩)
    | (refine .ret _ ?_
       conv => whnf
       refine ⟨[], ⟨?_, rfl⟩, trivial⟩
       conv => lhs; whnf
       congr 2
       first
         | exact (hbad _ (by omega) (by decide) (by clear p2 hbad hk hx; simp only [e1] at *; unfold panE strLe; grind [isKey_nil, less_nil])).symm
         | (have : i = l.length := by omega
            subst this
            unfold pansE; rw [if_neg (by omega), firstAt_zero p2]))
def rulE (r : Rul) : Int := if (0 ≤ r.near ∧ r.near ≤ 5000) ∧ (0 ≤ r.join ∧ r.join ≤ 5000) ∧ (0 ≤ r.slack ∧ r.slack ≤ 2000) ∧ (0 ≤ r.part ∧ r.part ≤ 1000) then 0 else 1
-- mark.CheckRules
theorem s102 (r : Rul) : FSpec Tryz.prog 158 [.agg ((ruF r).map .d)] [] (fun x o => x = .d (.int .i64 (rulE r)) ∧ o = []) := by
  refine spec_of hT (C := []) Tryz.func158 rfl Tryz.call158 rfl rfl rfl ?_
  conv => whnf
  repeat' (first
    | (refine CallX.exact (s119 _ _ _) rfl rfl ?_; rotate_right; conv => whnf)
    | (refine CallX.exact (s107 _ _) rfl rfl ?_; rotate_right; conv => whnf)
    | (refine br_intro (fun hb => ?_) (fun hb => ?_) <;> (try simp only [decide_eq_true_eq, decide_eq_false_iff_not, Bool.not_eq_true', Bool.not_eq_false', Bool.and_eq_true, Bool.or_eq_true, beq_iff_eq, not_and, Int.not_le, Int.not_lt, Int.toNat_natCast, beq_eq_false_iff_ne, ne_eq, eq_self, not_true_eq_false, not_false_eq_true] at hb) <;> (conv => whnf))
    | omega
    | (refine And.intro ?_ ?_; ((try dsimp only); first | omega | (refine ⟨by omega, by omega, Int.le_trans (Int.mul_le_mul_of_nonneg_right (Int.ofNat_le.2 (Nat.le_of_ble_eq_true (rfl : Nat.ble _ 1024 = true))) (by omega)) (by omega), by omega⟩) | (refine Nat.le_trans (Nat.mul_le_mul_left _ (Nat.le_of_ble_eq_true (rfl : Nat.ble _ 1024 = true))) ?_; omega) | (unfold inI64; omega) | (constructor <;> omega) | (simp only [inI64, List.length_cons, List.length_append, List.length_nil, List.length_set] at *; omega) | decide | (unfold inI64; decide)); conv => whnf)
    | omega | decide | assumption)
  all_goals
    refine .ret _ ?_
    conv => whnf
    refine ⟨[], ⟨?_, rfl⟩, trivial⟩
    conv => lhs; whnf
    congr 2
    unfold rulE; grind
-- RulesFault
theorem s103 (r : Rul) : FSpec Tryz.prog 68 [.agg ((ruF r).map .d)] [] (fun x o => x = .d (.int .i64 (rulE r)) ∧ o = []) := by
  refine spec_of hT (C := []) Tryz.func68 rfl Tryz.call68 rfl rfl rfl ?_
  conv => whnf
  repeat' (first
    | (refine CallX.exact (s109 _ _ _) rfl rfl ?_; rotate_right; conv => whnf)
    | (refine br_intro (fun hb => ?_) (fun hb => ?_) <;> (try simp only [decide_eq_true_eq, decide_eq_false_iff_not, Bool.not_eq_true', Bool.not_eq_false', Bool.and_eq_true, Bool.or_eq_true, beq_iff_eq, not_and, Int.not_le, Int.not_lt, Int.toNat_natCast, beq_eq_false_iff_ne, ne_eq, eq_self, not_true_eq_false, not_false_eq_true] at hb) <;> (conv => whnf))
    | omega
    | (refine And.intro ?_ ?_; ((try dsimp only); first | omega | (refine ⟨by omega, by omega, Int.le_trans (Int.mul_le_mul_of_nonneg_right (Int.ofNat_le.2 (Nat.le_of_ble_eq_true (rfl : Nat.ble _ 1024 = true))) (by omega)) (by omega), by omega⟩) | (refine Nat.le_trans (Nat.mul_le_mul_left _ (Nat.le_of_ble_eq_true (rfl : Nat.ble _ 1024 = true))) ?_; omega) | (unfold inI64; omega) | (constructor <;> omega) | (simp only [inI64, List.length_cons, List.length_append, List.length_nil, List.length_set] at *; omega) | decide | (unfold inI64; decide)); conv => whnf)
    | omega | decide | assumption)
  all_goals
    refine .ret _ ?_
    conv => whnf
    refine ⟨[], ⟨?_, rfl⟩, trivial⟩
    conv => lhs; whnf
    congr 2
    unfold rulE; grind
-- mark.order
theorem s223 (a b : Mrk) : FSpec Tryz.prog 243 [.agg ((mkF a).map .d), .agg ((mkF b).map .d)] [] (fun x r => x = .d (.int .i64 (mrkCmp a b)) ∧ r = []) := by
  refine spec_of hT (C := []) Tryz.func243 rfl Tryz.call243 rfl rfl rfl ?_
  conv => whnf
  repeat' (first
    | (refine CallX.exact (s184 _ _) rfl rfl ?_; rotate_right; conv => whnf)
    | (refine CallX.exact (s183 _ _) rfl rfl ?_; rotate_right; conv => whnf)
    | (refine CallX.pure (s182 [_, _, _, _, _] (by simp)) ⟨SV.le_lit (by rfl) (by rfl), trivial⟩ rfl ?_; conv => whnf)
    | (refine br_intro (fun hb => ?_) (fun hb => ?_) <;> (try simp only [decide_eq_true_eq, decide_eq_false_iff_not, Bool.not_eq_true', Bool.not_eq_false', Bool.and_eq_true, Bool.or_eq_true, beq_iff_eq, not_and, Int.not_le, Int.not_lt, Int.toNat_natCast, beq_eq_false_iff_ne, ne_eq, eq_self, not_true_eq_false, not_false_eq_true] at hb) <;> (conv => whnf))
    | (refine RegX.rule (id := 1) hT rfl [] [(0, []), (1, []), (2, [0, 1]), (3, [0, 1]), (5, [0, 1, 2, 3]), (6, [0, 1, 2, 3]), (7, [0, 1, 2, 3, 5, 6]), (8, [0, 1, 2, 3, 5, 6]), (10, [0, 1, 2, 3, 5, 6, 7, 8]), (11, [0, 1, 2, 3, 5, 6, 7, 8]), (12, [0, 1, 2, 3, 5, 6, 7, 8, 10, 11]), (13, [0, 1, 2, 3, 5, 6, 7, 8, 10, 11]), (15, [0, 1, 2, 3, 5, 6, 7, 8, 10, 11, 12, 13]), (16, [0, 1, 2, 3, 5, 6, 7, 8, 10, 11, 12, 13]), (17, [0, 1, 2, 3, 5, 6, 7, 8, 10, 11, 12, 13, 15, 16]), (18, [0, 1, 2, 3, 5, 6, 7, 8, 10, 11, 12, 13, 15, 16]), (20, [0, 1, 2, 3, 5, 6, 7, 8, 10, 11, 12, 13, 15, 16, 17, 18]), (21, [0, 1, 2, 3, 5, 6, 7, 8, 10, 11, 12, 13, 15, 16, 17, 18]), (22, [0, 1, 2, 3, 5, 6, 7, 8, 10, 11, 12, 13, 15, 16, 17, 18, 20, 21]), (23, [0, 1, 2, 3, 5, 6, 7, 8, 10, 11, 12, 13, 15, 16, 17, 18, 20, 21]), (4, [5, 6, 7, 8, 10, 11, 12, 13, 15, 16, 17, 18, 20, 21, 22, 23]), (9, [10, 11, 12, 13, 15, 16, 17, 18, 20, 21, 22, 23]), (14, [15, 16, 17, 18, 20, 21, 22, 23]), (19, [20, 21, 22, 23]), (24, []), (25, []), (26, []), (27, [])] (by decide +kernel) ?_; conv => whnf)
    | omega
    | (refine And.intro ?_ ?_; ((try dsimp only); first | omega | (refine ⟨by omega, by omega, Int.le_trans (Int.mul_le_mul_of_nonneg_right (Int.ofNat_le.2 (Nat.le_of_ble_eq_true (rfl : Nat.ble _ 1024 = true))) (by omega)) (by omega), by omega⟩) | (refine Nat.le_trans (Nat.mul_le_mul_left _ (Nat.le_of_ble_eq_true (rfl : Nat.ble _ 1024 = true))) ?_; omega) | (unfold inI64; omega) | (constructor <;> omega) | (simp only [inI64, List.length_cons, List.length_append, List.length_nil, List.length_set] at *; omega) | decide | (unfold inI64; decide)); conv => whnf)
    | omega | decide | assumption)
  refine .ret _ ?_
  conv => whnf
  refine ⟨[], ⟨?_, rfl⟩, trivial⟩
  conv => lhs; whnf
  rfl
theorem cmpB_S : ∀ (a b : List UInt8), Lib.compareBytes a b = cmpS a b := by
  intro a
  induction a with
  | nil => intro b; cases b <;> simp [Lib.compareBytes, cmpS, Op.bytesLess]
  | cons x a ih =>
    intro b
    cases b with
    | nil => simp [Lib.compareBytes, cmpS, Op.bytesLess]
    | cons y b =>
      have := ih b
      unfold cmpS at this ⊢
      simp only [Lib.compareBytes, Op.bytesLess]
      grind
-- strings.Compare
theorem s190 (a b : List UInt8) : FSpec Tryz.prog 101 [.d (.str a), .d (.str b)] [] (fun x r => x = .d (.int .i64 (cmpS a b)) ∧ r = []) := by
  refine FSpec.ofBelow Tryz.call101 (fun G β w vs _ hl hd => ?_)
  match vs, hl with
  | [u, v], _ =>
    have hu := hd 0 _ _ rfl rfl
    have hv := hd 1 _ _ rfl rfl
    cases hu with | d _ _ hu => cases hu with | str _ =>
    cases hv with | d _ _ hv => cases hv with | str _ =>
    refine ⟨.int .i64 (Lib.compareBytes a b), fun G β => ?_, (Go.Proofs.Any.strings_Compare Go.Proofs.Tryz.lays106 ⟨a.toArray⟩ ⟨b.toArray⟩ w).mono ?_⟩
    · rw [← cmpB_S]; exact .d _ _ (.int _ _)
    · rintro e w' ⟨he, rfl⟩
      exact ⟨he, Below.refl _ _⟩
end Go.Proofs.YtnkdlkgannnfhaaGreatDoor
set_option maxRecDepth 20000
namespace Go.Proofs.YtnkdlkgannnfhaaGreatDoor
open Go Go.Eng
-- mark.formed
theorem s192 (l : List Mrk) (hk : mkOk l) : FSpec Tryz.prog 195 [.d (mrks l)] [] (fun x r => x = .d (.int .i64 (mrksE l)) ∧ r = []) := by
  refine spec_of hT (C := []) Tryz.func195 rfl Tryz.call195 rfl rfl rfl ?_
  conv => whnf
  refine br_intro (fun h0 => ?_) (fun h0 => ?_)
  · simp at h0
    conv => whnf
    refine .ret _ ?_
    conv => whnf
    refine ⟨[], ⟨?_, rfl⟩, trivial⟩
    conv => lhs; whnf
    unfold mrksE; rw [if_pos (by omega)]
  simp at h0
  conv => whnf
  refine LoopX.rule hT (C := []) (ι := Nat) (fun i => i ≤ l.length ∧ ∀ j, j < i → mrkE l j = 0) (fun i => mkSt [(0, .d (mrks l)), (8, .d (mrks l)), (9, .d (.int .i64 l.length)), (10, .d (.int .i64 i))] []) (fun i => l.length - i) 0 ⟨by omega, by omega⟩ (by refine Entails.mk' [] rfl rfl ?_ ?_ <;> repeat' (first | exact True.intro | exact SV.le_refl _ | exact Res.le_refl _ | exact SV.le_int (by omega) | exact SV.le_any _ | refine And.intro ?_ ?_)) ?_
  rintro i ⟨p1, p2⟩
  have hx : (i : Int) < l.length → mkK (l.getD (i : Int).toNat mk0) := fun hi => hk.2 _ (getD_mem (by omega))
  have e1 : (i : Int).toNat = i := Int.toNat_natCast i
  have hbad : ∀ e : Int, i < l.length → e ≠ 0 → mrkE l i = e → mrksE l = e := fun e h h1 h2 => by
    unfold mrksE; rw [if_neg (by omega)]
    exact firstAt_eq h p2 h1 h2
  conv => whnf
  repeat' (first
    | (refine CallX.exact (s108 _ (hx (by omega))) rfl rfl ?_; rotate_right; conv => whnf)
    | (refine CallX.exact (s119 _ _ _) rfl rfl ?_; rotate_right; conv => whnf)
    | (refine CallX.exact (s223 (l.getD ((i : Int) - 1).toNat mk0) (l.getD (i : Int).toNat mk0)) rfl rfl ?_; rotate_right; conv => whnf)
    | (refine br_intro (fun hb => ?_) (fun hb => ?_) <;> (try simp only [decide_eq_true_eq, decide_eq_false_iff_not, Bool.not_eq_true', Bool.not_eq_false', Bool.and_eq_true, Bool.or_eq_true, beq_iff_eq, not_and, Int.not_le, Int.not_lt, Int.toNat_natCast, beq_eq_false_iff_ne, ne_eq, eq_self, not_true_eq_false, not_false_eq_true] at hb) <;> (conv => whnf))
    | (refine RegX.rule (id := 12) hT rfl [] [(0, []), (1, []), (2, []), (3, []), (4, [3]), (5, [3]), (6, []), (7, []), (8, [3, 4, 5, 6, 7]), (9, []), (10, []), (11, []), (12, [])] (by decide +kernel) ?_; conv => whnf)
    | omega
    | (refine And.intro ?_ ?_; ((try dsimp only); first | omega | (refine ⟨by omega, by omega, Int.le_trans (Int.mul_le_mul_of_nonneg_right (Int.ofNat_le.2 (Nat.le_of_ble_eq_true (rfl : Nat.ble _ 1024 = true))) (by omega)) (by omega), by omega⟩) | (refine Nat.le_trans (Nat.mul_le_mul_left _ (Nat.le_of_ble_eq_true (rfl : Nat.ble _ 1024 = true))) ?_; omega) | (unfold inI64; omega) | (constructor <;> omega) | (simp only [inI64, List.length_cons, List.length_append, List.length_nil, List.length_set] at *; omega) | decide | (unfold inI64; decide)); conv => whnf)
    | omega | decide | assumption)
  all_goals first
    | (refine ⟨i + 1, ⟨by omega, first_step p2 (by clear p2 hbad hk hx; simp only [e1, toNat_pred] at *; unfold mrkE ; grind)⟩, by omega, (by refine Entails.mk' [] rfl rfl ?_ ?_ <;> repeat' (first | exact True.intro | exact SV.le_refl _ | exact Res.le_refl _ | exact SV.le_int (by omega) | exact SV.le_any _ | refine And.intro ?_ ?_))⟩)
    | (refine .ret _ ?_
       conv => whnf
       refine ⟨[], ⟨?_, rfl⟩, trivial⟩
       conv => lhs; whnf
       congr 2
       first
         | exact (hbad _ (by omega) (by decide) (by clear p2 hbad hk hx; simp only [e1, toNat_pred] at *; unfold mrkE ; grind)).symm
         | (have : i = l.length := by omega
            subst this
            unfold mrksE; rw [if_neg (by omega), firstAt_zero p2]))
def mcell (m : Mrk) : Res := .cells 133 ((mkF m).map .d)
theorem s194 (p : Pnl) (m : Mrk) : FSpec Tryz.prog 235 [.agg ((pnF p).map .d), .ptr 1000001 0] [(1000001, mcell m)] (fun x r => x = .d (.bool (p.key == m.pan)) ∧ r = [(1000001, mcell m)]) := by
  refine spec_of hT (C := []) Tryz.func235 rfl Tryz.call235 rfl rfl rfl ?_
  conv => whnf
  refine .ret _ ?_
  conv => whnf
  exact ⟨[(1000001, mcell m)], ⟨rfl, rfl⟩, Res.le_refl _, trivial⟩
theorem s196 (p : Pnl) (m : Mrk) : FSpec Tryz.prog 234 [.agg ((pnF p).map .d), .ptr 1000001 0] [(1000001, mcell m)] (fun x r => x = .d (.bool (p.key == m.pan)) ∧ r = [(1000001, mcell m)]) := by
  refine spec_of hT (C := []) Tryz.func234 rfl Tryz.call234 rfl rfl rfl ?_
  conv => whnf
  refine .ret _ ?_
  conv => whnf
  exact ⟨[(1000001, mcell m)], ⟨rfl, rfl⟩, Res.le_refl _, trivial⟩
-- slices.IndexFunc of panels
theorem s193 (g : FuncId) (l : List Pnl) (hl : l.length ≤ 2^40) (m : Mrk)
    (hg : ∀ p, FSpec Tryz.prog g [.agg ((pnF p).map .d), .ptr 1000001 0] [(1000001, mcell m)] (fun x r => x = .d (.bool (p.key == m.pan)) ∧ r = [(1000001, mcell m)])) :
    FSpec Tryz.prog 193 [.d (pnls l), .fn g [.ptr 1000001 0]] [(1000001, mcell m)] (fun x r => x = .d (.int .i64 (panIx l m.pan)) ∧ r = [(1000001, mcell m)]) := by
  refine spec_of hT (C := []) Tryz.func193 rfl Tryz.call193 rfl rfl rfl ?_
  conv => whnf
  refine LoopX.rule hT (C := []) (ι := Nat) (fun i => i ≤ l.length ∧ ∀ j, j < i → ((l.getD j pn0).key == m.pan) = false) (fun i => mkSt [(0, .d (pnls l)), (1, .fn g [.ptr 1000001 0]), (7, .d (.int .i64 l.length)), (8, .d (.int .i64 i))] [(1000001, mcell m)]) (fun i => l.length - i) 0 ⟨by omega, by omega⟩ (by refine Entails.mk' [(1000001, 1000001)] rfl rfl ?_ ?_ <;> repeat' (first | exact True.intro | exact SV.le_refl _ | exact Res.le_refl _ | exact SV.le_int (by omega) | exact SV.le_any _ | refine And.intro ?_ ?_)) ?_
  rintro i ⟨p1, p2⟩
  have e1 : (i : Int).toNat = i := Int.toNat_natCast i
  conv => whnf
  repeat' (first
    | (refine CallX.of (hg (l.getD (i : Int).toNat pn0)) [(1000001, 1000001)] rfl ⟨SV.le_refl _, SV.le_refl _, trivial⟩ ⟨Res.le_refl _, trivial⟩ rfl rfl ?_; rintro x rout ⟨rfl, rfl⟩; refine ⟨rfl, ?_⟩; conv => whnf)
    | (refine br_intro (fun hb => ?_) (fun hb => ?_) <;> (try simp only [decide_eq_true_eq, decide_eq_false_iff_not, Bool.not_eq_true', Bool.not_eq_false', Bool.and_eq_true, Bool.or_eq_true, beq_iff_eq, not_and, Int.not_le, Int.not_lt, Int.toNat_natCast, beq_eq_false_iff_ne, ne_eq, eq_self, not_true_eq_false, not_false_eq_true] at hb) <;> (conv => whnf))
    | omega
    | (refine And.intro ?_ ?_; ((try dsimp only); first | omega | (refine ⟨by omega, by omega, Int.le_trans (Int.mul_le_mul_of_nonneg_right (Int.ofNat_le.2 (Nat.le_of_ble_eq_true (rfl : Nat.ble _ 1024 = true))) (by omega)) (by omega), by omega⟩) | (refine Nat.le_trans (Nat.mul_le_mul_left _ (Nat.le_of_ble_eq_true (rfl : Nat.ble _ 1024 = true))) ?_; omega) | (unfold inI64; omega) | (constructor <;> omega) | (simp only [inI64, List.length_cons, List.length_append, List.length_nil, List.length_set] at *; omega) | decide | (unfold inI64; decide)); conv => whnf)
    | omega | decide | assumption)
  · refine .ret _ ?_
    conv => whnf
    refine ⟨[(1000001, mcell m)], ⟨?_, rfl⟩, Res.le_refl _, trivial⟩
    conv => lhs; whnf
    congr 2
    exact (ixF_hit (by omega) p2 (by simpa using hb)).symm
  · exact ⟨i + 1, ⟨by omega, all_step p2 (by simpa using hb)⟩, by omega, (by refine Entails.mk' [(1000001, 1000001)] rfl rfl ?_ ?_ <;> repeat' (first | exact True.intro | exact SV.le_refl _ | exact Res.le_refl _ | exact SV.le_int (by omega) | exact SV.le_any _ | refine And.intro ?_ ?_))⟩
  · refine .ret _ ?_
    conv => whnf
    refine ⟨[(1000001, mcell m)], ⟨?_, rfl⟩, Res.le_refl _, trivial⟩
    conv => lhs; whnf
    congr 2
    have : i = l.length := by omega
    subst this
    exact (ixF_none p2).symm
theorem panIx_lt (p : List Pnl) (key : List UInt8) : panIx p key < p.length := (ixF_bd (p := fun i => (p.getD i pn0).key == key) (n := p.length)).2.1
theorem runM_le (l : List Mrk) : ∀ i, runM l i ≤ i + 1 := by
  intro i
  induction i with
  | zero => simp [runM]
  | succ i ih => rw [runM]; split <;> omega
def prevR (l : List Mrk) (i : Nat) : Int := if i = 0 then 0 else runM l (i - 1)
-- mark.onPanels
theorem s159 (p : List Pnl) (l : List Mrk) (hp : p.length ≤ 2^40) (hk : mkOk l) : FSpec Tryz.prog 166 [.d (pnls p), .d (mrks l)] [] (fun x r => x = .d (.int .i64 (onPE p l)) ∧ r = []) := by
  refine spec_of hT (C := []) Tryz.func166 rfl Tryz.call166 rfl rfl rfl ?_
  conv => whnf
  repeat' (first
    | (refine CallX.exact (s192 l hk) rfl rfl ?_; rotate_right; conv => whnf)
    | (refine br_intro (fun hb => ?_) (fun hb => ?_) <;> (try simp only [decide_eq_true_eq, decide_eq_false_iff_not, Bool.not_eq_true', Bool.not_eq_false', Bool.and_eq_true, Bool.or_eq_true, beq_iff_eq, not_and, Int.not_le, Int.not_lt, Int.toNat_natCast, beq_eq_false_iff_ne, ne_eq, eq_self, not_true_eq_false, not_false_eq_true] at hb) <;> (conv => whnf))
    | (refine RegX.rule (id := 10) hT rfl [] [(0, []), (1, []), (2, [0, 1]), (3, [0, 1, 2]), (4, [0, 1]), (5, [0, 1]), (6, [0, 1]), (7, []), (8, []), (9, []), (10, []), (11, [9, 10]), (12, [9, 10, 11]), (13, [9, 10]), (14, [9, 10]), (15, [9, 10]), (16, []), (17, []), (18, [])] (by decide +kernel) ?_; conv => whnf)
    | (refine RegX.rule (id := 17) hT rfl [] [(0, []), (1, []), (2, []), (3, []), (4, []), (5, [3, 4]), (6, [3, 4, 5]), (7, [3, 4, 5]), (8, [3, 4]), (9, [3, 4]), (10, [3, 4]), (11, []), (12, []), (13, []), (14, []), (15, [13, 14]), (16, [13, 14, 15]), (17, [13, 14, 15]), (18, [13, 14]), (19, [13, 14]), (20, [13, 14]), (21, []), (22, []), (23, [])] (by decide +kernel) ?_; conv => whnf)
    | omega
    | (refine And.intro ?_ ?_; ((try dsimp only); first | omega | (refine ⟨by omega, by omega, Int.le_trans (Int.mul_le_mul_of_nonneg_right (Int.ofNat_le.2 (Nat.le_of_ble_eq_true (rfl : Nat.ble _ 1024 = true))) (by omega)) (by omega), by omega⟩) | (refine Nat.le_trans (Nat.mul_le_mul_left _ (Nat.le_of_ble_eq_true (rfl : Nat.ble _ 1024 = true))) ?_; omega) | (unfold inI64; omega) | (constructor <;> omega) | (simp only [inI64, List.length_cons, List.length_append, List.length_nil, List.length_set] at *; omega) | decide | (unfold inI64; decide)); conv => whnf)
    | omega | decide | assumption)
  · refine .ret _ ?_
    conv => whnf
    refine ⟨[], ⟨?_, rfl⟩, trivial⟩
    conv => lhs; whnf
    congr 2; unfold onPE; rw [if_pos hb]
  have hm : mrksE l = 0 := by omega
  have hE : onPE p l = if firstAt (onE p l) l.length ≠ 0 then firstAt (onE p l) l.length else firstAt (fullE l) l.length := by unfold onPE; rw [if_neg (by omega)]
  rw [hE]
  have hl60 : l.length ≤ 60 := by unfold mrksE at hm; split at hm; cases hm; omega
  refine LoopX.rule hT (C := []) (ι := Nat) (fun i => i ≤ l.length ∧ ∀ j, j < i → onE p l j = 0) (fun i => mkSt [(0, .d (pnls p)), (1, .d (mrks l)), (17, .d (mrks l)), (18, .d (.int .i64 l.length)), (19, .d (.int .i64 i))] []) (fun i => l.length - i) 0 ⟨by omega, by omega⟩ (by refine Entails.mk' [] rfl rfl ?_ ?_ <;> repeat' (first | exact True.intro | exact SV.le_refl _ | exact Res.le_refl _ | exact SV.le_int (by omega) | exact SV.le_any _ | refine And.intro ?_ ?_)) ?_
  rintro i ⟨p1, p2⟩
  have e1 : (i : Int).toNat = i := Int.toNat_natCast i
  have hbad : ∀ e : Int, i < l.length → e ≠ 0 → onE p l i = e → firstAt (onE p l) l.length = e := fun e h h1 h2 => firstAt_eq h p2 h1 h2
  have hix := panIx_lt p (l.getD i mk0).pan
  conv => whnf
  repeat' (first
    | (refine CallX.of (s193 235 p hp (l.getD i mk0) (fun q => s194 q _)) [(1000001, 7)] rfl ⟨SV.le_refl _, SV.le_refl _, trivial⟩ ⟨Res.le_refl _, trivial⟩ rfl rfl ?_; rintro x rout ⟨rfl, rfl⟩; refine ⟨rfl, ?_⟩; conv => whnf)
    | (refine br_intro (fun hb => ?_) (fun hb => ?_) <;> (try simp only [decide_eq_true_eq, decide_eq_false_iff_not, Bool.not_eq_true', Bool.not_eq_false', Bool.and_eq_true, Bool.or_eq_true, beq_iff_eq, not_and, Int.not_le, Int.not_lt, Int.toNat_natCast, beq_eq_false_iff_ne, ne_eq, eq_self, not_true_eq_false, not_false_eq_true] at hb) <;> (conv => whnf))
    | (refine RegX.rule (id := 10) hT rfl [] [(0, []), (1, []), (2, [0, 1]), (3, [0, 1, 2]), (4, [0, 1]), (5, [0, 1]), (6, [0, 1]), (7, []), (8, []), (9, []), (10, []), (11, [9, 10]), (12, [9, 10, 11]), (13, [9, 10]), (14, [9, 10]), (15, [9, 10]), (16, []), (17, []), (18, [])] (by decide +kernel) ?_; conv => whnf)
    | (refine RegX.rule (id := 17) hT rfl [] [(0, []), (1, []), (2, []), (3, []), (4, []), (5, [3, 4]), (6, [3, 4, 5]), (7, [3, 4, 5]), (8, [3, 4]), (9, [3, 4]), (10, [3, 4]), (11, []), (12, []), (13, []), (14, []), (15, [13, 14]), (16, [13, 14, 15]), (17, [13, 14, 15]), (18, [13, 14]), (19, [13, 14]), (20, [13, 14]), (21, []), (22, []), (23, [])] (by decide +kernel) ?_; conv => whnf)
    | omega
    | (refine And.intro ?_ ?_; ((try dsimp only); first | omega | (refine ⟨by omega, by omega, Int.le_trans (Int.mul_le_mul_of_nonneg_right (Int.ofNat_le.2 (Nat.le_of_ble_eq_true (rfl : Nat.ble _ 1024 = true))) (by omega)) (by omega), by omega⟩) | (refine Nat.le_trans (Nat.mul_le_mul_left _ (Nat.le_of_ble_eq_true (rfl : Nat.ble _ 1024 = true))) ?_; omega) | (unfold inI64; omega) | (constructor <;> omega) | (simp only [inI64, List.length_cons, List.length_append, List.length_nil, List.length_set] at *; omega) | decide | (unfold inI64; decide)); conv => whnf)
    | omega | decide | assumption)
  · refine .ret _ ?_
    conv => whnf
    refine ⟨[], ⟨?_, rfl⟩, trivial⟩
    conv => lhs; whnf
    congr 2
    have := hbad 8 (by omega) (by decide) (by clear p2 hbad; unfold onE; simp only; rw [if_pos (by omega)])
    rw [this, if_pos (by decide)]
  · refine .ret _ ?_
    conv => whnf
    refine ⟨[], ⟨?_, rfl⟩, trivial⟩
    conv => lhs; whnf
    congr 2
    have := hbad 1 (by omega) (by decide) (by clear p2 hbad; unfold onE; simp only; grind)
    rw [this, if_pos (by decide)]
  · refine .ret _ ?_
    conv => whnf
    refine ⟨[], ⟨?_, rfl⟩, trivial⟩
    conv => lhs; whnf
    congr 2
    have := hbad 1 (by omega) (by decide) (by clear p2 hbad; unfold onE; simp only; grind)
    rw [this, if_pos (by decide)]
  · refine ⟨i + 1, ⟨by omega, first_step p2 (by clear p2 hbad; unfold onE; grind)⟩, by omega, (by refine Entails.mk' [] rfl rfl ?_ ?_ <;> repeat' (first | exact True.intro | exact SV.le_refl _ | exact Res.le_refl _ | exact SV.le_int (by omega) | exact SV.le_any _ | refine And.intro ?_ ?_))⟩
  have hi : i = l.length := by omega
  rw [hi] at p2
  rw [firstAt_zero p2, if_neg (by decide)]
  refine LoopX.rule hT (C := []) (ι := Nat) (fun i => i ≤ l.length ∧ ∀ j, j < i → fullE l j = 0) (fun i => mkSt [(1, .d (mrks l)), (9, .d (.int .i64 (prevR l i))), (49, .d (mrks l)), (50, .d (.int .i64 l.length)), (51, .d (.int .i64 i))] []) (fun i => l.length - i) 0 ⟨by omega, by omega⟩ (by refine Entails.mk' [] rfl rfl ?_ ?_ <;> repeat' (first | exact True.intro | exact SV.le_refl _ | exact Res.le_refl _ | exact SV.le_int (by omega) | exact SV.le_any _ | refine And.intro ?_ ?_)) ?_
  rintro i ⟨p1, p2⟩
  have e1 : (i : Int).toNat = i := Int.toNat_natCast i
  have hpr : 0 ≤ prevR l i ∧ prevR l i ≤ i := by
    unfold prevR
    split
    · omega
    · have := runM_le l (i - 1); omega
  have hst : ∀ b : Int, b = runM l i → b ≤ 6 → fullE l i = 0 := fun b h1 h2 => by unfold fullE; rw [if_neg (by omega)]
  have hbad : ∀ b : Int, i < l.length → b = runM l i → 6 < b → firstAt (fullE l) l.length = 12 := fun b h0 h1 h2 => firstAt_eq h0 p2 (by decide) (by unfold fullE; rw [if_pos (by omega)])
  have hzero : i = 0 → (1 : Int) = runM l i := fun h => by subst h; rfl
  have hsame : 0 < i → sameM (l.getD i mk0) (l.getD (i - 1) mk0) = true → prevR l i + 1 = runM l i := fun h h1 => by
    obtain ⟨k, rfl⟩ : ∃ k, i = k + 1 := ⟨i - 1, by omega⟩
    simp only [Nat.add_sub_cancel] at h1
    rw [runM, if_pos h1]; simp [prevR]
  have hdiff : 0 < i → ¬ sameM (l.getD i mk0) (l.getD (i - 1) mk0) = true → (1 : Int) = runM l i := fun h h1 => by
    obtain ⟨k, rfl⟩ : ∃ k, i = k + 1 := ⟨i - 1, by omega⟩
    simp only [Nat.add_sub_cancel] at h1
    rw [runM, if_neg h1]; rfl
  have hnext : prevR l (i + 1) = runM l i := by simp [prevR]
  have hp0 : i = 0 → prevR l i = 0 := fun h => by subst h; rfl
  unfold sameM at hsame hdiff
  conv => whnf
  repeat' (first
    | (refine br_intro (fun hb => ?_) (fun hb => ?_) <;> (try simp only [decide_eq_true_eq, decide_eq_false_iff_not, Bool.not_eq_true', Bool.not_eq_false', Bool.and_eq_true, Bool.or_eq_true, beq_iff_eq, not_and, Int.not_le, Int.not_lt, Int.toNat_natCast, beq_eq_false_iff_ne, ne_eq, eq_self, not_true_eq_false, not_false_eq_true] at hb) <;> (conv => whnf))
    | (refine RegX.rule (id := 10) hT rfl [] [(0, []), (1, []), (2, [0, 1]), (3, [0, 1, 2]), (4, [0, 1]), (5, [0, 1]), (6, [0, 1]), (7, []), (8, []), (9, []), (10, []), (11, [9, 10]), (12, [9, 10, 11]), (13, [9, 10]), (14, [9, 10]), (15, [9, 10]), (16, []), (17, []), (18, [])] (by decide +kernel) ?_; conv => whnf)
    | (refine RegX.rule (id := 17) hT rfl [] [(0, []), (1, []), (2, []), (3, []), (4, []), (5, [3, 4]), (6, [3, 4, 5]), (7, [3, 4, 5]), (8, [3, 4]), (9, [3, 4]), (10, [3, 4]), (11, []), (12, []), (13, []), (14, []), (15, [13, 14]), (16, [13, 14, 15]), (17, [13, 14, 15]), (18, [13, 14]), (19, [13, 14]), (20, [13, 14]), (21, []), (22, []), (23, [])] (by decide +kernel) ?_; conv => whnf)
    | omega
    | (refine And.intro ?_ ?_; ((try dsimp only); first | omega | (refine ⟨by omega, by omega, Int.le_trans (Int.mul_le_mul_of_nonneg_right (Int.ofNat_le.2 (Nat.le_of_ble_eq_true (rfl : Nat.ble _ 1024 = true))) (by omega)) (by omega), by omega⟩) | (refine Nat.le_trans (Nat.mul_le_mul_left _ (Nat.le_of_ble_eq_true (rfl : Nat.ble _ 1024 = true))) ?_; omega) | (unfold inI64; omega) | (constructor <;> omega) | (simp only [inI64, List.length_cons, List.length_append, List.length_nil, List.length_set] at *; omega) | decide | (unfold inI64; decide)); conv => whnf)
    | omega | decide | assumption)
  all_goals try simp only [toNat_pred] at *
  all_goals first
    | (have hv : prevR l i + 1 = runM l i := by clear hst hbad p2 hnext; grind
       first
         | exact ⟨i + 1, ⟨by omega, first_step p2 (hst _ hv (by omega))⟩, by omega, Entails.mk' [] rfl rfl ⟨SV.le_refl _, SV.le_int (by rw [hnext]; exact hv), SV.le_refl _, SV.le_refl _, SV.le_refl _, trivial⟩ trivial⟩
         | (refine .ret _ ?_
            conv => whnf
            refine ⟨[], ⟨?_, rfl⟩, trivial⟩
            conv => lhs; whnf
            congr 2
            rw [hbad _ (by omega) hv (by omega)]))
    | (have hv : (0 : Int) + 1 = runM l i := by clear hst hbad p2 hnext; grind
       exact ⟨i + 1, ⟨by omega, first_step p2 (hst _ hv (by omega))⟩, by omega, Entails.mk' [] rfl rfl ⟨SV.le_refl _, SV.le_int (by rw [hnext]; exact hv), SV.le_refl _, SV.le_refl _, SV.le_refl _, trivial⟩ trivial⟩)
    | (refine .ret _ ?_
       conv => whnf
       refine ⟨[], ⟨?_, rfl⟩, trivial⟩
       conv => lhs; whnf
       congr 2
       have : i = l.length := by omega
       subst this
       rw [firstAt_zero p2])
end Go.Proofs.YtnkdlkgannnfhaaGreatDoor
set_option maxRecDepth 20000
namespace Go.Proofs.YtnkdlkgannnfhaaGreatDoor
open Go Go.Eng
def cmpIL : List Int → List Int → Int
  | [], [] => 0
  | [], _ :: _ => -1
  | _ :: _, [] => 1
  | x :: xs, y :: ys => if cmpI x y ≠ 0 then cmpI x y else cmpIL xs ys
-- slices.Compare of numbers
theorem s191 (l m : List Int) (hl : l.length ≤ 2^40) (hm : m.length ≤ 2^40) : FSpec Tryz.prog 245 [.d (ints l), .d (ints m)] [] (fun x r => x = .d (.int .i64 (cmpIL l m)) ∧ r = []) := by
  refine spec_of hT (C := []) Tryz.func245 rfl Tryz.call245 rfl rfl rfl ?_
  conv => whnf
  refine LoopX.rule hT (C := []) (ι := Nat) (fun i => i ≤ l.length ∧ i ≤ m.length ∧ cmpIL l m = cmpIL (l.drop i) (m.drop i)) (fun i => mkSt [(0, .d (ints l)), (1, .d (ints m)), (9, .d (ints l)), (10, .d (.int .i64 l.length)), (11, .d (.int .i64 i))] []) (fun i => l.length - i) 0 ⟨by omega, by omega, by simp⟩ (by refine Entails.mk' [] rfl rfl ?_ ?_ <;> repeat' (first | exact True.intro | exact SV.le_refl _ | exact Res.le_refl _ | exact SV.le_int (by omega) | exact SV.le_any _ | refine And.intro ?_ ?_)) ?_
  rintro i ⟨p1, p2, p3⟩
  have hd : i < l.length → l.drop i = l.getD i 0 :: l.drop (i + 1) := fun hi => by rw [List.drop_eq_getElem_cons hi, List.getD_eq_getElem?_getD, List.getElem?_eq_getElem hi]; rfl
  have hd2 : i < m.length → m.drop i = m.getD i 0 :: m.drop (i + 1) := fun hi => by rw [List.drop_eq_getElem_cons hi, List.getD_eq_getElem?_getD, List.getElem?_eq_getElem hi]; rfl
  have e1 : (i : Int).toNat = i := Int.toNat_natCast i
  conv => whnf
  repeat' (first
    | (refine CallX.exact (s183 _ _) rfl rfl ?_; rotate_right; conv => whnf)
    | (refine br_intro (fun hb => ?_) (fun hb => ?_) <;> (try simp only [decide_eq_true_eq, decide_eq_false_iff_not, Bool.not_eq_true', Bool.not_eq_false', Bool.and_eq_true, Bool.or_eq_true, beq_iff_eq, not_and, Int.not_le, Int.not_lt, Int.toNat_natCast, beq_eq_false_iff_ne, ne_eq, eq_self, not_true_eq_false, not_false_eq_true] at hb) <;> (conv => whnf))
    | omega
    | (refine And.intro ?_ ?_; ((try dsimp only); first | omega | (refine ⟨by omega, by omega, Int.le_trans (Int.mul_le_mul_of_nonneg_right (Int.ofNat_le.2 (Nat.le_of_ble_eq_true (rfl : Nat.ble _ 1024 = true))) (by omega)) (by omega), by omega⟩) | (refine Nat.le_trans (Nat.mul_le_mul_left _ (Nat.le_of_ble_eq_true (rfl : Nat.ble _ 1024 = true))) ?_; omega) | (unfold inI64; omega) | (constructor <;> omega) | (simp only [inI64, List.length_cons, List.length_append, List.length_nil, List.length_set] at *; omega) | decide | (unfold inI64; decide)); conv => whnf)
    | omega | decide | assumption)
  · refine .ret _ ?_
    conv => whnf
    refine ⟨[], ⟨?_, rfl⟩, trivial⟩
    conv => lhs; whnf
    congr 2
    rw [p3, hd (by omega), List.drop_eq_nil_iff.2 (by omega : m.length ≤ i)]; rfl
  · refine .ret _ ?_
    conv => whnf
    refine ⟨[], ⟨?_, rfl⟩, trivial⟩
    conv => lhs; whnf
    congr 2
    rw [p3, hd (by omega), hd2 (by omega), cmpIL, if_pos (by simpa using hb)]; simp only [e1]
  · refine ⟨i + 1, ⟨by omega, by omega, ?_⟩, by omega, (by refine Entails.mk' [] rfl rfl ?_ ?_ <;> repeat' (first | exact True.intro | exact SV.le_refl _ | exact Res.le_refl _ | exact SV.le_int (by omega) | exact SV.le_any _ | refine And.intro ?_ ?_))⟩
    rw [p3, hd (by omega), hd2 (by omega), cmpIL, if_neg (by simpa using hb)]
  · refine .ret _ ?_
    conv => whnf
    refine ⟨[], ⟨?_, rfl⟩, trivial⟩
    conv => lhs; whnf
    congr 2
    have hm : i < m.length := by omega
    rw [p3, hd2 hm, List.drop_eq_nil_iff.2 (by omega : l.length ≤ i)]; rfl
  · refine .ret _ ?_
    conv => whnf
    refine ⟨[], ⟨?_, rfl⟩, trivial⟩
    conv => lhs; whnf
    congr 2
    rw [p3, List.drop_eq_nil_iff.2 (by omega : m.length ≤ i), List.drop_eq_nil_iff.2 (by omega : l.length ≤ i)]; rfl
theorem mrkOrder_eq (a b : Mrk) : mrkCmp a b = if a.pan ≠ b.pan then cmpS a.pan b.pan else cmpIL [a.kind, a.x, a.y, a.size] [b.kind, b.x, b.y, b.size] := by
  unfold mrkCmp
  simp only [firstE, cmpIL]
  by_cases h : a.pan = b.pan
  · have : cmpS a.pan b.pan = 0 := by unfold cmpS; rw [h, less_irr]; rfl
    simp [this, h]
    grind
  · have : cmpS a.pan b.pan ≠ 0 := by
      unfold cmpS
      intro q
      split at q
      · cases q
      · rename_i q1
        rw [less_tri _ _ (by simpa using q1) h] at q
        cases q
    simp [this, h]
-- MarkOrder
theorem s157 (a b : Mrk) : FSpec Tryz.prog 198 [.agg ((mkF a).map .d), .agg ((mkF b).map .d)] [] (fun x r => x = .d (.int .i64 (mrkCmp a b)) ∧ r = []) := by
  refine spec_of hT (C := []) Tryz.func198 rfl Tryz.call198 rfl rfl rfl ?_
  conv => whnf
  repeat' (first
    | (refine CallX.exact (s190 _ _) rfl rfl ?_; rotate_right; conv => whnf)
    | (refine CallX.pure (s191 [_, _, _, _] [_, _, _, _] (by simp) (by simp)) ⟨SV.le_lit (by rfl) (by rfl), SV.le_lit (by rfl) (by rfl), trivial⟩ rfl ?_; conv => whnf)
    | (refine br_intro (fun hb => ?_) (fun hb => ?_) <;> (try simp only [decide_eq_true_eq, decide_eq_false_iff_not, Bool.not_eq_true', Bool.not_eq_false', Bool.and_eq_true, Bool.or_eq_true, beq_iff_eq, not_and, Int.not_le, Int.not_lt, Int.toNat_natCast, beq_eq_false_iff_ne, ne_eq, eq_self, not_true_eq_false, not_false_eq_true] at hb) <;> (conv => whnf))
    | omega
    | (refine And.intro ?_ ?_; ((try dsimp only); first | omega | (refine ⟨by omega, by omega, Int.le_trans (Int.mul_le_mul_of_nonneg_right (Int.ofNat_le.2 (Nat.le_of_ble_eq_true (rfl : Nat.ble _ 1024 = true))) (by omega)) (by omega), by omega⟩) | (refine Nat.le_trans (Nat.mul_le_mul_left _ (Nat.le_of_ble_eq_true (rfl : Nat.ble _ 1024 = true))) ?_; omega) | (unfold inI64; omega) | (constructor <;> omega) | (simp only [inI64, List.length_cons, List.length_append, List.length_nil, List.length_set] at *; omega) | decide | (unfold inI64; decide)); conv => whnf)
    | omega | decide | assumption)
  · refine .ret _ ?_
    conv => whnf
    refine ⟨[], ⟨?_, rfl⟩, trivial⟩
    conv => lhs; whnf
    congr 2
    rw [mrkOrder_eq, if_pos hb]
  · refine .ret _ ?_
    conv => whnf
    refine ⟨[], ⟨?_, rfl⟩, trivial⟩
    conv => lhs; whnf
    congr 2
    rw [mrkOrder_eq, if_neg (by simpa using hb)]
-- MarkForm
theorem s195 (l : List Mrk) (hk : mkOk l) : FSpec Tryz.prog 95 [.d (mrks l)] [] (fun x r => x = .d (.int .i64 (mrksE l)) ∧ r = []) := by
  refine spec_of hT (C := []) Tryz.func95 rfl Tryz.call95 rfl rfl rfl ?_
  conv => whnf
  refine br_intro (fun h0 => ?_) (fun h0 => ?_)
  · simp at h0
    conv => whnf
    refine .ret _ ?_
    conv => whnf
    refine ⟨[], ⟨?_, rfl⟩, trivial⟩
    conv => lhs; whnf
    unfold mrksE; rw [if_pos (by omega)]
  simp at h0
  conv => whnf
  refine LoopX.rule hT (C := []) (ι := Nat) (fun i => i ≤ l.length ∧ ∀ j, j < i → mrkE l j = 0) (fun i => mkSt [(0, .d (mrks l)), (8, .d (mrks l)), (9, .d (.int .i64 l.length)), (10, .d (.int .i64 i))] []) (fun i => l.length - i) 0 ⟨by omega, by omega⟩ (by refine Entails.mk' [] rfl rfl ?_ ?_ <;> repeat' (first | exact True.intro | exact SV.le_refl _ | exact Res.le_refl _ | exact SV.le_int (by omega) | exact SV.le_any _ | refine And.intro ?_ ?_)) ?_
  rintro i ⟨p1, p2⟩
  have hx : (i : Int) < l.length → mkK (l.getD (i : Int).toNat mk0) := fun hi => hk.2 _ (getD_mem (by omega))
  have e1 : (i : Int).toNat = i := Int.toNat_natCast i
  have hbad : ∀ e : Int, i < l.length → e ≠ 0 → mrkE l i = e → mrksE l = e := fun e h h1 h2 => by
    unfold mrksE; rw [if_neg (by omega)]
    exact firstAt_eq h p2 h1 h2
  conv => whnf
  repeat' (first
    | (refine CallX.exact (s21 _ (hx (by omega))) rfl rfl ?_; rotate_right; conv => whnf)
    | (refine CallX.exact (s109 _ _ _) rfl rfl ?_; rotate_right; conv => whnf)
    | (refine CallX.exact (s157 (l.getD ((i : Int) - 1).toNat mk0) (l.getD (i : Int).toNat mk0)) rfl rfl ?_; rotate_right; conv => whnf)
    | (refine br_intro (fun hb => ?_) (fun hb => ?_) <;> (try simp only [decide_eq_true_eq, decide_eq_false_iff_not, Bool.not_eq_true', Bool.not_eq_false', Bool.and_eq_true, Bool.or_eq_true, beq_iff_eq, not_and, Int.not_le, Int.not_lt, Int.toNat_natCast, beq_eq_false_iff_ne, ne_eq, eq_self, not_true_eq_false, not_false_eq_true] at hb) <;> (conv => whnf))
    | (refine RegX.rule (id := 12) hT rfl [] [(0, []), (1, []), (2, []), (3, []), (4, [3]), (5, [3]), (6, []), (7, []), (8, [3, 4, 5, 6, 7]), (9, []), (10, []), (11, []), (12, [])] (by decide +kernel) ?_; conv => whnf)
    | omega
    | (refine And.intro ?_ ?_; ((try dsimp only); first | omega | (refine ⟨by omega, by omega, Int.le_trans (Int.mul_le_mul_of_nonneg_right (Int.ofNat_le.2 (Nat.le_of_ble_eq_true (rfl : Nat.ble _ 1024 = true))) (by omega)) (by omega), by omega⟩) | (refine Nat.le_trans (Nat.mul_le_mul_left _ (Nat.le_of_ble_eq_true (rfl : Nat.ble _ 1024 = true))) ?_; omega) | (unfold inI64; omega) | (constructor <;> omega) | (simp only [inI64, List.length_cons, List.length_append, List.length_nil, List.length_set] at *; omega) | decide | (unfold inI64; decide)); conv => whnf)
    | omega | decide | assumption)
  all_goals first
    | (refine ⟨i + 1, ⟨by omega, first_step p2 (by clear p2 hbad hk hx; simp only [e1, toNat_pred] at *; unfold mrkE ; grind)⟩, by omega, (by refine Entails.mk' [] rfl rfl ?_ ?_ <;> repeat' (first | exact True.intro | exact SV.le_refl _ | exact Res.le_refl _ | exact SV.le_int (by omega) | exact SV.le_any _ | refine And.intro ?_ ?_))⟩)
    | (refine .ret _ ?_
       conv => whnf
       refine ⟨[], ⟨?_, rfl⟩, trivial⟩
       conv => lhs; whnf
       congr 2
       first
         | exact (hbad _ (by omega) (by decide) (by clear p2 hbad hk hx; simp only [e1, toNat_pred] at *; unfold mrkE ; grind)).symm
         | (have : i = l.length := by omega
            subst this
            unfold mrksE; rw [if_neg (by omega), firstAt_zero p2]))
theorem s112d (b : Bool) : FSpec Tryz.prog 114 [.d (.bool b)] [] (fun x r => ((b = true ∧ x = .d (.int .i64 1)) ∨ (b = false ∧ x = .d (.int .i64 0))) ∧ r = []) :=
  (s112 b).mono (by rintro x r ⟨rfl, rfl⟩; cases b <;> simp)
-- marksFault
theorem s160 (p : List Pnl) (l : List Mrk) (hp : p.length ≤ 2^40) (hk : mkOk l) : FSpec Tryz.prog 163 [.d (pnls p), .d (mrks l)] [] (fun x r => x = .d (.int .i64 (onPE p l)) ∧ r = []) := by
  refine spec_of hT (C := []) Tryz.func163 rfl Tryz.call163 rfl rfl rfl ?_
  conv => whnf
  repeat' (first
    | (refine CallX.exact (s195 l hk) rfl rfl ?_; rotate_right; conv => whnf)
    | (refine br_intro (fun hb => ?_) (fun hb => ?_) <;> (try simp only [decide_eq_true_eq, decide_eq_false_iff_not, Bool.not_eq_true', Bool.not_eq_false', Bool.and_eq_true, Bool.or_eq_true, beq_iff_eq, not_and, Int.not_le, Int.not_lt, Int.toNat_natCast, beq_eq_false_iff_ne, ne_eq, eq_self, not_true_eq_false, not_false_eq_true] at hb) <;> (conv => whnf))
    | (refine RegX.rule (id := 10) hT rfl [] [(0, []), (1, []), (2, [0, 1]), (3, [0, 1, 2]), (4, [0, 1]), (5, [0, 1]), (6, [0, 1]), (7, []), (8, []), (9, []), (10, []), (11, [9, 10]), (12, [9, 10, 11]), (13, [9, 10]), (14, [9, 10]), (15, [9, 10]), (16, []), (17, [])] (by decide +kernel) ?_; conv => whnf)
    | omega
    | (refine And.intro ?_ ?_; ((try dsimp only); first | omega | (refine ⟨by omega, by omega, Int.le_trans (Int.mul_le_mul_of_nonneg_right (Int.ofNat_le.2 (Nat.le_of_ble_eq_true (rfl : Nat.ble _ 1024 = true))) (by omega)) (by omega), by omega⟩) | (refine Nat.le_trans (Nat.mul_le_mul_left _ (Nat.le_of_ble_eq_true (rfl : Nat.ble _ 1024 = true))) ?_; omega) | (unfold inI64; omega) | (constructor <;> omega) | (simp only [inI64, List.length_cons, List.length_append, List.length_nil, List.length_set] at *; omega) | decide | (unfold inI64; decide)); conv => whnf)
    | omega | decide | assumption)
  · refine .ret _ ?_
    conv => whnf
    refine ⟨[], ⟨?_, rfl⟩, trivial⟩
    conv => lhs; whnf
    congr 2; unfold onPE; rw [if_pos hb]
  have hm : mrksE l = 0 := by omega
  have hE : onPE p l = if firstAt (onE p l) l.length ≠ 0 then firstAt (onE p l) l.length else firstAt (full2E l) l.length := by
    unfold onPE; rw [if_neg (by omega), full_eq (mrks_inc hm)]
  rw [hE]
  have hl60 : l.length ≤ 60 := by unfold mrksE at hm; split at hm; cases hm; omega
  refine LoopX.rule hT (C := []) (ι := Nat) (fun i => i ≤ l.length ∧ ∀ j, j < i → onE p l j = 0) (fun i => mkSt [(0, .d (pnls p)), (1, .d (mrks l)), (19, .d (mrks l)), (20, .d (.int .i64 l.length)), (21, .d (.int .i64 i))] []) (fun i => l.length - i) 0 ⟨by omega, by omega⟩ (by refine Entails.mk' [] rfl rfl ?_ ?_ <;> repeat' (first | exact True.intro | exact SV.le_refl _ | exact Res.le_refl _ | exact SV.le_int (by omega) | exact SV.le_any _ | refine And.intro ?_ ?_)) ?_
  rintro i ⟨p1, p2⟩
  have e1 : (i : Int).toNat = i := Int.toNat_natCast i
  have hbad : ∀ e : Int, i < l.length → e ≠ 0 → onE p l i = e → firstAt (onE p l) l.length = e := fun e h h1 h2 => firstAt_eq h p2 h1 h2
  have hix := panIx_lt p (l.getD i mk0).pan
  conv => whnf
  repeat' (first
    | (refine CallX.of (s193 234 p hp (l.getD i mk0) (fun q => s196 q _)) [(1000001, 7)] rfl ⟨SV.le_refl _, SV.le_refl _, trivial⟩ ⟨Res.le_refl _, trivial⟩ rfl rfl ?_; rintro x rout ⟨rfl, rfl⟩; refine ⟨rfl, ?_⟩; conv => whnf)
    | (refine br_intro (fun hb => ?_) (fun hb => ?_) <;> (try simp only [decide_eq_true_eq, decide_eq_false_iff_not, Bool.not_eq_true', Bool.not_eq_false', Bool.and_eq_true, Bool.or_eq_true, beq_iff_eq, not_and, Int.not_le, Int.not_lt, Int.toNat_natCast, beq_eq_false_iff_ne, ne_eq, eq_self, not_true_eq_false, not_false_eq_true] at hb) <;> (conv => whnf))
    | (refine RegX.rule (id := 10) hT rfl [] [(0, []), (1, []), (2, [0, 1]), (3, [0, 1, 2]), (4, [0, 1]), (5, [0, 1]), (6, [0, 1]), (7, []), (8, []), (9, []), (10, []), (11, [9, 10]), (12, [9, 10, 11]), (13, [9, 10]), (14, [9, 10]), (15, [9, 10]), (16, []), (17, [])] (by decide +kernel) ?_; conv => whnf)
    | omega
    | (refine And.intro ?_ ?_; ((try dsimp only); first | omega | (refine ⟨by omega, by omega, Int.le_trans (Int.mul_le_mul_of_nonneg_right (Int.ofNat_le.2 (Nat.le_of_ble_eq_true (rfl : Nat.ble _ 1024 = true))) (by omega)) (by omega), by omega⟩) | (refine Nat.le_trans (Nat.mul_le_mul_left _ (Nat.le_of_ble_eq_true (rfl : Nat.ble _ 1024 = true))) ?_; omega) | (unfold inI64; omega) | (constructor <;> omega) | (simp only [inI64, List.length_cons, List.length_append, List.length_nil, List.length_set] at *; omega) | decide | (unfold inI64; decide)); conv => whnf)
    | omega | decide | assumption)
  · refine .ret _ ?_
    conv => whnf
    refine ⟨[], ⟨?_, rfl⟩, trivial⟩
    conv => lhs; whnf
    congr 2
    have := hbad 8 (by omega) (by decide) (by clear p2 hbad; unfold onE; simp only; rw [if_pos (by omega)])
    rw [this, if_pos (by decide)]
  · refine .ret _ ?_
    conv => whnf
    refine ⟨[], ⟨?_, rfl⟩, trivial⟩
    conv => lhs; whnf
    congr 2
    have := hbad 1 (by omega) (by decide) (by clear p2 hbad; unfold onE; simp only; grind)
    rw [this, if_pos (by decide)]
  · refine .ret _ ?_
    conv => whnf
    refine ⟨[], ⟨?_, rfl⟩, trivial⟩
    conv => lhs; whnf
    congr 2
    have := hbad 1 (by omega) (by decide) (by clear p2 hbad; unfold onE; simp only; grind)
    rw [this, if_pos (by decide)]
  · refine ⟨i + 1, ⟨by omega, first_step p2 (by clear p2 hbad; unfold onE; grind)⟩, by omega, (by refine Entails.mk' [] rfl rfl ?_ ?_ <;> repeat' (first | exact True.intro | exact SV.le_refl _ | exact Res.le_refl _ | exact SV.le_int (by omega) | exact SV.le_any _ | refine And.intro ?_ ?_))⟩
  have hi : i = l.length := by omega
  rw [hi] at p2
  rw [firstAt_zero p2, if_neg (by decide)]
  refine LoopX.rule hT (C := []) (ι := Nat) (fun i => i ≤ l.length ∧ ∀ j, j < i → full2E l j = 0) (fun i => mkSt [(1, .d (mrks l)), (49, .d (mrks l)), (50, .d (.int .i64 l.length)), (51, .d (.int .i64 i))] []) (fun i => l.length - i) 0 ⟨by omega, by omega⟩ (by refine Entails.mk' [] rfl rfl ?_ ?_ <;> repeat' (first | exact True.intro | exact SV.le_refl _ | exact Res.le_refl _ | exact SV.le_int (by omega) | exact SV.le_any _ | refine And.intro ?_ ?_)) ?_
  rintro i ⟨p1, p2⟩
  have e1 : (i : Int).toNat = i := Int.toNat_natCast i
  have hbad : i < l.length → full2E l i = 12 → firstAt (full2E l) l.length = 12 := fun h h1 => firstAt_eq h p2 (by decide) h1
  conv => whnf
  repeat' (first
    | (refine br_intro (fun hb => ?_) (fun hb => ?_) <;> (try simp only [decide_eq_true_eq, decide_eq_false_iff_not, Bool.not_eq_true', Bool.not_eq_false', Bool.and_eq_true, Bool.or_eq_true, beq_iff_eq, not_and, Int.not_le, Int.not_lt, Int.toNat_natCast, beq_eq_false_iff_ne, ne_eq, eq_self, not_true_eq_false, not_false_eq_true] at hb) <;> (conv => whnf))
    | (refine RegX.rule (id := 10) hT rfl [] [(0, []), (1, []), (2, [0, 1]), (3, [0, 1, 2]), (4, [0, 1]), (5, [0, 1]), (6, [0, 1]), (7, []), (8, []), (9, []), (10, []), (11, [9, 10]), (12, [9, 10, 11]), (13, [9, 10]), (14, [9, 10]), (15, [9, 10]), (16, []), (17, [])] (by decide +kernel) ?_; conv => whnf)
    | omega
    | (refine And.intro ?_ ?_; ((try dsimp only); first | omega | (refine ⟨by omega, by omega, Int.le_trans (Int.mul_le_mul_of_nonneg_right (Int.ofNat_le.2 (Nat.le_of_ble_eq_true (rfl : Nat.ble _ 1024 = true))) (by omega)) (by omega), by omega⟩) | (refine Nat.le_trans (Nat.mul_le_mul_left _ (Nat.le_of_ble_eq_true (rfl : Nat.ble _ 1024 = true))) ?_; omega) | (unfold inI64; omega) | (constructor <;> omega) | (simp only [inI64, List.length_cons, List.length_append, List.length_nil, List.length_set] at *; omega) | decide | (unfold inI64; decide)); conv => whnf)
    | omega | decide | assumption)
  · refine LoopX.rule hT (C := []) (ι := Nat) (fun m => m ≤ l.length) (fun m => mkSt [(1, .d (mrks l)), (10, .ptr 10 0), (11, .d (.int .i64 (cntM l (l.getD i mk0) m))), (49, .d (mrks l)), (50, .d (.int .i64 l.length)), (51, .d (.int .i64 i)), (55, .d (mrks l)), (56, .d (.int .i64 l.length)), (57, .d (.int .i64 m))] [(10, mcell (l.getD i mk0))]) (fun m => l.length - m) 0 (by omega) ?_ ?_
    · exact Entails.mk' [(10, 10)] rfl rfl ⟨SV.le_refl _, SV.le_refl _, SV.le_refl _, SV.le_refl _, SV.le_refl _, SV.le_refl _, SV.le_refl _, SV.le_refl _, SV.le_refl _, trivial⟩ ⟨by rw [e1]; exact Res.le_refl _, trivial⟩
    rintro m m1
    have e2 : (m : Int).toNat = m := Int.toNat_natCast m
    have hc : cntM l (l.getD i mk0) m ≤ m := by
      clear hbad p2
      induction m with
      | zero => simp [cntM]
      | succ m ih => rw [cntM]; have := ih (by omega) (Int.toNat_natCast m); split <;> omega
    conv => whnf
    repeat' (first
      | (refine CallX.of (s112d _) [] rfl ⟨SV.le_refl _, trivial⟩ trivial rfl rfl ?_; rintro x rout ⟨hfl, rfl⟩; rcases hfl with (⟨hfl, rfl⟩ | ⟨hfl, rfl⟩) <;> refine ⟨rfl, ?_⟩ <;> (try simp only [decide_eq_true_eq, decide_eq_false_iff_not] at hfl) <;> (conv => whnf); conv => whnf)
      | (refine br_intro (fun hb => ?_) (fun hb => ?_) <;> (try simp only [decide_eq_true_eq, decide_eq_false_iff_not, Bool.not_eq_true', Bool.not_eq_false', Bool.and_eq_true, Bool.or_eq_true, beq_iff_eq, not_and, Int.not_le, Int.not_lt, Int.toNat_natCast, beq_eq_false_iff_ne, ne_eq, eq_self, not_true_eq_false, not_false_eq_true] at hb) <;> (conv => whnf))
      | (refine RegX.rule (id := 10) hT rfl [] [(0, []), (1, []), (2, [0, 1]), (3, [0, 1, 2]), (4, [0, 1]), (5, [0, 1]), (6, [0, 1]), (7, []), (8, []), (9, []), (10, []), (11, [9, 10]), (12, [9, 10, 11]), (13, [9, 10]), (14, [9, 10]), (15, [9, 10]), (16, []), (17, [])] (by decide +kernel) ?_; conv => whnf)
      | omega
      | (refine And.intro ?_ ?_; ((try dsimp only); first | omega | (refine ⟨by omega, by omega, Int.le_trans (Int.mul_le_mul_of_nonneg_right (Int.ofNat_le.2 (Nat.le_of_ble_eq_true (rfl : Nat.ble _ 1024 = true))) (by omega)) (by omega), by omega⟩) | (refine Nat.le_trans (Nat.mul_le_mul_left _ (Nat.le_of_ble_eq_true (rfl : Nat.ble _ 1024 = true))) ?_; omega) | (unfold inI64; omega) | (constructor <;> omega) | (simp only [inI64, List.length_cons, List.length_append, List.length_nil, List.length_set] at *; omega) | decide | (unfold inI64; decide)); conv => whnf)
      | omega | decide | assumption)
    all_goals try (exact absurd hfl (by decide))
    all_goals first
      | (have hs : cntM l (l.getD i mk0) (m + 1) = cntM l (l.getD i mk0) m + 1 := by
           rw [cntM, if_pos (by unfold sameM; clear hbad p2 hc; simp only [e2] at *; grind)]
         exact ⟨m + 1, by omega, by omega, Entails.mk' [(10, 10)] rfl rfl ⟨SV.le_refl _, SV.le_refl _, SV.le_int (by rw [hs]; omega), SV.le_refl _, SV.le_refl _, SV.le_refl _, SV.le_refl _, SV.le_refl _, SV.le_refl _, trivial⟩ ⟨Res.le_refl _, trivial⟩⟩)
      | (have hs : cntM l (l.getD i mk0) (m + 1) = cntM l (l.getD i mk0) m := by
           rw [cntM, if_neg (by unfold sameM; clear hbad p2 hc; simp only [e2] at *; grind)]; rfl
         exact ⟨m + 1, by omega, by omega, Entails.mk' [(10, 10)] rfl rfl ⟨SV.le_refl _, SV.le_refl _, SV.le_int (by rw [hs]; omega), SV.le_refl _, SV.le_refl _, SV.le_refl _, SV.le_refl _, SV.le_refl _, SV.le_refl _, trivial⟩ ⟨Res.le_refl _, trivial⟩⟩)
      | (refine .ret _ ?_
         conv => whnf
         refine ⟨[], ⟨?_, rfl⟩, trivial⟩
         conv => lhs; whnf
         congr 2
         have : m = l.length := by omega
         subst this
         rw [hbad (by omega) (by unfold full2E; rw [if_pos (by omega)])])
      | (have : m = l.length := by omega
         subst this
         exact ⟨i + 1, ⟨by omega, first_step p2 (by unfold full2E; rw [if_neg (by omega)])⟩, by omega, (by refine Entails.mk' [] rfl rfl ?_ ?_ <;> repeat' (first | exact True.intro | exact SV.le_refl _ | exact Res.le_refl _ | exact SV.le_int (by omega) | exact SV.le_any _ | refine And.intro ?_ ?_))⟩)
  · refine .ret _ ?_
    conv => whnf
    refine ⟨[], ⟨?_, rfl⟩, trivial⟩
    conv => lhs; whnf
    congr 2
    have : i = l.length := by omega
    subst this
    rw [firstAt_zero p2]
-- mark.CheckMarks
def mrksPE (p : List Pnl) (l : List Mrk) : Int := firstE [pansE p, onPE p l]
theorem s100 (p : List Pnl) (l : List Mrk) (hp : pnOk p) (hk : mkOk l) : FSpec Tryz.prog 190 [.d (pnls p), .d (mrks l)] [] (fun x r => x = .d (.int .i64 (mrksPE p l)) ∧ r = []) := by
  refine spec_of hT (C := []) Tryz.func190 rfl Tryz.call190 rfl rfl rfl ?_
  conv => whnf
  repeat' (first
    | (refine CallX.exact (s98 p hp) rfl rfl ?_; rotate_right; conv => whnf)
    | (refine CallX.exact (s159 p l hp.1 hk) rfl rfl ?_; rotate_right; conv => whnf)
    | (refine CallX.pure (s105 [_, _] (by simp)) ⟨SV.le_lit (by rfl) (by rfl), trivial⟩ rfl ?_; conv => whnf)
    | (refine br_intro (fun hb => ?_) (fun hb => ?_) <;> (try simp only [decide_eq_true_eq, decide_eq_false_iff_not, Bool.not_eq_true', Bool.not_eq_false', Bool.and_eq_true, Bool.or_eq_true, beq_iff_eq, not_and, Int.not_le, Int.not_lt, Int.toNat_natCast, beq_eq_false_iff_ne, ne_eq, eq_self, not_true_eq_false, not_false_eq_true] at hb) <;> (conv => whnf))
    | omega
    | (refine And.intro ?_ ?_; ((try dsimp only); first | omega | (refine ⟨by omega, by omega, Int.le_trans (Int.mul_le_mul_of_nonneg_right (Int.ofNat_le.2 (Nat.le_of_ble_eq_true (rfl : Nat.ble _ 1024 = true))) (by omega)) (by omega), by omega⟩) | (refine Nat.le_trans (Nat.mul_le_mul_left _ (Nat.le_of_ble_eq_true (rfl : Nat.ble _ 1024 = true))) ?_; omega) | (unfold inI64; omega) | (constructor <;> omega) | (simp only [inI64, List.length_cons, List.length_append, List.length_nil, List.length_set] at *; omega) | decide | (unfold inI64; decide)); conv => whnf)
    | omega | decide | assumption)
  refine .ret _ ?_
  conv => whnf
  refine ⟨[], ⟨?_, rfl⟩, trivial⟩
  conv => lhs; whnf
  rfl
-- MarksFault
theorem s101 (p : List Pnl) (l : List Mrk) (hp : pnOk p) (hk : mkOk l) : FSpec Tryz.prog 87 [.d (pnls p), .d (mrks l)] [] (fun x r => x = .d (.int .i64 (mrksPE p l)) ∧ r = []) := by
  refine spec_of hT (C := []) Tryz.func87 rfl Tryz.call87 rfl rfl rfl ?_
  conv => whnf
  repeat' (first
    | (refine CallX.exact (s99 p hp) rfl rfl ?_; rotate_right; conv => whnf)
    | (refine CallX.exact (s160 p l hp.1 hk) rfl rfl ?_; rotate_right; conv => whnf)
    | (refine br_intro (fun hb => ?_) (fun hb => ?_) <;> (try simp only [decide_eq_true_eq, decide_eq_false_iff_not, Bool.not_eq_true', Bool.not_eq_false', Bool.and_eq_true, Bool.or_eq_true, beq_iff_eq, not_and, Int.not_le, Int.not_lt, Int.toNat_natCast, beq_eq_false_iff_ne, ne_eq, eq_self, not_true_eq_false, not_false_eq_true] at hb) <;> (conv => whnf))
    | omega
    | (refine And.intro ?_ ?_; ((try dsimp only); first | omega | (refine ⟨by omega, by omega, Int.le_trans (Int.mul_le_mul_of_nonneg_right (Int.ofNat_le.2 (Nat.le_of_ble_eq_true (rfl : Nat.ble _ 1024 = true))) (by omega)) (by omega), by omega⟩) | (refine Nat.le_trans (Nat.mul_le_mul_left _ (Nat.le_of_ble_eq_true (rfl : Nat.ble _ 1024 = true))) ?_; omega) | (unfold inI64; omega) | (constructor <;> omega) | (simp only [inI64, List.length_cons, List.length_append, List.length_nil, List.length_set] at *; omega) | decide | (unfold inI64; decide)); conv => whnf)
    | omega | decide | assumption)
  · refine .ret _ ?_
    conv => whnf
    refine ⟨[], ⟨?_, rfl⟩, trivial⟩
    conv => lhs; whnf
    congr 2; unfold mrksPE; simp only [firstE]; grind
  · refine .ret _ ?_
    conv => whnf
    refine ⟨[], ⟨?_, rfl⟩, trivial⟩
    conv => lhs; whnf
    congr 2; unfold mrksPE; simp only [firstE]; grind
end Go.Proofs.YtnkdlkgannnfhaaGreatDoor
set_option maxRecDepth 20000
namespace Go.Proofs.YtnkdlkgannnfhaaGreatDoor
open Go Go.Eng
def mBd (m : Mrk) : Prop := 0 ≤ m.x ∧ m.x ≤ 5000 ∧ 0 ≤ m.y ∧ m.y ≤ 5000 ∧ 1 ≤ m.size ∧ m.size ≤ 2000
def rBd (r : Rul) : Prop := 0 ≤ r.near ∧ r.near ≤ 5000 ∧ 0 ≤ r.slack ∧ r.slack ≤ 2000 ∧ 0 ≤ r.join ∧ r.join ≤ 5000 ∧ 0 ≤ r.part ∧ r.part ≤ 1000
theorem sq_bd {x : Int} (h1 : -5000 ≤ x) (h2 : x ≤ 5000) : 0 ≤ x * x ∧ x * x ≤ 25000000 := by
  rcases Int.le_total 0 x with q | q
  · exact ⟨Int.mul_nonneg q q, Int.le_trans (Int.mul_le_mul h2 h2 q (by omega)) (by omega)⟩
  · have e : x * x = (-x) * (-x) := by rw [Int.neg_mul_neg]
    rw [e]
    exact ⟨Int.mul_nonneg (by omega) (by omega), Int.le_trans (Int.mul_le_mul (by omega : -x ≤ 5000) (by omega : -x ≤ 5000) (by omega) (by omega)) (by omega)⟩
-- mark.distance
theorem z149 (a b : Mrk) (ha : mBd a) (hb1 : mBd b) : FSpec Tryz.prog 149 [.agg ((mkF a).map .d), .agg ((mkF b).map .d)] [] (fun x r => x = .d (.int .i64 (distM a b)) ∧ r = []) := by
  unfold mBd at ha hb1
  have h1 := sq_bd (x := a.x - b.x) (by omega) (by omega)
  have h2 := sq_bd (x := a.y - b.y) (by omega) (by omega)
  refine spec_of hT (C := []) Tryz.func149 rfl Tryz.call149 rfl rfl rfl ?_
  conv => whnf
  repeat' (first
    | (refine br_intro (fun hb => ?_) (fun hb => ?_) <;> (try simp only [decide_eq_true_eq, decide_eq_false_iff_not, Bool.not_eq_true', Bool.not_eq_false', Bool.and_eq_true, Bool.or_eq_true, beq_iff_eq, not_and, Int.not_le, Int.not_lt, Int.toNat_natCast, beq_eq_false_iff_ne, ne_eq, eq_self, not_true_eq_false, not_false_eq_true] at hb) <;> (conv => whnf))
    | omega
    | (refine And.intro ?_ ?_; ((try dsimp only); first | omega | (refine ⟨by omega, by omega, Int.le_trans (Int.mul_le_mul_of_nonneg_right (Int.ofNat_le.2 (Nat.le_of_ble_eq_true (rfl : Nat.ble _ 1024 = true))) (by omega)) (by omega), by omega⟩) | (refine Nat.le_trans (Nat.mul_le_mul_left _ (Nat.le_of_ble_eq_true (rfl : Nat.ble _ 1024 = true))) ?_; omega) | (unfold inI64; omega) | (constructor <;> omega) | (simp only [inI64, List.length_cons, List.length_append, List.length_nil, List.length_set] at *; omega) | decide | (unfold inI64; decide)); conv => whnf)
    | omega | decide | assumption)
  refine .ret _ ?_
  conv => whnf
  refine ⟨[], ⟨?_, rfl⟩, trivial⟩
  conv => lhs; whnf
  rfl
-- Distance
theorem z152 (a b : Mrk) (ha : mBd a) (hb1 : mBd b) : FSpec Tryz.prog 152 [.agg ((mkF a).map .d), .agg ((mkF b).map .d)] [] (fun x r => x = .d (.int .i64 (distM a b)) ∧ r = []) := by
  unfold mBd at ha hb1
  have h1 := sq_bd (x := a.x - b.x) (by omega) (by omega)
  have h2 := sq_bd (x := a.y - b.y) (by omega) (by omega)
  refine spec_of hT (C := []) Tryz.func152 rfl Tryz.call152 rfl rfl rfl ?_
  conv => whnf
  repeat' (first
    | (refine br_intro (fun hb => ?_) (fun hb => ?_) <;> (try simp only [decide_eq_true_eq, decide_eq_false_iff_not, Bool.not_eq_true', Bool.not_eq_false', Bool.and_eq_true, Bool.or_eq_true, beq_iff_eq, not_and, Int.not_le, Int.not_lt, Int.toNat_natCast, beq_eq_false_iff_ne, ne_eq, eq_self, not_true_eq_false, not_false_eq_true] at hb) <;> (conv => whnf))
    | omega
    | (refine And.intro ?_ ?_; ((try dsimp only); first | omega | (refine ⟨by omega, by omega, Int.le_trans (Int.mul_le_mul_of_nonneg_right (Int.ofNat_le.2 (Nat.le_of_ble_eq_true (rfl : Nat.ble _ 1024 = true))) (by omega)) (by omega), by omega⟩) | (refine Nat.le_trans (Nat.mul_le_mul_left _ (Nat.le_of_ble_eq_true (rfl : Nat.ble _ 1024 = true))) ?_; omega) | (unfold inI64; omega) | (constructor <;> omega) | (simp only [inI64, List.length_cons, List.length_append, List.length_nil, List.length_set] at *; omega) | decide | (unfold inI64; decide)); conv => whnf)
    | omega | decide | assumption)
  refine .ret _ ?_
  conv => whnf
  refine ⟨[], ⟨?_, rfl⟩, trivial⟩
  conv => lhs; whnf
  rfl
-- mark.canBe
theorem z148 (r : Rul) (a b : Mrk) (hr : rBd r) (ha : mBd a) (hb1 : mBd b) : FSpec Tryz.prog 148 [.agg ((ruF r).map .d), .agg ((mkF a).map .d), .agg ((mkF b).map .d)] [] (fun x r' => x = .d (.bool (canB r a b)) ∧ r' = []) := by
  have hd := z149 a b ha hb1
  have h1 := sq_bd (x := r.near) (by unfold rBd at hr; omega) (by unfold rBd at hr; omega)
  unfold mBd at ha hb1
  unfold rBd at hr
  refine spec_of hT (C := []) Tryz.func148 rfl Tryz.call148 rfl rfl rfl ?_
  conv => whnf
  repeat' (first
    | (refine CallX.exact (hd) rfl rfl ?_; rotate_right; conv => whnf)
    | (refine br_intro (fun hb => ?_) (fun hb => ?_) <;> (try simp only [decide_eq_true_eq, decide_eq_false_iff_not, Bool.not_eq_true', Bool.not_eq_false', Bool.and_eq_true, Bool.or_eq_true, beq_iff_eq, not_and, Int.not_le, Int.not_lt, Int.toNat_natCast, beq_eq_false_iff_ne, ne_eq, eq_self, not_true_eq_false, not_false_eq_true] at hb) <;> (conv => whnf))
    | (refine RegX.rule (id := 1) hT rfl [] [(0, []), (1, []), (2, [0, 1]), (3, [0, 1]), (4, []), (5, []), (6, []), (7, []), (8, [6, 7]), (9, [6, 7]), (10, []), (11, []), (12, []), (13, []), (14, [13]), (16, [13, 14]), (17, [13, 14]), (18, [13, 14, 16, 17]), (19, [13, 14, 16, 17]), (20, [13, 14]), (15, [16, 17, 18, 19, 20]), (21, []), (22, []), (23, []), (24, []), (25, []), (26, [24, 25]), (27, [24, 25]), (28, [24, 25, 26, 27]), (29, [24, 25, 26, 27]), (30, [24, 25]), (31, []), (32, []), (33, [])] (by decide +kernel) ?_; conv => whnf)
    | omega
    | (refine And.intro ?_ ?_; ((try dsimp only); first | omega | (refine ⟨by omega, by omega, Int.le_trans (Int.mul_le_mul_of_nonneg_right (Int.ofNat_le.2 (Nat.le_of_ble_eq_true (rfl : Nat.ble _ 1024 = true))) (by omega)) (by omega), by omega⟩) | (refine Nat.le_trans (Nat.mul_le_mul_left _ (Nat.le_of_ble_eq_true (rfl : Nat.ble _ 1024 = true))) ?_; omega) | (unfold inI64; omega) | (constructor <;> omega) | (simp only [inI64, List.length_cons, List.length_append, List.length_nil, List.length_set] at *; omega) | decide | (unfold inI64; decide)); conv => whnf)
    | omega | decide | assumption)
  all_goals
    refine .ret _ ?_
    conv => whnf
    refine ⟨[], ⟨?_, rfl⟩, trivial⟩
    conv => lhs; whnf
    congr 2
    unfold canB
    clear hd ha hb1 hr h1
    grind
-- CanBe
theorem z151 (r : Rul) (a b : Mrk) (hr : rBd r) (ha : mBd a) (hb1 : mBd b) : FSpec Tryz.prog 151 [.agg ((ruF r).map .d), .agg ((mkF a).map .d), .agg ((mkF b).map .d)] [] (fun x r' => x = .d (.bool (canB r a b)) ∧ r' = []) := by
  have hd := z152 a b ha hb1
  have h1 := sq_bd (x := r.near) (by unfold rBd at hr; omega) (by unfold rBd at hr; omega)
  unfold mBd at ha hb1
  unfold rBd at hr
  refine spec_of hT (C := []) Tryz.func151 rfl Tryz.call151 rfl rfl rfl ?_
  conv => whnf
  repeat' (first
    | (refine CallX.exact (hd) rfl rfl ?_; rotate_right; conv => whnf)
    | (refine br_intro (fun hb => ?_) (fun hb => ?_) <;> (try simp only [decide_eq_true_eq, decide_eq_false_iff_not, Bool.not_eq_true', Bool.not_eq_false', Bool.and_eq_true, Bool.or_eq_true, beq_iff_eq, not_and, Int.not_le, Int.not_lt, Int.toNat_natCast, beq_eq_false_iff_ne, ne_eq, eq_self, not_true_eq_false, not_false_eq_true] at hb) <;> (conv => whnf))
    | (refine RegX.rule (id := 1) hT rfl [] [(0, []), (1, []), (2, [0, 1]), (3, [0, 1]), (4, []), (5, []), (6, []), (7, []), (8, [6, 7]), (9, [6, 7]), (10, []), (11, []), (12, []), (13, []), (14, [13]), (16, [13, 14]), (17, [13, 14]), (18, [13, 14, 16, 17]), (19, [13, 14, 16, 17]), (20, [13, 14]), (15, [16, 17, 18, 19, 20]), (21, []), (22, []), (23, []), (24, []), (25, []), (26, [24, 25]), (27, [24, 25]), (28, [24, 25, 26, 27]), (29, [24, 25, 26, 27]), (30, [24, 25]), (31, []), (32, []), (33, [])] (by decide +kernel) ?_; conv => whnf)
    | omega
    | (refine And.intro ?_ ?_; ((try dsimp only); first | omega | (refine ⟨by omega, by omega, Int.le_trans (Int.mul_le_mul_of_nonneg_right (Int.ofNat_le.2 (Nat.le_of_ble_eq_true (rfl : Nat.ble _ 1024 = true))) (by omega)) (by omega), by omega⟩) | (refine Nat.le_trans (Nat.mul_le_mul_left _ (Nat.le_of_ble_eq_true (rfl : Nat.ble _ 1024 = true))) ?_; omega) | (unfold inI64; omega) | (constructor <;> omega) | (simp only [inI64, List.length_cons, List.length_append, List.length_nil, List.length_set] at *; omega) | decide | (unfold inI64; decide)); conv => whnf)
    | omega | decide | assumption)
  all_goals
    refine .ret _ ?_
    conv => whnf
    refine ⟨[], ⟨?_, rfl⟩, trivial⟩
    conv => lhs; whnf
    congr 2
    unfold canB
    clear hd ha hb1 hr h1
    grind
theorem cmpPr_eq (p q : Prg) : cmpPr p q = firstE [cmpI p.a q.a, cmpI p.b q.b] := by
  unfold cmpPr
  simp only [firstE]
  grind
-- mark.byPair
theorem z283 (p q : Prg) : FSpec Tryz.prog 283 [.agg ((prF p).map .d), .agg ((prF q).map .d)] [] (fun x r => x = .d (.int .i64 (cmpPr p q)) ∧ r = []) := by
  refine spec_of hT (C := []) Tryz.func283 rfl Tryz.call283 rfl rfl rfl ?_
  conv => whnf
  repeat' (first
    | (refine CallX.exact (s183 _ _) rfl rfl ?_; rotate_right; conv => whnf)
    | (refine CallX.pure (s182 [_, _] (by simp)) ⟨SV.le_lit (by rfl) (by rfl), trivial⟩ rfl ?_; conv => whnf)
    | (refine br_intro (fun hb => ?_) (fun hb => ?_) <;> (try simp only [decide_eq_true_eq, decide_eq_false_iff_not, Bool.not_eq_true', Bool.not_eq_false', Bool.and_eq_true, Bool.or_eq_true, beq_iff_eq, not_and, Int.not_le, Int.not_lt, Int.toNat_natCast, beq_eq_false_iff_ne, ne_eq, eq_self, not_true_eq_false, not_false_eq_true] at hb) <;> (conv => whnf))
    | (refine RegX.rule (id := 1) hT rfl [] [(0, []), (1, []), (2, [0, 1]), (3, [0, 1]), (5, [0, 1, 2, 3]), (6, [0, 1, 2, 3]), (7, [0, 1, 2, 3, 5, 6]), (8, [0, 1, 2, 3, 5, 6]), (4, [5, 6, 7, 8]), (9, []), (10, []), (11, []), (12, [])] (by decide +kernel) ?_; conv => whnf)
    | omega
    | (refine And.intro ?_ ?_; ((try dsimp only); first | omega | (refine ⟨by omega, by omega, Int.le_trans (Int.mul_le_mul_of_nonneg_right (Int.ofNat_le.2 (Nat.le_of_ble_eq_true (rfl : Nat.ble _ 1024 = true))) (by omega)) (by omega), by omega⟩) | (refine Nat.le_trans (Nat.mul_le_mul_left _ (Nat.le_of_ble_eq_true (rfl : Nat.ble _ 1024 = true))) ?_; omega) | (unfold inI64; omega) | (constructor <;> omega) | (simp only [inI64, List.length_cons, List.length_append, List.length_nil, List.length_set] at *; omega) | decide | (unfold inI64; decide)); conv => whnf)
    | omega | decide | assumption)
  refine .ret _ ?_
  conv => whnf
  refine ⟨[], ⟨?_, rfl⟩, trivial⟩
  conv => lhs; whnf
  rw [cmpPr_eq]
theorem cmpIL_two (p q : Prg) : cmpIL [p.a, p.b] [q.a, q.b] = cmpPr p q := by
  unfold cmpPr
  simp only [cmpIL]
  grind
-- beats' own
theorem z282 (p q : Prg) : FSpec Tryz.prog 282 [.agg ((prF p).map .d), .agg ((prF q).map .d)] [] (fun x r => x = .d (.int .i64 (cmpPr p q)) ∧ r = []) := by
  refine spec_of hT (C := []) Tryz.func282 rfl Tryz.call282 rfl rfl rfl ?_
  conv => whnf
  repeat' (first
    | (refine CallX.pure (s191 [_, _] [_, _] (by simp) (by simp)) ⟨SV.le_lit (by rfl) (by rfl), SV.le_lit (by rfl) (by rfl), trivial⟩ rfl ?_; conv => whnf)
    | (refine br_intro (fun hb => ?_) (fun hb => ?_) <;> (try simp only [decide_eq_true_eq, decide_eq_false_iff_not, Bool.not_eq_true', Bool.not_eq_false', Bool.and_eq_true, Bool.or_eq_true, beq_iff_eq, not_and, Int.not_le, Int.not_lt, Int.toNat_natCast, beq_eq_false_iff_ne, ne_eq, eq_self, not_true_eq_false, not_false_eq_true] at hb) <;> (conv => whnf))
    | omega
    | (refine And.intro ?_ ?_; ((try dsimp only); first | omega | (refine ⟨by omega, by omega, Int.le_trans (Int.mul_le_mul_of_nonneg_right (Int.ofNat_le.2 (Nat.le_of_ble_eq_true (rfl : Nat.ble _ 1024 = true))) (by omega)) (by omega), by omega⟩) | (refine Nat.le_trans (Nat.mul_le_mul_left _ (Nat.le_of_ble_eq_true (rfl : Nat.ble _ 1024 = true))) ?_; omega) | (unfold inI64; omega) | (constructor <;> omega) | (simp only [inI64, List.length_cons, List.length_append, List.length_nil, List.length_set] at *; omega) | decide | (unfold inI64; decide)); conv => whnf)
    | omega | decide | assumption)
  refine .ret _ ?_
  conv => whnf
  refine ⟨[], ⟨?_, rfl⟩, trivial⟩
  conv => lhs; whnf
  rw [← cmpIL_two]
-- slices.CompareFunc of pairings
theorem z281 (g : FuncId) (l m : List Prg) (hl : l.length ≤ 2^40) (hm : m.length ≤ 2^40)
    (hg : ∀ p q, FSpec Tryz.prog g [.agg ((prF p).map .d), .agg ((prF q).map .d)] [] (fun x r => x = .d (.int .i64 (cmpPr p q)) ∧ r = [])) :
    FSpec Tryz.prog 281 [.d (prgs l), .d (prgs m), .fn g []] [] (fun x r => x = .d (.int .i64 (cmpPL l m)) ∧ r = []) := by
  refine spec_of hT (C := []) Tryz.func281 rfl Tryz.call281 rfl rfl rfl ?_
  conv => whnf
  refine LoopX.rule hT (C := []) (ι := Nat) (fun i => i ≤ l.length ∧ i ≤ m.length ∧ cmpPL l m = cmpPL (l.drop i) (m.drop i)) (fun i => mkSt [(0, .d (prgs l)), (1, .d (prgs m)), (2, .fn g []), (11, .d (prgs l)), (12, .d (.int .i64 l.length)), (13, .d (.int .i64 i))] []) (fun i => l.length - i) 0 ⟨by omega, by omega, by simp⟩ (by refine Entails.mk' [] rfl rfl ?_ ?_ <;> repeat' (first | exact True.intro | exact SV.le_refl _ | exact Res.le_refl _ | exact SV.le_int (by omega) | exact SV.le_any _ | refine And.intro ?_ ?_)) ?_
  rintro i ⟨p1, p2, p3⟩
  have hd : i < l.length → l.drop i = l.getD i pr0 :: l.drop (i + 1) := fun hi => by rw [List.drop_eq_getElem_cons hi, List.getD_eq_getElem?_getD, List.getElem?_eq_getElem hi]; rfl
  have hd2 : i < m.length → m.drop i = m.getD i pr0 :: m.drop (i + 1) := fun hi => by rw [List.drop_eq_getElem_cons hi, List.getD_eq_getElem?_getD, List.getElem?_eq_getElem hi]; rfl
  have e1 : (i : Int).toNat = i := Int.toNat_natCast i
  conv => whnf
  repeat' (first
    | (refine CallX.exact (hg (l.getD (i : Int).toNat pr0) (m.getD (i : Int).toNat pr0)) rfl rfl ?_; rotate_right; conv => whnf)
    | (refine br_intro (fun hb => ?_) (fun hb => ?_) <;> (try simp only [decide_eq_true_eq, decide_eq_false_iff_not, Bool.not_eq_true', Bool.not_eq_false', Bool.and_eq_true, Bool.or_eq_true, beq_iff_eq, not_and, Int.not_le, Int.not_lt, Int.toNat_natCast, beq_eq_false_iff_ne, ne_eq, eq_self, not_true_eq_false, not_false_eq_true] at hb) <;> (conv => whnf))
    | omega
    | (refine And.intro ?_ ?_; ((try dsimp only); first | omega | (refine ⟨by omega, by omega, Int.le_trans (Int.mul_le_mul_of_nonneg_right (Int.ofNat_le.2 (Nat.le_of_ble_eq_true (rfl : Nat.ble _ 1024 = true))) (by omega)) (by omega), by omega⟩) | (refine Nat.le_trans (Nat.mul_le_mul_left _ (Nat.le_of_ble_eq_true (rfl : Nat.ble _ 1024 = true))) ?_; omega) | (unfold inI64; omega) | (constructor <;> omega) | (simp only [inI64, List.length_cons, List.length_append, List.length_nil, List.length_set] at *; omega) | decide | (unfold inI64; decide)); conv => whnf)
    | omega | decide | assumption)
  · refine .ret _ ?_
    conv => whnf
    refine ⟨[], ⟨?_, rfl⟩, trivial⟩
    conv => lhs; whnf
    congr 2
    rw [p3, hd (by omega), List.drop_eq_nil_iff.2 (by omega : m.length ≤ i)]; rfl
  · refine .ret _ ?_
    conv => whnf
    refine ⟨[], ⟨?_, rfl⟩, trivial⟩
    conv => lhs; whnf
    congr 2
    rw [p3, hd (by omega), hd2 (by omega), cmpPL, if_pos (by simpa using hb)]; simp only [e1]
  · refine ⟨i + 1, ⟨by omega, by omega, ?_⟩, by omega, (by refine Entails.mk' [] rfl rfl ?_ ?_ <;> repeat' (first | exact True.intro | exact SV.le_refl _ | exact Res.le_refl _ | exact SV.le_int (by omega) | exact SV.le_any _ | refine And.intro ?_ ?_))⟩
    rw [p3, hd (by omega), hd2 (by omega), cmpPL, if_neg (by simpa using hb)]
  · refine .ret _ ?_
    conv => whnf
    refine ⟨[], ⟨?_, rfl⟩, trivial⟩
    conv => lhs; whnf
    congr 2
    have hm : i < m.length := by omega
    rw [p3, hd2 hm, List.drop_eq_nil_iff.2 (by omega : l.length ≤ i)]; rfl
  · refine .ret _ ?_
    conv => whnf
    refine ⟨[], ⟨?_, rfl⟩, trivial⟩
    conv => lhs; whnf
    congr 2
    rw [p3, List.drop_eq_nil_iff.2 (by omega : m.length ≤ i), List.drop_eq_nil_iff.2 (by omega : l.length ≤ i)]; rfl
-- beats
theorem z230 (m o : MSt) (hm : m.1.length ≤ 2^40) (ho : o.1.length ≤ 2^40) : FSpec Tryz.prog 230 [.agg [.d (prgs m.1), .d (.int .i64 m.2)], .agg [.d (prgs o.1), .d (.int .i64 o.2)]] [] (fun x r => x = .d (.bool (beatsM m o)) ∧ r = []) := by
  have h := z281 282 m.1 o.1 hm ho (fun p q => z282 p q)
  refine spec_of hT (C := []) Tryz.func230 rfl Tryz.call230 rfl rfl rfl ?_
  conv => whnf
  repeat' (first
    | (refine CallX.exact (h) rfl rfl ?_; rotate_right; conv => whnf)
    | (refine br_intro (fun hb => ?_) (fun hb => ?_) <;> (try simp only [decide_eq_true_eq, decide_eq_false_iff_not, Bool.not_eq_true', Bool.not_eq_false', Bool.and_eq_true, Bool.or_eq_true, beq_iff_eq, not_and, Int.not_le, Int.not_lt, Int.toNat_natCast, beq_eq_false_iff_ne, ne_eq, eq_self, not_true_eq_false, not_false_eq_true] at hb) <;> (conv => whnf))
    | omega
    | (refine And.intro ?_ ?_; ((try dsimp only); first | omega | (refine ⟨by omega, by omega, Int.le_trans (Int.mul_le_mul_of_nonneg_right (Int.ofNat_le.2 (Nat.le_of_ble_eq_true (rfl : Nat.ble _ 1024 = true))) (by omega)) (by omega), by omega⟩) | (refine Nat.le_trans (Nat.mul_le_mul_left _ (Nat.le_of_ble_eq_true (rfl : Nat.ble _ 1024 = true))) ?_; omega) | (unfold inI64; omega) | (constructor <;> omega) | (simp only [inI64, List.length_cons, List.length_append, List.length_nil, List.length_set] at *; omega) | decide | (unfold inI64; decide)); conv => whnf)
    | omega | decide | assumption)
  all_goals
    refine .ret _ ?_
    conv => whnf
    refine ⟨[], ⟨?_, rfl⟩, trivial⟩
    conv => lhs; whnf
    congr 2
    unfold beatsM
    grind
abbrev prB (l : List Prg) : Res := seqB 85 2 prF pr0 l
-- slices.Clone of pairings, of an own row: what it gives back is changed no more
theorem z231 (l : List Prg) (hl : l.length ≤ 2^20) : FSpec Tryz.prog 231 [.buf 1000001] [(1000001, prB l)] (fun y r => y = .d (prgs l) ∧ r = [(1000001, prB l)]) := by
  refine spec_of hT (C := [5]) Tryz.func231 rfl Tryz.call231 rfl rfl rfl ?_
  conv => whnf
  rintro b hbn
  conv => whnf
  repeat' (first
    | (refine br_intro (fun hb => ?_) (fun hb => ?_) <;> (try simp only [decide_eq_true_eq, decide_eq_false_iff_not, Bool.not_eq_true', Bool.not_eq_false', Bool.and_eq_true, Bool.or_eq_true, beq_iff_eq, not_and, Int.not_le, Int.not_lt, Int.toNat_natCast, beq_eq_false_iff_ne, ne_eq, eq_self, not_true_eq_false, not_false_eq_true] at hb) <;> (conv => whnf))
    | omega
    | (refine And.intro ?_ ?_; ((try dsimp only); first | omega | (refine ⟨by omega, by omega, Int.le_trans (Int.mul_le_mul_of_nonneg_right (Int.ofNat_le.2 (Nat.le_of_ble_eq_true (rfl : Nat.ble _ 1024 = true))) (by omega)) (by omega), by omega⟩) | (refine Nat.le_trans (Nat.mul_le_mul_left _ (Nat.le_of_ble_eq_true (rfl : Nat.ble _ 1024 = true))) ?_; omega) | (unfold inI64; omega) | (constructor <;> omega) | (simp only [inI64, List.length_cons, List.length_append, List.length_nil, List.length_set] at *; omega) | decide | (unfold inI64; decide)); conv => whnf)
    | omega | decide | assumption)
  · have : l = [] := List.eq_nil_of_length_eq_zero (hbn (by assumption))
    subst this
    refine .weak _ ?_
    (conv => whnf)
    exact ⟨_, _, SV.le_nilS, ⟨rfl, rfl⟩, Res.le_refl _, trivial⟩
  · refine .freeze _ 7 85 2 _ _ rfl (.weak _ ?_)
    (conv => whnf)
    exact ⟨_, _, SV.le_ro (by simp) (fun i hi => by rw [appGet_ge (by omega)]; rfl), ⟨rfl, rfl⟩, Res.le_refl _, trivial⟩
-- the same, of a frozen row
theorem z231f (l : List Prg) (hl : l.length ≤ 2^20) : FSpec Tryz.prog 231 [.d (prgs l)] [] (fun y r => y = .d (prgs l) ∧ r = []) := by
  refine spec_of hT (C := [5]) Tryz.func231 rfl Tryz.call231 rfl rfl rfl ?_
  conv => whnf
  rintro b hbn
  conv => whnf
  repeat' (first
    | (refine br_intro (fun hb => ?_) (fun hb => ?_) <;> (try simp only [decide_eq_true_eq, decide_eq_false_iff_not, Bool.not_eq_true', Bool.not_eq_false', Bool.and_eq_true, Bool.or_eq_true, beq_iff_eq, not_and, Int.not_le, Int.not_lt, Int.toNat_natCast, beq_eq_false_iff_ne, ne_eq, eq_self, not_true_eq_false, not_false_eq_true] at hb) <;> (conv => whnf))
    | omega
    | (refine And.intro ?_ ?_; ((try dsimp only); first | omega | (refine ⟨by omega, by omega, Int.le_trans (Int.mul_le_mul_of_nonneg_right (Int.ofNat_le.2 (Nat.le_of_ble_eq_true (rfl : Nat.ble _ 1024 = true))) (by omega)) (by omega), by omega⟩) | (refine Nat.le_trans (Nat.mul_le_mul_left _ (Nat.le_of_ble_eq_true (rfl : Nat.ble _ 1024 = true))) ?_; omega) | (unfold inI64; omega) | (constructor <;> omega) | (simp only [inI64, List.length_cons, List.length_append, List.length_nil, List.length_set] at *; omega) | decide | (unfold inI64; decide)); conv => whnf)
    | omega | decide | assumption)
  · have : l = [] := List.eq_nil_of_length_eq_zero (hbn (by assumption))
    subst this
    refine .weak _ ?_
    (conv => whnf)
    exact ⟨_, _, SV.le_nilS, ⟨rfl, rfl⟩, trivial⟩
  · refine .freeze _ 7 85 2 _ _ rfl (.weak _ ?_)
    (conv => whnf)
    exact ⟨_, _, SV.le_ro (by simp) (fun i hi => by rw [appGet_ge (by omega)]; rfl), ⟨rfl, rfl⟩, trivial⟩
-- the same, of a row that is changed no more: what it gives back is the caller's own
theorem z231r (l : List Prg) (hl : l.length ≤ 2^20) : FSpec Tryz.prog 231 [.d (prgs l)] [] (fun y r => (y = .d .nilsl ∧ l = [] ∧ r = []) ∨ (y = .buf 7 ∧ r = [(7, prB l)])) := by
  refine spec_of hT (C := [5]) Tryz.func231 rfl Tryz.call231 rfl rfl rfl ?_
  conv => whnf
  rintro b hbn
  conv => whnf
  repeat' (first
    | (refine br_intro (fun hb => ?_) (fun hb => ?_) <;> (try simp only [decide_eq_true_eq, decide_eq_false_iff_not, Bool.not_eq_true', Bool.not_eq_false', Bool.and_eq_true, Bool.or_eq_true, beq_iff_eq, not_and, Int.not_le, Int.not_lt, Int.toNat_natCast, beq_eq_false_iff_ne, ne_eq, eq_self, not_true_eq_false, not_false_eq_true] at hb) <;> (conv => whnf))
    | omega
    | (refine And.intro ?_ ?_; ((try dsimp only); first | omega | (refine ⟨by omega, by omega, Int.le_trans (Int.mul_le_mul_of_nonneg_right (Int.ofNat_le.2 (Nat.le_of_ble_eq_true (rfl : Nat.ble _ 1024 = true))) (by omega)) (by omega), by omega⟩) | (refine Nat.le_trans (Nat.mul_le_mul_left _ (Nat.le_of_ble_eq_true (rfl : Nat.ble _ 1024 = true))) ?_; omega) | (unfold inI64; omega) | (constructor <;> omega) | (simp only [inI64, List.length_cons, List.length_append, List.length_nil, List.length_set] at *; omega) | decide | (unfold inI64; decide)); conv => whnf)
    | omega | decide | assumption)
  · have : l = [] := List.eq_nil_of_length_eq_zero (hbn (by assumption))
    refine .ret _ ?_
    conv => whnf
    exact ⟨_, .inl ⟨rfl, this, rfl⟩, trivial⟩
  · refine .ret _ ?_
    conv => whnf
    refine ⟨_, .inr ⟨rfl, rfl⟩, Res.le_buf (by simp) (fun i hi => ?_), trivial⟩
    rw [appGet_ge (by omega)]; rfl
-- slices.Equal of pairings
theorem z61 (l m : List Prg) (hl : l.length ≤ 2^40) : FSpec Tryz.prog 61 [.d (prgs l), .d (prgs m)] [] (fun x r => x = .d (.bool (decide (l = m))) ∧ r = []) := by
  refine spec_of hT (C := []) Tryz.func61 rfl Tryz.call61 rfl rfl rfl ?_
  conv => whnf
  repeat' (first
    | (refine br_intro (fun hb => ?_) (fun hb => ?_) <;> (try simp only [decide_eq_true_eq, decide_eq_false_iff_not, Bool.not_eq_true', Bool.not_eq_false', Bool.and_eq_true, Bool.or_eq_true, beq_iff_eq, not_and, Int.not_le, Int.not_lt, Int.toNat_natCast, beq_eq_false_iff_ne, ne_eq, eq_self, not_true_eq_false, not_false_eq_true] at hb) <;> (conv => whnf))
    | (refine RegX.rule (id := 6) hT rfl [] [(0, []), (1, [0]), (2, []), (3, []), (4, [0, 1, 2, 3]), (5, [0, 1, 2, 3, 4]), (6, [0, 1, 2, 3]), (7, [0, 1, 2, 3]), (8, [])] (by decide +kernel) ?_; conv => whnf)
    | omega
    | (refine And.intro ?_ ?_; ((try dsimp only); first | omega | (refine ⟨by omega, by omega, Int.le_trans (Int.mul_le_mul_of_nonneg_right (Int.ofNat_le.2 (Nat.le_of_ble_eq_true (rfl : Nat.ble _ 1024 = true))) (by omega)) (by omega), by omega⟩) | (refine Nat.le_trans (Nat.mul_le_mul_left _ (Nat.le_of_ble_eq_true (rfl : Nat.ble _ 1024 = true))) ?_; omega) | (unfold inI64; omega) | (constructor <;> omega) | (simp only [inI64, List.length_cons, List.length_append, List.length_nil, List.length_set] at *; omega) | decide | (unfold inI64; decide)); conv => whnf)
    | omega | decide | assumption)
  · refine .ret _ ?_
    conv => whnf
    refine ⟨[], ⟨?_, rfl⟩, trivial⟩
    conv => lhs; whnf
    have : ¬ l = m := fun q => by subst q; simp at hb
    simp [this]
  have hlen : l.length = m.length := by
    omega
  refine LoopX.rule hT (C := []) (ι := Nat) (fun i => i ≤ l.length ∧ ∀ j, j < i → l.getD j pr0 = m.getD j pr0) (fun i => mkSt [(0, .d (prgs l)), (1, .d (prgs m)), (12, .d (.int .i64 l.length)), (13, .d (.int .i64 i))] []) (fun i => l.length - i) 0 ⟨by omega, by omega⟩ (by refine Entails.mk' [] rfl rfl ?_ ?_ <;> repeat' (first | exact True.intro | exact SV.le_refl _ | exact Res.le_refl _ | exact SV.le_int (by omega) | exact SV.le_any _ | refine And.intro ?_ ?_)) ?_
  rintro i ⟨p1, p2⟩
  have e1 : (i : Int).toNat = i := Int.toNat_natCast i
  conv => whnf
  repeat' (first
    | (refine br_intro (fun hb => ?_) (fun hb => ?_) <;> (try simp only [decide_eq_true_eq, decide_eq_false_iff_not, Bool.not_eq_true', Bool.not_eq_false', Bool.and_eq_true, Bool.or_eq_true, beq_iff_eq, not_and, Int.not_le, Int.not_lt, Int.toNat_natCast, beq_eq_false_iff_ne, ne_eq, eq_self, not_true_eq_false, not_false_eq_true] at hb) <;> (conv => whnf))
    | (refine RegX.rule (id := 6) hT rfl [] [(0, []), (1, [0]), (2, []), (3, []), (4, [0, 1, 2, 3]), (5, [0, 1, 2, 3, 4]), (6, [0, 1, 2, 3]), (7, [0, 1, 2, 3]), (8, [])] (by decide +kernel) ?_; conv => whnf)
    | omega
    | (refine And.intro ?_ ?_; ((try dsimp only); first | omega | (refine ⟨by omega, by omega, Int.le_trans (Int.mul_le_mul_of_nonneg_right (Int.ofNat_le.2 (Nat.le_of_ble_eq_true (rfl : Nat.ble _ 1024 = true))) (by omega)) (by omega), by omega⟩) | (refine Nat.le_trans (Nat.mul_le_mul_left _ (Nat.le_of_ble_eq_true (rfl : Nat.ble _ 1024 = true))) ?_; omega) | (unfold inI64; omega) | (constructor <;> omega) | (simp only [inI64, List.length_cons, List.length_append, List.length_nil, List.length_set] at *; omega) | decide | (unfold inI64; decide)); conv => whnf)
    | omega | decide | assumption)
  · refine .ret _ ?_
    conv => whnf
    refine ⟨[], ⟨?_, rfl⟩, trivial⟩
    conv => lhs; whnf
    have : ¬ l = m := fun q => by subst q; simp at hb
    simp [this]
  · exact ⟨i + 1, ⟨by omega, all_step p2 (by rw [prg_eq]; simpa [and_assoc] using hb)⟩, by omega, (by refine Entails.mk' [] rfl rfl ?_ ?_ <;> repeat' (first | exact True.intro | exact SV.le_refl _ | exact Res.le_refl _ | exact SV.le_int (by omega) | exact SV.le_any _ | refine And.intro ?_ ?_))⟩
  · refine .ret _ ?_
    conv => whnf
    refine ⟨[], ⟨?_, rfl⟩, trivial⟩
    conv => lhs; whnf
    have : i = l.length := by omega
    subst this
    simp [eq_of_getD pr0 hlen p2]
/-- Whether some pairing has a number of the newer report, and where. -/
def pIx (p : Prg → Bool) (l : List Prg) : Int := ixF (fun i => p (l.getD i pr0)) l.length
theorem pIx_any (p : Prg → Bool) (l : List Prg) : decide (0 ≤ pIx p l) = l.any p := by
  have hb : -1 ≤ pIx p l ∧ pIx p l < l.length ∧ (0 ≤ pIx p l → p (l.getD (pIx p l).toNat pr0) = true) := ixF_bd
  rw [Bool.eq_iff_iff, decide_eq_true_eq, List.any_eq_true]
  constructor
  · intro h
    exact ⟨_, getD_mem (by omega), hb.2.2 h⟩
  · rintro ⟨x, hx, hp⟩
    obtain ⟨i, hi, rfl⟩ := List.mem_iff_getElem.1 hx
    rcases Int.lt_or_le (pIx p l) 0 with q | q
    · exfalso
      have h0 : pIx p l = -1 := by omega
      have : ∀ n, ixF (fun i => p (l.getD i pr0)) n = -1 → ∀ j, j < n → p (l.getD j pr0) = false := by
        intro n
        induction n with
        | zero => intro _ j hj; omega
        | succ n ih =>
          intro hn j hj
          rw [ixF] at hn
          split at hn
          · rename_i h1
            split at hn
            · omega
            · rename_i h2
              by_cases e : j = n
              · subst e; simpa using h2
              · exact ih h1 j (by omega)
          · rename_i h1; exact absurd hn h1
      have h1 := this l.length h0 i hi
      rw [List.getD_eq_getElem?_getD, List.getElem?_eq_getElem hi, Option.getD_some, hp] at h1
      cases h1
    · exact q
abbrev icelm (k : Int) : Res := .cells 3 [.d (.int .i64 k)]
abbrev pcell (p : Prg) : Res := .cells 85 ((prF p).map .d)
-- slices.IndexFunc of pairings
theorem z159i (k : Int) (g : FuncId) (l : List Prg) (hl : l.length ≤ 2^40) (p : Prg → Bool)
    (hg : ∀ x, x ∈ l → FSpec Tryz.prog g [.agg ((prF x).map .d), .ptr 1000001 0] [(1000001, icelm k)] (fun y r => y = .d (.bool (p x)) ∧ r = [(1000001, icelm k)])) :
    FSpec Tryz.prog 159 [.d (prgs l), .fn g [.ptr 1000001 0]] [(1000001, icelm k)] (fun y r => y = .d (.int .i64 (pIx p l)) ∧ r = [(1000001, icelm k)]) := by
  refine spec_of hT (C := []) Tryz.func159 rfl Tryz.call159 rfl rfl rfl ?_
  conv => whnf
  refine LoopX.rule hT (C := []) (ι := Nat) (fun i => i ≤ l.length ∧ ∀ j, j < i → p (l.getD j pr0) = false) (fun i => mkSt [(0, .d (prgs l)), (1, .fn g [.ptr 1000001 0]), (7, .d (.int .i64 l.length)), (8, .d (.int .i64 i))] [(1000001, icelm k)]) (fun i => l.length - i) 0 ⟨by omega, by omega⟩ (by refine Entails.mk' [(1000001, 1000001)] rfl rfl ?_ ?_ <;> repeat' (first | exact True.intro | exact SV.le_refl _ | exact Res.le_refl _ | exact SV.le_int (by omega) | exact SV.le_any _ | refine And.intro ?_ ?_)) ?_
  rintro i ⟨p1, p2⟩
  have e1 : (i : Int).toNat = i := Int.toNat_natCast i
  conv => whnf
  repeat' (first
    | (refine CallX.of (hg (l.getD i pr0) (getD_mem (by omega))) [(1000001, 1000001)] rfl ⟨SV.le_refl _, SV.le_refl _, trivial⟩ ⟨Res.le_refl _, trivial⟩ rfl rfl ?_; rintro x rout ⟨rfl, rfl⟩; refine ⟨rfl, ?_⟩; conv => whnf)
    | (refine br_intro (fun hb => ?_) (fun hb => ?_) <;> (try simp only [decide_eq_true_eq, decide_eq_false_iff_not, Bool.not_eq_true', Bool.not_eq_false', Bool.and_eq_true, Bool.or_eq_true, beq_iff_eq, not_and, Int.not_le, Int.not_lt, Int.toNat_natCast, beq_eq_false_iff_ne, ne_eq, eq_self, not_true_eq_false, not_false_eq_true] at hb) <;> (conv => whnf))
    | omega
    | (refine And.intro ?_ ?_; ((try dsimp only); first | omega | (refine ⟨by omega, by omega, Int.le_trans (Int.mul_le_mul_of_nonneg_right (Int.ofNat_le.2 (Nat.le_of_ble_eq_true (rfl : Nat.ble _ 1024 = true))) (by omega)) (by omega), by omega⟩) | (refine Nat.le_trans (Nat.mul_le_mul_left _ (Nat.le_of_ble_eq_true (rfl : Nat.ble _ 1024 = true))) ?_; omega) | (unfold inI64; omega) | (constructor <;> omega) | (simp only [inI64, List.length_cons, List.length_append, List.length_nil, List.length_set] at *; omega) | decide | (unfold inI64; decide)); conv => whnf)
    | omega | decide | assumption)
  · refine .ret _ ?_
    conv => whnf
    refine ⟨[(1000001, icelm k)], ⟨?_, rfl⟩, Res.le_refl _, trivial⟩
    conv => lhs; whnf
    congr 2
    exact (ixF_hit (by omega) p2 (by simpa using hb)).symm
  · exact ⟨i + 1, ⟨by omega, all_step p2 (by simpa using hb)⟩, by omega, (by refine Entails.mk' [(1000001, 1000001)] rfl rfl ?_ ?_ <;> repeat' (first | exact True.intro | exact SV.le_refl _ | exact Res.le_refl _ | exact SV.le_int (by omega) | exact SV.le_any _ | refine And.intro ?_ ?_))⟩
  · refine .ret _ ?_
    conv => whnf
    refine ⟨[(1000001, icelm k)], ⟨?_, rfl⟩, Res.le_refl _, trivial⟩
    conv => lhs; whnf
    congr 2
    have : i = l.length := by omega
    subst this
    exact (ixF_none p2).symm
-- slices.ContainsFunc of pairings
theorem z146i (k : Int) (g : FuncId) (l : List Prg) (hl : l.length ≤ 2^40) (p : Prg → Bool)
    (hg : ∀ x, x ∈ l → FSpec Tryz.prog g [.agg ((prF x).map .d), .ptr 1000001 0] [(1000001, icelm k)] (fun y r => y = .d (.bool (p x)) ∧ r = [(1000001, icelm k)])) :
    FSpec Tryz.prog 146 [.d (prgs l), .fn g [.ptr 1000001 0]] [(1000001, icelm k)] (fun y r => y = .d (.bool (l.any p)) ∧ r = [(1000001, icelm k)]) := by
  refine spec_of hT (C := []) Tryz.func146 rfl Tryz.call146 rfl rfl rfl ?_
  conv => whnf
  repeat' (first
    | (refine CallX.of (z159i k g l hl p hg) [(1000001, 1000001)] rfl ⟨SV.le_refl _, SV.le_refl _, trivial⟩ ⟨Res.le_refl _, trivial⟩ rfl rfl ?_; rintro x rout ⟨rfl, rfl⟩; refine ⟨rfl, ?_⟩; conv => whnf)
    | (refine br_intro (fun hb => ?_) (fun hb => ?_) <;> (try simp only [decide_eq_true_eq, decide_eq_false_iff_not, Bool.not_eq_true', Bool.not_eq_false', Bool.and_eq_true, Bool.or_eq_true, beq_iff_eq, not_and, Int.not_le, Int.not_lt, Int.toNat_natCast, beq_eq_false_iff_ne, ne_eq, eq_self, not_true_eq_false, not_false_eq_true] at hb) <;> (conv => whnf))
    | omega
    | (refine And.intro ?_ ?_; ((try dsimp only); first | omega | (refine ⟨by omega, by omega, Int.le_trans (Int.mul_le_mul_of_nonneg_right (Int.ofNat_le.2 (Nat.le_of_ble_eq_true (rfl : Nat.ble _ 1024 = true))) (by omega)) (by omega), by omega⟩) | (refine Nat.le_trans (Nat.mul_le_mul_left _ (Nat.le_of_ble_eq_true (rfl : Nat.ble _ 1024 = true))) ?_; omega) | (unfold inI64; omega) | (constructor <;> omega) | (simp only [inI64, List.length_cons, List.length_append, List.length_nil, List.length_set] at *; omega) | decide | (unfold inI64; decide)); conv => whnf)
    | omega | decide | assumption)
  refine .ret _ ?_
  conv => whnf
  refine ⟨[(1000001, icelm k)], ⟨?_, rfl⟩, Res.le_refl _, trivial⟩
  conv => lhs; whnf
  rw [← pIx_any]
-- slices.IndexFunc of pairings
theorem z159p (q : Prg) (g : FuncId) (l : List Prg) (hl : l.length ≤ 2^40) (p : Prg → Bool)
    (hg : ∀ x, x ∈ l → FSpec Tryz.prog g [.agg ((prF x).map .d), .ptr 1000001 0] [(1000001, pcell q)] (fun y r => y = .d (.bool (p x)) ∧ r = [(1000001, pcell q)])) :
    FSpec Tryz.prog 159 [.d (prgs l), .fn g [.ptr 1000001 0]] [(1000001, pcell q)] (fun y r => y = .d (.int .i64 (pIx p l)) ∧ r = [(1000001, pcell q)]) := by
  refine spec_of hT (C := []) Tryz.func159 rfl Tryz.call159 rfl rfl rfl ?_
  conv => whnf
  refine LoopX.rule hT (C := []) (ι := Nat) (fun i => i ≤ l.length ∧ ∀ j, j < i → p (l.getD j pr0) = false) (fun i => mkSt [(0, .d (prgs l)), (1, .fn g [.ptr 1000001 0]), (7, .d (.int .i64 l.length)), (8, .d (.int .i64 i))] [(1000001, pcell q)]) (fun i => l.length - i) 0 ⟨by omega, by omega⟩ (by refine Entails.mk' [(1000001, 1000001)] rfl rfl ?_ ?_ <;> repeat' (first | exact True.intro | exact SV.le_refl _ | exact Res.le_refl _ | exact SV.le_int (by omega) | exact SV.le_any _ | refine And.intro ?_ ?_)) ?_
  rintro i ⟨p1, p2⟩
  have e1 : (i : Int).toNat = i := Int.toNat_natCast i
  conv => whnf
  repeat' (first
    | (refine CallX.of (hg (l.getD i pr0) (getD_mem (by omega))) [(1000001, 1000001)] rfl ⟨SV.le_refl _, SV.le_refl _, trivial⟩ ⟨Res.le_refl _, trivial⟩ rfl rfl ?_; rintro x rout ⟨rfl, rfl⟩; refine ⟨rfl, ?_⟩; conv => whnf)
    | (refine br_intro (fun hb => ?_) (fun hb => ?_) <;> (try simp only [decide_eq_true_eq, decide_eq_false_iff_not, Bool.not_eq_true', Bool.not_eq_false', Bool.and_eq_true, Bool.or_eq_true, beq_iff_eq, not_and, Int.not_le, Int.not_lt, Int.toNat_natCast, beq_eq_false_iff_ne, ne_eq, eq_self, not_true_eq_false, not_false_eq_true] at hb) <;> (conv => whnf))
    | omega
    | (refine And.intro ?_ ?_; ((try dsimp only); first | omega | (refine ⟨by omega, by omega, Int.le_trans (Int.mul_le_mul_of_nonneg_right (Int.ofNat_le.2 (Nat.le_of_ble_eq_true (rfl : Nat.ble _ 1024 = true))) (by omega)) (by omega), by omega⟩) | (refine Nat.le_trans (Nat.mul_le_mul_left _ (Nat.le_of_ble_eq_true (rfl : Nat.ble _ 1024 = true))) ?_; omega) | (unfold inI64; omega) | (constructor <;> omega) | (simp only [inI64, List.length_cons, List.length_append, List.length_nil, List.length_set] at *; omega) | decide | (unfold inI64; decide)); conv => whnf)
    | omega | decide | assumption)
  · refine .ret _ ?_
    conv => whnf
    refine ⟨[(1000001, pcell q)], ⟨?_, rfl⟩, Res.le_refl _, trivial⟩
    conv => lhs; whnf
    congr 2
    exact (ixF_hit (by omega) p2 (by simpa using hb)).symm
  · exact ⟨i + 1, ⟨by omega, all_step p2 (by simpa using hb)⟩, by omega, (by refine Entails.mk' [(1000001, 1000001)] rfl rfl ?_ ?_ <;> repeat' (first | exact True.intro | exact SV.le_refl _ | exact Res.le_refl _ | exact SV.le_int (by omega) | exact SV.le_any _ | refine And.intro ?_ ?_))⟩
  · refine .ret _ ?_
    conv => whnf
    refine ⟨[(1000001, pcell q)], ⟨?_, rfl⟩, Res.le_refl _, trivial⟩
    conv => lhs; whnf
    congr 2
    have : i = l.length := by omega
    subst this
    exact (ixF_none p2).symm
-- slices.ContainsFunc of pairings
theorem z146p (q : Prg) (g : FuncId) (l : List Prg) (hl : l.length ≤ 2^40) (p : Prg → Bool)
    (hg : ∀ x, x ∈ l → FSpec Tryz.prog g [.agg ((prF x).map .d), .ptr 1000001 0] [(1000001, pcell q)] (fun y r => y = .d (.bool (p x)) ∧ r = [(1000001, pcell q)])) :
    FSpec Tryz.prog 146 [.d (prgs l), .fn g [.ptr 1000001 0]] [(1000001, pcell q)] (fun y r => y = .d (.bool (l.any p)) ∧ r = [(1000001, pcell q)]) := by
  refine spec_of hT (C := []) Tryz.func146 rfl Tryz.call146 rfl rfl rfl ?_
  conv => whnf
  repeat' (first
    | (refine CallX.of (z159p q g l hl p hg) [(1000001, 1000001)] rfl ⟨SV.le_refl _, SV.le_refl _, trivial⟩ ⟨Res.le_refl _, trivial⟩ rfl rfl ?_; rintro x rout ⟨rfl, rfl⟩; refine ⟨rfl, ?_⟩; conv => whnf)
    | (refine br_intro (fun hb => ?_) (fun hb => ?_) <;> (try simp only [decide_eq_true_eq, decide_eq_false_iff_not, Bool.not_eq_true', Bool.not_eq_false', Bool.and_eq_true, Bool.or_eq_true, beq_iff_eq, not_and, Int.not_le, Int.not_lt, Int.toNat_natCast, beq_eq_false_iff_ne, ne_eq, eq_self, not_true_eq_false, not_false_eq_true] at hb) <;> (conv => whnf))
    | omega
    | (refine And.intro ?_ ?_; ((try dsimp only); first | omega | (refine ⟨by omega, by omega, Int.le_trans (Int.mul_le_mul_of_nonneg_right (Int.ofNat_le.2 (Nat.le_of_ble_eq_true (rfl : Nat.ble _ 1024 = true))) (by omega)) (by omega), by omega⟩) | (refine Nat.le_trans (Nat.mul_le_mul_left _ (Nat.le_of_ble_eq_true (rfl : Nat.ble _ 1024 = true))) ?_; omega) | (unfold inI64; omega) | (constructor <;> omega) | (simp only [inI64, List.length_cons, List.length_append, List.length_nil, List.length_set] at *; omega) | decide | (unfold inI64; decide)); conv => whnf)
    | omega | decide | assumption)
  refine .ret _ ?_
  conv => whnf
  refine ⟨[(1000001, pcell q)], ⟨?_, rfl⟩, Res.le_refl _, trivial⟩
  conv => lhs; whnf
  rw [← pIx_any]
theorem z160 (p : Prg) (k : Int) : FSpec Tryz.prog 160 [.agg ((prF p).map .d), .ptr 1000001 0] [(1000001, icelm k)] (fun y r => y = .d (.bool (p.b == k)) ∧ r = [(1000001, icelm k)]) := by
  refine spec_of hT (C := []) Tryz.func160 rfl Tryz.call160 rfl rfl rfl ?_
  conv => whnf
  refine .ret _ ?_
  conv => whnf
  exact ⟨[(1000001, icelm k)], ⟨rfl, rfl⟩, Res.le_refl _, trivial⟩
theorem z167 (p : Prg) (k : Int) : FSpec Tryz.prog 167 [.agg ((prF p).map .d), .ptr 1000001 0] [(1000001, icelm k)] (fun y r => y = .d (.bool (p.b == k)) ∧ r = [(1000001, icelm k)]) := by
  refine spec_of hT (C := []) Tryz.func167 rfl Tryz.call167 rfl rfl rfl ?_
  conv => whnf
  refine .ret _ ?_
  conv => whnf
  exact ⟨[(1000001, icelm k)], ⟨rfl, rfl⟩, Res.le_refl _, trivial⟩
theorem z176 (p : Prg) (k : Int) : FSpec Tryz.prog 176 [.agg ((prF p).map .d), .ptr 1000001 0] [(1000001, icelm k)] (fun y r => y = .d (.bool (p.b == k)) ∧ r = [(1000001, icelm k)]) := by
  refine spec_of hT (C := []) Tryz.func176 rfl Tryz.call176 rfl rfl rfl ?_
  conv => whnf
  refine .ret _ ?_
  conv => whnf
  exact ⟨[(1000001, icelm k)], ⟨rfl, rfl⟩, Res.le_refl _, trivial⟩
theorem z180 (p : Prg) (k : Int) : FSpec Tryz.prog 180 [.agg ((prF p).map .d), .ptr 1000001 0] [(1000001, icelm k)] (fun y r => y = .d (.bool (p.a == k)) ∧ r = [(1000001, icelm k)]) := by
  refine spec_of hT (C := []) Tryz.func180 rfl Tryz.call180 rfl rfl rfl ?_
  conv => whnf
  refine .ret _ ?_
  conv => whnf
  exact ⟨[(1000001, icelm k)], ⟨rfl, rfl⟩, Res.le_refl _, trivial⟩
theorem z181 (p : Prg) (k : Int) : FSpec Tryz.prog 181 [.agg ((prF p).map .d), .ptr 1000001 0] [(1000001, icelm k)] (fun y r => y = .d (.bool (p.b == k)) ∧ r = [(1000001, icelm k)]) := by
  refine spec_of hT (C := []) Tryz.func181 rfl Tryz.call181 rfl rfl rfl ?_
  conv => whnf
  refine .ret _ ?_
  conv => whnf
  exact ⟨[(1000001, icelm k)], ⟨rfl, rfl⟩, Res.le_refl _, trivial⟩
theorem z182 (p : Prg) (k : Int) : FSpec Tryz.prog 182 [.agg ((prF p).map .d), .ptr 1000001 0] [(1000001, icelm k)] (fun y r => y = .d (.bool (p.a == k)) ∧ r = [(1000001, icelm k)]) := by
  refine spec_of hT (C := []) Tryz.func182 rfl Tryz.call182 rfl rfl rfl ?_
  conv => whnf
  refine .ret _ ?_
  conv => whnf
  exact ⟨[(1000001, icelm k)], ⟨rfl, rfl⟩, Res.le_refl _, trivial⟩
theorem z232 (p : Prg) (k : Int) : FSpec Tryz.prog 232 [.agg ((prF p).map .d), .ptr 1000001 0] [(1000001, icelm k)] (fun y r => y = .d (.bool (p.b == k)) ∧ r = [(1000001, icelm k)]) := by
  refine spec_of hT (C := []) Tryz.func232 rfl Tryz.call232 rfl rfl rfl ?_
  conv => whnf
  refine .ret _ ?_
  conv => whnf
  exact ⟨[(1000001, icelm k)], ⟨rfl, rfl⟩, Res.le_refl _, trivial⟩
theorem z147 (p q : Prg) : FSpec Tryz.prog 147 [.agg ((prF p).map .d), .ptr 1000001 0] [(1000001, pcell q)] (fun y r => y = .d (.bool (p.b == q.b)) ∧ r = [(1000001, pcell q)]) := by
  refine spec_of hT (C := []) Tryz.func147 rfl Tryz.call147 rfl rfl rfl ?_
  conv => whnf
  refine .ret _ ?_
  conv => whnf
  exact ⟨[(1000001, pcell q)], ⟨rfl, rfl⟩, Res.le_refl _, trivial⟩
theorem z150 (p q : Prg) : FSpec Tryz.prog 150 [.agg ((prF p).map .d), .ptr 1000001 0] [(1000001, pcell q)] (fun y r => y = .d (.bool (p.b == q.b)) ∧ r = [(1000001, pcell q)]) := by
  refine spec_of hT (C := []) Tryz.func150 rfl Tryz.call150 rfl rfl rfl ?_
  conv => whnf
  refine .ret _ ?_
  conv => whnf
  exact ⟨[(1000001, pcell q)], ⟨rfl, rfl⟩, Res.le_refl _, trivial⟩
end Go.Proofs.YtnkdlkgannnfhaaGreatDoor
set_option maxRecDepth 20000
namespace Go.Proofs.YtnkdlkgannnfhaaGreatDoor
open Go Go.Eng
abbrev rcell (st : MSt) : Res := .cells 212 [.d (prgs st.1), .d (.int .i64 st.2)]
def stepM (r : Rul) (a b : List Mrk) (d i : Nat) (now st : MSt) (k : Nat) : MSt := if okM r a b i now.1 k then mtch r a b d (i + 1) (now.1 ++ [⟨i, k⟩], now.2 + distM (a.getD i mk0) (b.getD k mk0)) st else st
theorem mtch_succ (r : Rul) (a b : List Mrk) (d i : Nat) (now st : MSt) : mtch r a b (d + 1) i now st = mtch r a b d (i + 1) now ((List.range b.length).foldl (stepM r a b d i now) st) := rfl
theorem mtch_succL {r : Rul} {a b : List Mrk} {m : Mrk} (d i : Nat) (now st : MSt) (hm : sameM (a.getD i mk0) m = true) : mtch r a b (d + 1) i now st = mtch r a b d (i + 1) now ((likeM b m).foldl (stepM r a b d i now) st) := by
  rw [mtch_succ]
  exact congrArg _ (mtch_like d i now st hm).symm
theorem likeM_lt {b : List Mrk} {m : Mrk} {j : Nat} (h : j < (likeM b m).length) : (likeM b m).getD j 0 < b.length := by
  have : (likeM b m).getD j 0 ∈ likeM b m := getD_mem h
  unfold likeM at this
  exact List.mem_range.1 (List.mem_filter.1 this).1
def nowOk (i : Nat) (m : MSt) : Prop := m.1.length ≤ i ∧ 0 ≤ m.2 ∧ m.2 ≤ 50000000 * m.1.length
theorem nowOk_snoc {i k : Nat} {m : MSt} {x : Int} (h : nowOk i m) (h1 : 0 ≤ x) (h2 : x ≤ 50000000) : nowOk (i + 1) (m.1 ++ [⟨i, k⟩], m.2 + x) := by
  unfold nowOk at *
  simp only [List.length_append, List.length_singleton]
  omega
theorem nowOk_up {i : Nat} {m : MSt} (h : nowOk i m) : nowOk (i + 1) m := by unfold nowOk at *; omega
theorem foldM_len {r : Rul} {a b : List Mrk} {d i : Nat} {now st : MSt} {n : Nat} (h1 : now.1.length + d + 1 ≤ n) (h2 : st.1.length ≤ n) (l : List Nat) : (l.foldl (stepM r a b d i now) st).1.length ≤ n := by
  refine foldl_inv (q := fun s : MSt => s.1.length ≤ n) (fun s k _ hs => ?_) h2
  unfold stepM
  split
  · exact mtch_len _ _ _ _ n (by simp; omega) hs
  · exact hs
-- group
set_option maxHeartbeats 2000000 in
theorem z143 (r : Rul) (a b : List Mrk) (m0 : Mrk) (hr : rBd r) (ha : a.length ≤ 60 ∧ ∀ i, i < a.length → mBd (a.getD i mk0)) (hb2 : b.length ≤ 60 ∧ ∀ i, i < b.length → mBd (b.getD i mk0)) :
    ∀ (d i : Nat) (now st : MSt), i + d ≤ a.length → (∀ j, i ≤ j → j < i + d → sameM (a.getD j mk0) m0 = true) → nowOk i now → st.1.length ≤ 60 →
    FSpec Tryz.prog 143 [.agg ((ruF r).map .d), .d (mrks a), .d (mrks b), .d (ints (rangeI i d)), .d (ints (toI (likeM b m0))), .agg [.d (prgs now.1), .d (.int .i64 now.2)], .ptr 1000006 0] [(1000006, rcell st)]
      (fun y r' => y = .tup [] ∧ r' = [(1000006, rcell (mtch r a b d i now st))]) := by
  intro d
  induction d with
  | zero =>
    intro i now st hd hs hn hst
    have hn1 := hn.1
    have h := z230 now st (by omega) (by omega)
    have hl := rangeI_len i 0
    refine spec_of hT (C := []) Tryz.func143 rfl Tryz.call143 rfl rfl rfl ?_
    conv => whnf
    repeat' (first
      | (refine CallX.exact (h) rfl rfl ?_; rotate_right; conv => whnf)
      | (refine CallX.exact (z231f now.1 (by omega)) rfl rfl ?_; rotate_right; conv => whnf)
      | (refine br_intro (fun hb => ?_) (fun hb => ?_) <;> (try simp only [decide_eq_true_eq, decide_eq_false_iff_not, Bool.not_eq_true', Bool.not_eq_false', Bool.and_eq_true, Bool.or_eq_true, beq_iff_eq, not_and, Int.not_le, Int.not_lt, Int.toNat_natCast, beq_eq_false_iff_ne, ne_eq, eq_self, not_true_eq_false, not_false_eq_true] at hb) <;> (conv => whnf))
      | (refine RegX.rule (id := 2) hT rfl [] [(0, []), (1, [0]), (2, [0]), (3, [0]), (4, [])] (by decide +kernel) ?_; conv => whnf)
      | (refine RegX.rule (id := 3) hT rfl [] [(0, []), (1, [0]), (2, [0]), (4, [0, 1, 2]), (5, [0, 1, 2]), (3, [0, 4, 5]), (6, [0]), (7, []), (8, [])] (by decide +kernel) ?_; conv => whnf)
      | (refine RegX.rule (id := 8) hT rfl [] [(0, []), (1, [0]), (2, [0, 1]), (3, [0]), (4, [0]), (5, [0, 1, 2, 3, 4]), (6, [0, 1, 2, 3, 4, 5]), (7, [0, 1, 2, 3, 4]), (8, [0, 1, 2, 3, 4]), (9, []), (10, []), (11, []), (12, []), (13, [11, 12]), (14, []), (15, []), (16, [])] (by decide +kernel) ?_; conv => whnf)
      | (refine RegX.rule (id := 9) hT rfl [] [(0, []), (1, [0]), (2, [0, 1]), (3, [0, 1, 2]), (4, [0, 1, 2]), (5, [0, 1, 2, 3, 4]), (6, [0, 1, 2, 3, 4, 5]), (7, [0, 1, 2, 3, 4, 5]), (9, [0, 1, 2, 3, 4, 5, 6, 7]), (10, [0, 1, 2, 3, 4, 5, 6, 7, 9]), (11, [0, 1, 2, 3, 4, 5, 6, 7]), (12, [0, 1, 2, 3, 4, 5, 6, 7]), (14, [0, 1, 2, 3, 4, 5, 6, 7, 9, 10, 11, 12]), (15, [0, 1, 2, 3, 4, 5, 6, 7, 9, 10, 11, 12]), (16, [0, 1, 2, 3, 4, 5, 6, 7, 9, 10, 11, 12, 14, 15]), (17, [0, 1, 2, 3, 4, 5, 6, 7, 9, 10, 11, 12, 14, 15, 16]), (18, [0, 1, 2, 3, 4, 5, 6, 7, 9, 10, 11, 12, 14, 15]), (19, [0, 1, 2, 3, 4, 5, 6, 7, 9, 10, 11, 12, 14, 15]), (20, [0, 1, 2, 3, 4, 5, 6, 7, 9, 10, 11, 12, 14, 15, 16, 17, 18, 19]), (21, [0, 1, 2, 3, 4, 5, 6, 7, 9, 10, 11, 12, 14, 15, 16, 17, 18, 19, 20]), (22, [0, 1, 2, 3, 4, 5, 6, 7, 9, 10, 11, 12, 14, 15, 16, 17, 18, 19]), (23, [0, 1, 2, 3, 4, 5, 6, 7, 9, 10, 11, 12, 14, 15, 16, 17, 18, 19]), (27, [0, 1, 2, 3, 4, 5, 6, 7, 9, 10, 11, 12, 14, 15, 16, 17, 18, 19, 20, 21, 22, 23]), (8, [0, 1, 2, 3, 4, 5, 9, 10, 11, 12, 14, 15, 16, 17, 18, 19, 20, 21, 22, 23, 27]), (13, [0, 1, 2, 3, 4, 5, 14, 15, 16, 17, 18, 19, 20, 21, 22, 23, 27]), (24, [0, 1, 2, 3, 4, 5, 14, 15, 27]), (25, [0, 1, 2, 3, 4, 5, 27]), (26, [0, 1, 2, 3, 4, 5, 27]), (28, [])] (by decide +kernel) ?_; conv => whnf)
      | (refine RegX.rule (id := 11) hT rfl [] [(0, []), (1, [0]), (2, [0, 1]), (3, [0, 1, 2]), (4, [0, 1, 2]), (5, [0, 1, 2, 3, 4]), (6, [0, 1, 2, 3, 4, 5]), (7, [0, 1, 2, 3, 4, 5, 6]), (8, [])] (by decide +kernel) ?_; conv => whnf)
      | omega
      | (refine And.intro ?_ ?_; ((try dsimp only); first | omega | (refine ⟨by omega, by omega, Int.le_trans (Int.mul_le_mul_of_nonneg_right (Int.ofNat_le.2 (Nat.le_of_ble_eq_true (rfl : Nat.ble _ 1024 = true))) (by omega)) (by omega), by omega⟩) | (refine Nat.le_trans (Nat.mul_le_mul_left _ (Nat.le_of_ble_eq_true (rfl : Nat.ble _ 1024 = true))) ?_; omega) | (unfold inI64; omega) | (constructor <;> omega) | (simp only [inI64, List.length_cons, List.length_append, List.length_nil, List.length_set] at *; omega) | decide | (unfold inI64; decide)); conv => whnf)
      | omega | decide | assumption)
    all_goals try (exact absurd hl (by omega))
    all_goals
      refine .ret _ ?_
      conv => whnf
      refine ⟨_, ⟨rfl, rfl⟩, ?_, trivial⟩
      rw [mtch]
      simp only [*]
      exact Res.le_refl _
  | succ d ih =>
    intro i now st hd hs hn hst
    have hn1 := hn.1
    have hai := ha.2 i (by omega)
    have hl := rangeI_len i (d + 1)
    have hlk : (likeM b m0).length ≤ b.length := by
      unfold likeM; exact Nat.le_trans (List.length_filter_le _ _) (by simp)
    have hti := toI_len (likeM b m0)
    rw [mtch_succL d i now st (hs i (Nat.le_refl _) (by omega))]
    refine spec_of hT (C := []) Tryz.func143 rfl Tryz.call143 rfl rfl rfl ?_
    conv => whnf
    repeat' (first
      | (refine br_intro (fun hb => ?_) (fun hb => ?_) <;> (try simp only [decide_eq_true_eq, decide_eq_false_iff_not, Bool.not_eq_true', Bool.not_eq_false', Bool.and_eq_true, Bool.or_eq_true, beq_iff_eq, not_and, Int.not_le, Int.not_lt, Int.toNat_natCast, beq_eq_false_iff_ne, ne_eq, eq_self, not_true_eq_false, not_false_eq_true] at hb) <;> (conv => whnf))
      | (refine RegX.rule (id := 2) hT rfl [] [(0, []), (1, [0]), (2, [0]), (3, [0]), (4, [])] (by decide +kernel) ?_; conv => whnf)
      | (refine RegX.rule (id := 3) hT rfl [] [(0, []), (1, [0]), (2, [0]), (4, [0, 1, 2]), (5, [0, 1, 2]), (3, [0, 4, 5]), (6, [0]), (7, []), (8, [])] (by decide +kernel) ?_; conv => whnf)
      | (refine RegX.rule (id := 8) hT rfl [] [(0, []), (1, [0]), (2, [0, 1]), (3, [0]), (4, [0]), (5, [0, 1, 2, 3, 4]), (6, [0, 1, 2, 3, 4, 5]), (7, [0, 1, 2, 3, 4]), (8, [0, 1, 2, 3, 4]), (9, []), (10, []), (11, []), (12, []), (13, [11, 12]), (14, []), (15, []), (16, [])] (by decide +kernel) ?_; conv => whnf)
      | (refine RegX.rule (id := 9) hT rfl [] [(0, []), (1, [0]), (2, [0, 1]), (3, [0, 1, 2]), (4, [0, 1, 2]), (5, [0, 1, 2, 3, 4]), (6, [0, 1, 2, 3, 4, 5]), (7, [0, 1, 2, 3, 4, 5]), (9, [0, 1, 2, 3, 4, 5, 6, 7]), (10, [0, 1, 2, 3, 4, 5, 6, 7, 9]), (11, [0, 1, 2, 3, 4, 5, 6, 7]), (12, [0, 1, 2, 3, 4, 5, 6, 7]), (14, [0, 1, 2, 3, 4, 5, 6, 7, 9, 10, 11, 12]), (15, [0, 1, 2, 3, 4, 5, 6, 7, 9, 10, 11, 12]), (16, [0, 1, 2, 3, 4, 5, 6, 7, 9, 10, 11, 12, 14, 15]), (17, [0, 1, 2, 3, 4, 5, 6, 7, 9, 10, 11, 12, 14, 15, 16]), (18, [0, 1, 2, 3, 4, 5, 6, 7, 9, 10, 11, 12, 14, 15]), (19, [0, 1, 2, 3, 4, 5, 6, 7, 9, 10, 11, 12, 14, 15]), (20, [0, 1, 2, 3, 4, 5, 6, 7, 9, 10, 11, 12, 14, 15, 16, 17, 18, 19]), (21, [0, 1, 2, 3, 4, 5, 6, 7, 9, 10, 11, 12, 14, 15, 16, 17, 18, 19, 20]), (22, [0, 1, 2, 3, 4, 5, 6, 7, 9, 10, 11, 12, 14, 15, 16, 17, 18, 19]), (23, [0, 1, 2, 3, 4, 5, 6, 7, 9, 10, 11, 12, 14, 15, 16, 17, 18, 19]), (27, [0, 1, 2, 3, 4, 5, 6, 7, 9, 10, 11, 12, 14, 15, 16, 17, 18, 19, 20, 21, 22, 23]), (8, [0, 1, 2, 3, 4, 5, 9, 10, 11, 12, 14, 15, 16, 17, 18, 19, 20, 21, 22, 23, 27]), (13, [0, 1, 2, 3, 4, 5, 14, 15, 16, 17, 18, 19, 20, 21, 22, 23, 27]), (24, [0, 1, 2, 3, 4, 5, 14, 15, 27]), (25, [0, 1, 2, 3, 4, 5, 27]), (26, [0, 1, 2, 3, 4, 5, 27]), (28, [])] (by decide +kernel) ?_; conv => whnf)
      | (refine RegX.rule (id := 11) hT rfl [] [(0, []), (1, [0]), (2, [0, 1]), (3, [0, 1, 2]), (4, [0, 1, 2]), (5, [0, 1, 2, 3, 4]), (6, [0, 1, 2, 3, 4, 5]), (7, [0, 1, 2, 3, 4, 5, 6]), (8, [])] (by decide +kernel) ?_; conv => whnf)
      | omega
      | (refine And.intro ?_ ?_; ((try dsimp only); first | omega | (refine ⟨by omega, by omega, Int.le_trans (Int.mul_le_mul_of_nonneg_right (Int.ofNat_le.2 (Nat.le_of_ble_eq_true (rfl : Nat.ble _ 1024 = true))) (by omega)) (by omega), by omega⟩) | (refine Nat.le_trans (Nat.mul_le_mul_left _ (Nat.le_of_ble_eq_true (rfl : Nat.ble _ 1024 = true))) ?_; omega) | (unfold inI64; omega) | (constructor <;> omega) | (simp only [inI64, List.length_cons, List.length_append, List.length_nil, List.length_set] at *; omega) | decide | (unfold inI64; decide)); conv => whnf)
      | omega | decide | assumption)
    refine LoopX.rule hT (C := []) (ι := Nat) (fun j => j ≤ (likeM b m0).length) (fun j => mkSt [(1, .d (mrks a)), (2, .d (mrks b)), (3, .d (ints (rangeI i (d + 1)))), (4, .d (ints (toI (likeM b m0)))), (6, .ptr 1000006 0), (7, .ptr 7 0), (12, .ptr 12 0), (14, .d (.int .i64 i)), (36, .d (ints (toI (likeM b m0)))), (37, .d (.int .i64 (toI (likeM b m0)).length)), (38, .d (.int .i64 j))]
      [(7, .cells 76 ((ruF r).map .d)), (12, rcell now), (1000006, rcell (((likeM b m0).take j).foldl (stepM r a b d i now) st))]) (fun j => (likeM b m0).length - j) 0 (by omega) (by refine Entails.mk' [(7, 7), (12, 12), (1000006, 1000006)] rfl rfl ?_ ?_ <;> repeat' (first | exact True.intro | exact SV.le_refl _ | exact Res.le_refl _ | exact SV.le_int (by omega) | exact SV.le_any _ | refine And.intro ?_ ?_)) ?_
    rintro j p1
    have e1 : (j : Int).toNat = j := Int.toNat_natCast j
    have e2 : (i : Int).toNat = i := Int.toNat_natCast i
    have hfl := foldM_len (r := r) (a := a) (b := b) (i := i) (now := now) (st := st) (n := 60) (d := d) (by omega) hst ((likeM b m0).take j)
    obtain ⟨q, hq⟩ : ∃ q, q = ((likeM b m0).take j).foldl (stepM r a b d i now) st := ⟨_, rfl⟩
    rw [← hq] at hfl ⊢
    by_cases hj : j < (likeM b m0).length
    · have hkb : (likeM b m0).getD j 0 < b.length := likeM_lt hj
      have hK : ((toI (likeM b m0)).getD j 0) = (((likeM b m0).getD j 0 : Nat) : Int) := toI_get hj
      have hKi : ((toI (likeM b m0)).getD j 0) = ((((toI (likeM b m0)).getD j 0).toNat : Nat) : Int) := by omega
      have hkn : ((toI (likeM b m0)).getD j 0).toNat < b.length := by omega
      have hK' : (toI (likeM b m0)).getD (j : Int).toNat 0 = ((toI (likeM b m0)).getD j 0) := by rw [e1]
      have hstep : ((likeM b m0).take (j + 1)).foldl (stepM r a b d i now) st = if okM r a b i now.1 ((toI (likeM b m0)).getD j 0).toNat then mtch r a b d (i + 1) (now.1 ++ [⟨i, ((toI (likeM b m0)).getD j 0)⟩], now.2 + distM (a.getD i mk0) (b.getD ((toI (likeM b m0)).getD j 0).toNat mk0)) q else q := by
        rw [foldl_take _ 0 _ _ hj, ← hq, show (likeM b m0).getD j 0 = ((toI (likeM b m0)).getD j 0).toNat by omega]
        unfold stepM
        rw [← hKi]
      have hbk := hb2.2 ((toI (likeM b m0)).getD j 0).toNat hkn
      have h151 := z151 r (a.getD i mk0) (b.getD ((toI (likeM b m0)).getD j 0).toNat mk0) hr hai hbk
      have h152 := z152 (a.getD i mk0) (b.getD ((toI (likeM b m0)).getD j 0).toNat mk0) hai hbk
      have hdb := distM_bd (a := a.getD i mk0) (b := b.getD ((toI (likeM b m0)).getD j 0).toNat mk0) (by unfold mBd at hai; omega) (by unfold mBd at hbk; omega)
      have h146 := z146i ((toI (likeM b m0)).getD j 0) 232 now.1 (by omega) (fun p => p.b == ((toI (likeM b m0)).getD j 0)) (fun x _ => z232 x _)
      obtain ⟨m, hm⟩ : ∃ m : MSt, m = (now.1 ++ [⟨i, ((toI (likeM b m0)).getD j 0)⟩], now.2 + distM (a.getD i mk0) (b.getD ((toI (likeM b m0)).getD j 0).toNat mk0)) := ⟨_, rfl⟩
      have hm1 : nowOk (i + 1) m := by rw [hm, hKi]; exact nowOk_snoc hn hdb.1 hdb.2
      have hn2 := hn.2
      have h143 := ih (i + 1) m q (by omega) (fun j h1 h2 => hs j (by omega) (by omega)) hm1 hfl
      rw [← hm] at hstep
      have hu : usedM now.1 ((toI (likeM b m0)).getD j 0).toNat = now.1.any fun p => p.b == ((toI (likeM b m0)).getD j 0) := by unfold usedM; rw [← hKi]
      have hok : canB r (a.getD i mk0) (b.getD ((toI (likeM b m0)).getD j 0).toNat mk0) = true → (now.1.any fun p => p.b == ((toI (likeM b m0)).getD j 0)) = false → okM r a b i now.1 ((toI (likeM b m0)).getD j 0).toNat = true := fun q1 q2 => by
        unfold okM; rw [hu, q1, q2]; rfl
      have hno : canB r (a.getD i mk0) (b.getD ((toI (likeM b m0)).getD j 0).toNat mk0) = false ∨ (now.1.any fun p => p.b == ((toI (likeM b m0)).getD j 0)) = true → ¬ okM r a b i now.1 ((toI (likeM b m0)).getD j 0).toNat = true := fun q => by
        unfold okM; rw [hu]; rcases q with q | q <;> rw [q] <;> simp
      conv => whnf
      repeat' (first
        | (refine CallX.exact (h151) rfl rfl ?_; rotate_right; conv => whnf)
        | (refine CallX.of h146 [(1000001, 16)] rfl ⟨SV.le_refl _, SV.le_refl _, trivial⟩ ⟨Res.le_refl _, trivial⟩ rfl rfl ?_; rintro x rout ⟨rfl, rfl⟩; refine ⟨rfl, ?_⟩; conv => whnf)
        | (refine CallX.exact (h152) rfl rfl ?_; rotate_right; conv => whnf)
        | (refine CallX.of (z231r now.1 (by omega)) [(7, 67)] rfl ⟨SV.le_refl _, trivial⟩ trivial rfl rfl ?_; rintro x rout (⟨rfl, hl0, rfl⟩ | ⟨rfl, rfl⟩) <;> (refine ⟨rfl, ?_⟩; conv => whnf); conv => whnf)
        | (refine CallX.freeze _ _ _ _ 72 85 2 _ _ rfl rfl ?_; refine CallX.of h143 [(1000006, 1000006)] rfl ⟨SV.le_refl _, SV.le_refl _, SV.le_refl _, (show SV.le _ (.d (ints ((rangeI i (d + 1)).drop 1))) from SV.le_drop (by rw [List.length_drop]; omega)), SV.le_refl _, SV.le_agg ⟨by rw [hm]; first | exact SV.le_snocF (l := now.1) (x := ⟨i, ((toI (likeM b m0)).getD j 0)⟩) rfl | (rw [hl0]; exact SV.le_lit rfl rfl), SV.le_int (by rw [hm]), trivial⟩, SV.le_refl _, trivial⟩ ⟨Res.le_refl _, trivial⟩ rfl rfl ?_; rintro x rout ⟨rfl, rfl⟩; refine ⟨rfl, ?_⟩; conv => whnf)
        | (refine br_intro (fun hb => ?_) (fun hb => ?_) <;> (try simp only [decide_eq_true_eq, decide_eq_false_iff_not, Bool.not_eq_true', Bool.not_eq_false', Bool.and_eq_true, Bool.or_eq_true, beq_iff_eq, not_and, Int.not_le, Int.not_lt, Int.toNat_natCast, beq_eq_false_iff_ne, ne_eq, eq_self, not_true_eq_false, not_false_eq_true] at hb) <;> (conv => whnf))
        | (refine RegX.rule (id := 2) hT rfl [] [(0, []), (1, [0]), (2, [0]), (3, [0]), (4, [])] (by decide +kernel) ?_; conv => whnf)
        | (refine RegX.rule (id := 3) hT rfl [] [(0, []), (1, [0]), (2, [0]), (4, [0, 1, 2]), (5, [0, 1, 2]), (3, [0, 4, 5]), (6, [0]), (7, []), (8, [])] (by decide +kernel) ?_; conv => whnf)
        | (refine RegX.rule (id := 8) hT rfl [] [(0, []), (1, [0]), (2, [0, 1]), (3, [0]), (4, [0]), (5, [0, 1, 2, 3, 4]), (6, [0, 1, 2, 3, 4, 5]), (7, [0, 1, 2, 3, 4]), (8, [0, 1, 2, 3, 4]), (9, []), (10, []), (11, []), (12, []), (13, [11, 12]), (14, []), (15, []), (16, [])] (by decide +kernel) ?_; conv => whnf)
        | (refine RegX.rule (id := 9) hT rfl [] [(0, []), (1, [0]), (2, [0, 1]), (3, [0, 1, 2]), (4, [0, 1, 2]), (5, [0, 1, 2, 3, 4]), (6, [0, 1, 2, 3, 4, 5]), (7, [0, 1, 2, 3, 4, 5]), (9, [0, 1, 2, 3, 4, 5, 6, 7]), (10, [0, 1, 2, 3, 4, 5, 6, 7, 9]), (11, [0, 1, 2, 3, 4, 5, 6, 7]), (12, [0, 1, 2, 3, 4, 5, 6, 7]), (14, [0, 1, 2, 3, 4, 5, 6, 7, 9, 10, 11, 12]), (15, [0, 1, 2, 3, 4, 5, 6, 7, 9, 10, 11, 12]), (16, [0, 1, 2, 3, 4, 5, 6, 7, 9, 10, 11, 12, 14, 15]), (17, [0, 1, 2, 3, 4, 5, 6, 7, 9, 10, 11, 12, 14, 15, 16]), (18, [0, 1, 2, 3, 4, 5, 6, 7, 9, 10, 11, 12, 14, 15]), (19, [0, 1, 2, 3, 4, 5, 6, 7, 9, 10, 11, 12, 14, 15]), (20, [0, 1, 2, 3, 4, 5, 6, 7, 9, 10, 11, 12, 14, 15, 16, 17, 18, 19]), (21, [0, 1, 2, 3, 4, 5, 6, 7, 9, 10, 11, 12, 14, 15, 16, 17, 18, 19, 20]), (22, [0, 1, 2, 3, 4, 5, 6, 7, 9, 10, 11, 12, 14, 15, 16, 17, 18, 19]), (23, [0, 1, 2, 3, 4, 5, 6, 7, 9, 10, 11, 12, 14, 15, 16, 17, 18, 19]), (27, [0, 1, 2, 3, 4, 5, 6, 7, 9, 10, 11, 12, 14, 15, 16, 17, 18, 19, 20, 21, 22, 23]), (8, [0, 1, 2, 3, 4, 5, 9, 10, 11, 12, 14, 15, 16, 17, 18, 19, 20, 21, 22, 23, 27]), (13, [0, 1, 2, 3, 4, 5, 14, 15, 16, 17, 18, 19, 20, 21, 22, 23, 27]), (24, [0, 1, 2, 3, 4, 5, 14, 15, 27]), (25, [0, 1, 2, 3, 4, 5, 27]), (26, [0, 1, 2, 3, 4, 5, 27]), (28, [])] (by decide +kernel) ?_; conv => whnf)
        | (refine RegX.rule (id := 11) hT rfl [] [(0, []), (1, [0]), (2, [0, 1]), (3, [0, 1, 2]), (4, [0, 1, 2]), (5, [0, 1, 2, 3, 4]), (6, [0, 1, 2, 3, 4, 5]), (7, [0, 1, 2, 3, 4, 5, 6]), (8, [])] (by decide +kernel) ?_; conv => whnf)
        | omega
        | (refine And.intro ?_ ?_; ((try dsimp only); first | omega | (refine ⟨by omega, by omega, Int.le_trans (Int.mul_le_mul_of_nonneg_right (Int.ofNat_le.2 (Nat.le_of_ble_eq_true (rfl : Nat.ble _ 1024 = true))) (by omega)) (by omega), by omega⟩) | (refine Nat.le_trans (Nat.mul_le_mul_left _ (Nat.le_of_ble_eq_true (rfl : Nat.ble _ 1024 = true))) ?_; omega) | (unfold inI64; omega) | (constructor <;> omega) | (simp only [inI64, List.length_cons, List.length_append, List.length_nil, List.length_set] at *; omega) | decide | (unfold inI64; decide)); conv => whnf)
        | omega | decide | assumption)
      all_goals
        refine ⟨j + 1, by omega, by omega, ?_⟩
        rw [hstep]
        first
          | (rw [if_pos (hok (by assumption) (by assumption))]; exact (by refine Entails.mk' [(7, 7), (12, 12), (1000006, 1000006)] rfl rfl ?_ ?_ <;> repeat' (first | exact True.intro | exact SV.le_refl _ | exact Res.le_refl _ | exact SV.le_int (by omega) | exact SV.le_any _ | refine And.intro ?_ ?_)))
          | (rw [if_neg (hno (.inl (by assumption)))]; exact (by refine Entails.mk' [(7, 7), (12, 12), (1000006, 1000006)] rfl rfl ?_ ?_ <;> repeat' (first | exact True.intro | exact SV.le_refl _ | exact Res.le_refl _ | exact SV.le_int (by omega) | exact SV.le_any _ | refine And.intro ?_ ?_)))
          | (rw [if_neg (hno (.inr (by assumption)))]; exact (by refine Entails.mk' [(7, 7), (12, 12), (1000006, 1000006)] rfl rfl ?_ ?_ <;> repeat' (first | exact True.intro | exact SV.le_refl _ | exact Res.le_refl _ | exact SV.le_int (by omega) | exact SV.le_any _ | refine And.intro ?_ ?_)))
    · obtain rfl : j = (likeM b m0).length := by omega
      rw [List.take_length] at hq
      have h143 := ih (i + 1) now q (by omega) (fun j h1 h2 => hs j (by omega) (by omega)) (nowOk_up hn) hfl
      conv => whnf
      repeat' (first
        | (refine CallX.of h143 [(1000006, 1000006)] rfl ⟨SV.le_refl _, SV.le_refl _, SV.le_refl _, (show SV.le _ (.d (ints ((rangeI i (d + 1)).drop 1))) from SV.le_drop (by rw [List.length_drop]; omega)), SV.le_refl _, SV.le_refl _, SV.le_refl _, trivial⟩ ⟨Res.le_refl _, trivial⟩ rfl rfl ?_; rintro x rout ⟨rfl, rfl⟩; refine ⟨rfl, ?_⟩; conv => whnf)
        | (refine br_intro (fun hb => ?_) (fun hb => ?_) <;> (try simp only [decide_eq_true_eq, decide_eq_false_iff_not, Bool.not_eq_true', Bool.not_eq_false', Bool.and_eq_true, Bool.or_eq_true, beq_iff_eq, not_and, Int.not_le, Int.not_lt, Int.toNat_natCast, beq_eq_false_iff_ne, ne_eq, eq_self, not_true_eq_false, not_false_eq_true] at hb) <;> (conv => whnf))
        | (refine RegX.rule (id := 2) hT rfl [] [(0, []), (1, [0]), (2, [0]), (3, [0]), (4, [])] (by decide +kernel) ?_; conv => whnf)
        | (refine RegX.rule (id := 3) hT rfl [] [(0, []), (1, [0]), (2, [0]), (4, [0, 1, 2]), (5, [0, 1, 2]), (3, [0, 4, 5]), (6, [0]), (7, []), (8, [])] (by decide +kernel) ?_; conv => whnf)
        | (refine RegX.rule (id := 8) hT rfl [] [(0, []), (1, [0]), (2, [0, 1]), (3, [0]), (4, [0]), (5, [0, 1, 2, 3, 4]), (6, [0, 1, 2, 3, 4, 5]), (7, [0, 1, 2, 3, 4]), (8, [0, 1, 2, 3, 4]), (9, []), (10, []), (11, []), (12, []), (13, [11, 12]), (14, []), (15, []), (16, [])] (by decide +kernel) ?_; conv => whnf)
        | (refine RegX.rule (id := 9) hT rfl [] [(0, []), (1, [0]), (2, [0, 1]), (3, [0, 1, 2]), (4, [0, 1, 2]), (5, [0, 1, 2, 3, 4]), (6, [0, 1, 2, 3, 4, 5]), (7, [0, 1, 2, 3, 4, 5]), (9, [0, 1, 2, 3, 4, 5, 6, 7]), (10, [0, 1, 2, 3, 4, 5, 6, 7, 9]), (11, [0, 1, 2, 3, 4, 5, 6, 7]), (12, [0, 1, 2, 3, 4, 5, 6, 7]), (14, [0, 1, 2, 3, 4, 5, 6, 7, 9, 10, 11, 12]), (15, [0, 1, 2, 3, 4, 5, 6, 7, 9, 10, 11, 12]), (16, [0, 1, 2, 3, 4, 5, 6, 7, 9, 10, 11, 12, 14, 15]), (17, [0, 1, 2, 3, 4, 5, 6, 7, 9, 10, 11, 12, 14, 15, 16]), (18, [0, 1, 2, 3, 4, 5, 6, 7, 9, 10, 11, 12, 14, 15]), (19, [0, 1, 2, 3, 4, 5, 6, 7, 9, 10, 11, 12, 14, 15]), (20, [0, 1, 2, 3, 4, 5, 6, 7, 9, 10, 11, 12, 14, 15, 16, 17, 18, 19]), (21, [0, 1, 2, 3, 4, 5, 6, 7, 9, 10, 11, 12, 14, 15, 16, 17, 18, 19, 20]), (22, [0, 1, 2, 3, 4, 5, 6, 7, 9, 10, 11, 12, 14, 15, 16, 17, 18, 19]), (23, [0, 1, 2, 3, 4, 5, 6, 7, 9, 10, 11, 12, 14, 15, 16, 17, 18, 19]), (27, [0, 1, 2, 3, 4, 5, 6, 7, 9, 10, 11, 12, 14, 15, 16, 17, 18, 19, 20, 21, 22, 23]), (8, [0, 1, 2, 3, 4, 5, 9, 10, 11, 12, 14, 15, 16, 17, 18, 19, 20, 21, 22, 23, 27]), (13, [0, 1, 2, 3, 4, 5, 14, 15, 16, 17, 18, 19, 20, 21, 22, 23, 27]), (24, [0, 1, 2, 3, 4, 5, 14, 15, 27]), (25, [0, 1, 2, 3, 4, 5, 27]), (26, [0, 1, 2, 3, 4, 5, 27]), (28, [])] (by decide +kernel) ?_; conv => whnf)
        | (refine RegX.rule (id := 11) hT rfl [] [(0, []), (1, [0]), (2, [0, 1]), (3, [0, 1, 2]), (4, [0, 1, 2]), (5, [0, 1, 2, 3, 4]), (6, [0, 1, 2, 3, 4, 5]), (7, [0, 1, 2, 3, 4, 5, 6]), (8, [])] (by decide +kernel) ?_; conv => whnf)
        | omega
        | (refine And.intro ?_ ?_; ((try dsimp only); first | omega | (refine ⟨by omega, by omega, Int.le_trans (Int.mul_le_mul_of_nonneg_right (Int.ofNat_le.2 (Nat.le_of_ble_eq_true (rfl : Nat.ble _ 1024 = true))) (by omega)) (by omega), by omega⟩) | (refine Nat.le_trans (Nat.mul_le_mul_left _ (Nat.le_of_ble_eq_true (rfl : Nat.ble _ 1024 = true))) ?_; omega) | (unfold inI64; omega) | (constructor <;> omega) | (simp only [inI64, List.length_cons, List.length_append, List.length_nil, List.length_set] at *; omega) | decide | (unfold inI64; decide)); conv => whnf)
        | omega | decide | assumption)
      refine .ret _ ?_
      conv => whnf
      rw [← hq]
      exact ⟨_, ⟨rfl, rfl⟩, Res.le_refl _, trivial⟩
end Go.Proofs.YtnkdlkgannnfhaaGreatDoor
set_option maxRecDepth 20000
namespace Go.Proofs.YtnkdlkgannnfhaaGreatDoor
open Go Go.Eng
-- slices.CompareFunc of pairings, of an own row
theorem z281o (g : FuncId) (l m : List Prg) (hl : l.length ≤ 2^40) (hm : m.length ≤ 2^40)
    (hg : ∀ p q, FSpec Tryz.prog g [.agg ((prF p).map .d), .agg ((prF q).map .d)] [] (fun x r => x = .d (.int .i64 (cmpPr p q)) ∧ r = [])) :
    FSpec Tryz.prog 281 [.buf 1000001, .d (prgs m), .fn g []] [(1000001, prB l)] (fun x r => x = .d (.int .i64 (cmpPL l m)) ∧ r = [(1000001, prB l)]) := by
  refine spec_of hT (C := []) Tryz.func281 rfl Tryz.call281 rfl rfl rfl ?_
  conv => whnf
  refine LoopX.rule hT (C := []) (ι := Nat) (fun i => i ≤ l.length ∧ i ≤ m.length ∧ cmpPL l m = cmpPL (l.drop i) (m.drop i)) (fun i => mkSt [(0, .buf 1000001), (1, .d (prgs m)), (2, .fn g []), (11, .buf 1000001), (12, .d (.int .i64 l.length)), (13, .d (.int .i64 i))] [(1000001, prB l)]) (fun i => l.length - i) 0 ⟨by omega, by omega, by simp⟩ (by refine Entails.mk' [(1000001, 1000001)] rfl rfl ?_ ?_ <;> repeat' (first | exact True.intro | exact SV.le_refl _ | exact Res.le_refl _ | exact SV.le_int (by omega) | exact SV.le_any _ | refine And.intro ?_ ?_)) ?_
  rintro i ⟨p1, p2, p3⟩
  have hd : i < l.length → l.drop i = l.getD i pr0 :: l.drop (i + 1) := fun hi => by rw [List.drop_eq_getElem_cons hi, List.getD_eq_getElem?_getD, List.getElem?_eq_getElem hi]; rfl
  have hd2 : i < m.length → m.drop i = m.getD i pr0 :: m.drop (i + 1) := fun hi => by rw [List.drop_eq_getElem_cons hi, List.getD_eq_getElem?_getD, List.getElem?_eq_getElem hi]; rfl
  have e1 : (i : Int).toNat = i := Int.toNat_natCast i
  conv => whnf
  repeat' (first
    | (refine CallX.exact (hg (l.getD (i : Int).toNat pr0) (m.getD (i : Int).toNat pr0)) rfl rfl ?_; rotate_right; conv => whnf)
    | (refine br_intro (fun hb => ?_) (fun hb => ?_) <;> (try simp only [decide_eq_true_eq, decide_eq_false_iff_not, Bool.not_eq_true', Bool.not_eq_false', Bool.and_eq_true, Bool.or_eq_true, beq_iff_eq, not_and, Int.not_le, Int.not_lt, Int.toNat_natCast, beq_eq_false_iff_ne, ne_eq, eq_self, not_true_eq_false, not_false_eq_true] at hb) <;> (conv => whnf))
    | omega
    | (refine And.intro ?_ ?_; ((try dsimp only); first | omega | (refine ⟨by omega, by omega, Int.le_trans (Int.mul_le_mul_of_nonneg_right (Int.ofNat_le.2 (Nat.le_of_ble_eq_true (rfl : Nat.ble _ 1024 = true))) (by omega)) (by omega), by omega⟩) | (refine Nat.le_trans (Nat.mul_le_mul_left _ (Nat.le_of_ble_eq_true (rfl : Nat.ble _ 1024 = true))) ?_; omega) | (unfold inI64; omega) | (constructor <;> omega) | (simp only [inI64, List.length_cons, List.length_append, List.length_nil, List.length_set] at *; omega) | decide | (unfold inI64; decide)); conv => whnf)
    | omega | decide | assumption)
  · refine .ret _ ?_
    conv => whnf
    refine ⟨_, ⟨?_, rfl⟩, Res.le_refl _, trivial⟩
    conv => lhs; whnf
    congr 2
    rw [p3, hd (by omega), List.drop_eq_nil_iff.2 (by omega : m.length ≤ i)]; rfl
  · refine .ret _ ?_
    conv => whnf
    refine ⟨_, ⟨?_, rfl⟩, Res.le_refl _, trivial⟩
    conv => lhs; whnf
    congr 2
    rw [p3, hd (by omega), hd2 (by omega), cmpPL, if_pos (by simpa using hb)]; simp only [e1]
  · refine ⟨i + 1, ⟨by omega, by omega, ?_⟩, by omega, (by refine Entails.mk' [(1000001, 1000001)] rfl rfl ?_ ?_ <;> repeat' (first | exact True.intro | exact SV.le_refl _ | exact Res.le_refl _ | exact SV.le_int (by omega) | exact SV.le_any _ | refine And.intro ?_ ?_))⟩
    rw [p3, hd (by omega), hd2 (by omega), cmpPL, if_neg (by simpa using hb)]
  · refine .ret _ ?_
    conv => whnf
    refine ⟨_, ⟨?_, rfl⟩, Res.le_refl _, trivial⟩
    conv => lhs; whnf
    congr 2
    have hm : i < m.length := by omega
    rw [p3, hd2 hm, List.drop_eq_nil_iff.2 (by omega : l.length ≤ i)]; rfl
  · refine .ret _ ?_
    conv => whnf
    refine ⟨_, ⟨?_, rfl⟩, Res.le_refl _, trivial⟩
    conv => lhs; whnf
    congr 2
    rw [p3, List.drop_eq_nil_iff.2 (by omega : m.length ≤ i), List.drop_eq_nil_iff.2 (by omega : l.length ≤ i)]; rfl
def usedL (n : Nat) (l : List Prg) : List Bool := (List.range n).map (usedM l)
theorem usedL_len (n : Nat) (l : List Prg) : (usedL n l).length = n := by simp [usedL]
theorem usedL_get {n k : Nat} (l : List Prg) (h : k < n) : (usedL n l).getD k false = usedM l k := by
  rw [List.getD_eq_getElem?_getD]; simp [usedL, h]
theorem usedM_snoc (l : List Prg) (i k j : Nat) : usedM (l ++ [⟨i, k⟩]) j = (usedM l j || decide (k = j)) := by
  unfold usedM
  rw [List.any_append]
  congr 1
  rw [Bool.eq_iff_iff]
  simp
  omega
theorem usedL_snoc {n i k : Nat} {l : List Prg} (h : k < n) : (usedL n l).set k true = usedL n (l ++ [⟨i, k⟩]) := by
  apply List.ext_getElem
  · simp [usedL]
  intro j h1 h2
  rw [List.getElem_set]
  have e : (usedL n (l ++ [⟨i, k⟩]))[j] = usedM (l ++ [⟨i, k⟩]) j := by simp [usedL]
  rw [e, usedM_snoc]
  split
  · rename_i q; simp [q]
  · rename_i q; simp [usedL, q]
theorem usedL_back {n i k : Nat} {l : List Prg} (h : k < n) (hu : usedM l k = false) : (usedL n (l ++ [⟨i, k⟩])).set k false = usedL n l := by
  apply List.ext_getElem
  · simp [usedL]
  intro j h1 h2
  rw [List.getElem_set]
  have e : (usedL n l)[j] = usedM l j := by simp [usedL]
  rw [e]
  split
  · rename_i q; rw [← q, hu]
  · rename_i q
    have e2 : (usedL n (l ++ [⟨i, k⟩]))[j]'(by simpa [usedL] using h1) = usedM (l ++ [⟨i, k⟩]) j := by simp [usedL]
    rw [e2, usedM_snoc]; simp [q]
abbrev mtX (r : Rul) (a b : List Mrk) (fr to : Nat) (now : SV) (st : MSt) (sum : Int) (f : Bool) : Res :=
  .cells 298 [.d (.int .i64 r.near), .d (.int .i64 r.slack), .d (.int .i64 r.join), .d (.int .i64 r.part), .d (mrks a), .d (mrks b), .d (.int .i64 fr), .d (.int .i64 to), .buf 1000001, now, .d (prgs st.1), .d (.int .i64 sum), .d (.int .i64 st.2), .d (.bool f)]
abbrev mtR (r : Rul) (a b : List Mrk) (fr to : Nat) (nm : Nat) (now st : MSt) (f : Bool) : List (Nat × Res) :=
  [(1000000, mtX r a b fr to (.buf nm) st now.2 f), (nm, prB now.1), (1000001, seqB 4 1 bF false (usedL b.length now.1))]
theorem cmp_beats (m o : MSt) : firstE [cmpI o.1.length m.1.length, cmpI m.2 o.2, cmpPL m.1 o.1] < 0 ↔ beatsM m o = true := by
  unfold beatsM
  simp only [firstE, cmpI]
  grind
def fOk (f : Bool) (st : MSt) : Prop := f = false → st = ([], 0)
theorem mtch_leaf {r : Rul} {a b : List Mrk} {i : Nat} {now st : MSt} {f : Bool} (hf : fOk f st) (hn : now.1 = [] → now.2 = 0) : mtch r a b 0 i now st = if f = false ∨ beatsM now st = true then now else st := by
  rw [mtch]
  by_cases q : beatsM now st = true
  · rw [if_pos q, if_pos (.inr q)]
  · rw [if_neg q]
    by_cases q2 : f = false
    · rw [if_pos (.inl q2)]
      have h0 := hf q2
      subst h0
      have h1 : now.1 = [] := by
        by_cases e : now.1.length = 0
        · exact List.eq_nil_of_length_eq_zero e
        · exfalso; apply q; unfold beatsM; rw [if_pos (by simpa using e)]; simp; omega
      have h2 := hn h1
      cases now
      simp only at h1 h2
      rw [h1, h2]
    · rw [if_neg (by intro h; rcases h with h | h; exact q2 h; exact q h)]

-- look, at the leaves
set_option maxHeartbeats 4000000 in
theorem z233z (r : Rul) (a b : List Mrk) (fr to : Nat) (now st : MSt) (f : Bool) (hto : to ≤ 60) (hf : fOk f st) (hn : now.1 = [] → now.2 = 0) (hl : now.1.length ≤ to) (hst : st.1.length ≤ 60) :
    FSpec Tryz.prog 233 [.ptr 1000000 0, .d (.int .i64 to)] (mtR r a b fr to 1000002 now st f) (fun y r' => y = .tup [] ∧ ∃ nm, (nm = 1000002 ∨ nm = 60) ∧ r' = mtR r a b fr to nm now (mtch r a b 0 to now st) true) := by
  have hlf := mtch_leaf (r := r) (a := a) (b := b) (i := to) hf hn
  have h281 := z281o 283 now.1 st.1 (by omega) (by omega) (fun p q => z283 p q)
  have h196 := s182 [cmpI st.1.length now.1.length, cmpI now.2 st.2, cmpPL now.1 st.1] (by simp)
  have hcb := cmp_beats now st
  cases f
  all_goals
    refine spec_of hT (C := []) Tryz.func233 rfl Tryz.call233 rfl rfl rfl ?_
    conv => whnf
    repeat' (first
      | (refine CallX.exact (s183 _ _) rfl rfl ?_; rotate_right; conv => whnf)
      | (refine CallX.of h281 [(1000001, 1000002)] rfl ⟨SV.le_refl _, SV.le_refl _, SV.le_refl _, trivial⟩ ⟨Res.le_refl _, trivial⟩ rfl rfl ?_; rintro x rout ⟨rfl, rfl⟩; refine ⟨rfl, ?_⟩; conv => whnf)
      | (refine CallX.pure h196 ⟨SV.le_lit (by rfl) (by rfl), trivial⟩ rfl ?_; conv => whnf)
      | (refine CallX.of (z231 now.1 (by omega)) [(1000001, 1000002)] rfl ⟨SV.le_refl _, trivial⟩ ⟨Res.le_refl _, trivial⟩ rfl rfl ?_; rintro x rout ⟨rfl, rfl⟩; refine ⟨rfl, ?_⟩; conv => whnf)
      | (refine br_intro (fun hb => ?_) (fun hb => ?_) <;> (try simp only [decide_eq_true_eq, decide_eq_false_iff_not, Bool.not_eq_true', Bool.not_eq_false', Bool.and_eq_true, Bool.or_eq_true, beq_iff_eq, not_and, Int.not_le, Int.not_lt, Int.toNat_natCast, beq_eq_false_iff_ne, ne_eq, eq_self, not_true_eq_false, not_false_eq_true] at hb) <;> (conv => whnf))
      | (refine RegX.rule (id := 0) hT rfl [] [(0, []), (1, []), (2, []), (3, []), (4, []), (5, []), (6, []), (7, []), (8, []), (9, []), (10, [5, 6, 7, 8, 9]), (11, [5, 6, 7, 8, 9]), (12, [5, 6, 7, 8, 9]), (13, [5, 6, 7, 8, 9]), (14, []), (15, [5, 6, 7, 8, 9, 10, 11, 12, 13, 14]), (16, []), (17, [5, 6, 7, 8, 9, 10, 11, 12, 13, 14, 15, 16]), (18, [5, 6, 7, 8, 9, 10, 11, 12, 13, 14, 15, 16]), (19, [5, 6, 7, 8, 9, 10, 11, 12, 13, 14, 15, 16]), (20, [5, 6, 7, 8, 9, 10, 11, 12, 13, 14, 15, 16]), (21, [5, 6, 7, 8, 9, 10, 11, 12, 13, 14, 15, 16]), (22, []), (23, [])] (by decide +kernel) ?_; conv => whnf)
      | (refine RegX.rule (id := 2) hT rfl [] [(0, []), (1, []), (2, []), (3, []), (4, []), (5, [0, 1, 2, 3, 4]), (6, [0, 1, 2, 3, 4]), (7, [0, 1, 2, 3, 4]), (8, [0, 1, 2, 3, 4]), (9, [0, 1, 2, 3, 4]), (11, [0, 1, 2, 3, 4, 5, 6, 7, 8, 9]), (12, [0, 1, 2, 3, 4, 5, 6, 7, 8, 9]), (13, [0, 1, 2, 3, 4, 5, 6, 7, 8, 9]), (14, [0, 1, 2, 3, 4, 5, 6, 7, 8, 9]), (15, [0, 1, 2, 3, 4, 5, 6, 7, 8, 9, 11, 12, 13, 14]), (16, [0, 1, 2, 3, 4, 5, 6, 7, 8, 9, 11, 12, 13, 14]), (17, [0, 1, 2, 3, 4, 5, 6, 7, 8, 9, 11, 12, 13, 14]), (18, [0, 1, 2, 3, 4, 5, 6, 7, 8, 9, 11, 12, 13, 14]), (20, [0, 1, 2, 3, 4, 5, 6, 7, 8, 9, 11, 12, 13, 14, 15, 16, 17, 18]), (21, [0, 1, 2, 3, 4, 5, 6, 7, 8, 9, 11, 12, 13, 14, 15, 16, 17, 18]), (22, [0, 1, 2, 3, 4, 5, 6, 7, 8, 9, 11, 12, 13, 14, 15, 16, 17, 18]), (23, [0, 1, 2, 3, 4, 5, 6, 7, 8, 9, 11, 12, 13, 14, 15, 16, 17, 18]), (24, [0, 1, 2, 3, 4, 5, 6, 7, 8, 9, 11, 12, 13, 14, 15, 16, 17, 18, 20, 21, 22, 23]), (25, [0, 1, 2, 3, 4, 5, 6, 7, 8, 9, 11, 12, 13, 14, 15, 16, 17, 18, 20, 21, 22, 23]), (26, [0, 1, 2, 3, 4, 5, 6, 7, 8, 9, 11, 12, 13, 14, 15, 16, 17, 18, 20, 21, 22, 23]), (27, [0, 1, 2, 3, 4, 5, 6, 7, 8, 9, 11, 12, 13, 14, 15, 16, 17, 18, 20, 21, 22, 23]), (10, [11, 12, 13, 14, 15, 16, 17, 18, 20, 21, 22, 23, 24, 25, 26, 27]), (19, [20, 21, 22, 23, 24, 25, 26, 27]), (28, []), (29, []), (30, []), (31, [])] (by decide +kernel) ?_; conv => whnf)
      | (refine RegX.rule (id := 4) hT rfl [] [(0, []), (1, [0]), (2, [0, 1]), (3, [0, 1, 2]), (4, [0, 1, 2]), (5, [0, 1, 2]), (6, [0, 1, 2]), (8, [0, 1, 2, 3, 4, 5, 6]), (9, [0, 1, 2, 3, 4, 5, 6]), (10, [0, 1, 2, 3, 4, 5, 6]), (11, [0, 1, 2, 3, 4, 5, 6]), (7, [0, 1, 2, 8, 9, 10, 11]), (12, [1, 2]), (13, [1, 2]), (14, [1, 2]), (15, [2]), (16, [2]), (17, [2]), (18, []), (19, []), (20, [])] (by decide +kernel) ?_; conv => whnf)
      | (refine RegX.rule (id := 8) hT rfl [] [(0, []), (1, []), (2, []), (3, []), (4, [0, 1, 2, 3]), (5, []), (6, []), (7, []), (8, []), (9, []), (10, []), (11, []), (12, [8, 9, 10, 11]), (13, [8, 9, 10, 11]), (14, [8, 9, 10, 11]), (15, [8, 9, 10, 11]), (16, [8, 9, 10, 11, 12, 13, 14, 15]), (17, [8, 9, 10, 11]), (18, [8, 9, 10, 11]), (19, [8, 9, 10, 11, 12, 13, 14, 15, 16, 17, 18]), (20, []), (21, []), (22, [])] (by decide +kernel) ?_; conv => whnf)
      | (refine RegX.rule (id := 9) hT rfl [] [(0, []), (1, []), (2, []), (3, []), (4, [0, 1, 2, 3]), (5, []), (6, []), (7, [0, 1, 2, 3, 4, 5, 6]), (8, []), (9, [])] (by decide +kernel) ?_; conv => whnf)
      | (refine RegX.rule (id := 10) hT rfl [] [(0, []), (1, []), (2, []), (3, []), (4, [0, 1, 2, 3]), (5, [0, 1, 2, 3, 4]), (6, [0, 1, 2, 3, 4, 5]), (7, [0, 1, 2, 3, 4, 5, 6]), (8, [0, 1, 2, 3, 4, 5, 6]), (9, [0, 1, 2, 3, 4, 5, 6]), (10, [0, 1, 2, 3, 4, 5, 6]), (11, [0, 1, 2, 3, 4, 5, 6, 7, 8, 9, 10]), (12, [0, 1, 2, 3, 4, 5, 6]), (13, [0, 1, 2, 3, 4, 5, 6, 7, 8, 9, 10, 11, 12]), (14, [0, 1, 2, 3, 4, 5, 6, 7, 8, 9, 10, 11, 12]), (15, [0, 1, 2, 3, 4, 5, 6, 7, 8, 9, 10, 11, 12]), (16, [0, 1, 2, 3, 4, 5, 6, 7, 8, 9, 10, 11, 12]), (17, [0, 1, 2, 3, 4, 5, 6, 7, 8, 9, 10, 11, 12, 13, 14, 15, 16]), (18, [0, 1, 2, 3, 4, 5, 6, 7, 8, 9, 10, 11, 12, 13, 14, 15, 16, 17]), (19, [0, 1, 2, 3, 4, 5, 6, 7, 8, 9, 10, 11, 12, 13, 14, 15, 16]), (20, [0, 1, 2, 3, 4, 5, 6, 7, 8, 9, 10, 11, 12, 13, 14, 15, 16]), (21, [0, 1, 2, 3, 4, 5, 6, 7, 8, 9, 10, 11, 12]), (22, [5, 6, 11, 12]), (23, [5, 6, 11, 12]), (24, [6]), (25, [6]), (26, [6]), (27, []), (28, []), (29, [])] (by decide +kernel) ?_; conv => whnf)
      | (refine RegX.rule (id := 12) hT rfl [] [(0, []), (1, []), (2, []), (3, []), (4, [0, 1, 2, 3]), (5, [0, 1, 2, 3, 4]), (6, [0, 1, 2, 3, 4, 5]), (7, [0, 1, 2, 3, 4, 5, 6]), (8, [0, 1, 2, 3, 4, 5, 6]), (9, [0, 1, 2, 3, 4, 5, 6]), (10, [0, 1, 2, 3, 4, 5, 6]), (11, [0, 1, 2, 3, 4, 5, 6, 7, 8, 9, 10]), (12, [0, 1, 2, 3, 4, 5, 6]), (13, [0, 1, 2, 3, 4, 5, 6, 7, 8, 9, 10, 11, 12]), (14, [0, 1, 2, 3, 4, 5, 6, 7, 8, 9, 10, 11, 12]), (15, [0, 1, 2, 3, 4, 5, 6, 7, 8, 9, 10, 11, 12]), (16, [0, 1, 2, 3, 4, 5, 6, 7, 8, 9, 10, 11, 12]), (17, [0, 1, 2, 3, 4, 5, 6, 7, 8, 9, 10, 11, 12, 13, 14, 15, 16]), (18, [0, 1, 2, 3, 4, 5, 6, 7, 8, 9, 10, 11, 12, 13, 14, 15, 16]), (19, [0, 1, 2, 3, 4, 5, 6, 7, 8, 9, 10, 11, 12, 13, 14, 15, 16]), (20, [0, 1, 2, 3, 4, 5, 6, 7, 8, 9, 10, 11, 12, 13, 14, 15, 16]), (21, [0, 1, 2, 3, 4, 5, 6, 7, 8, 9, 10, 11, 12, 13, 14, 15, 16]), (22, [0, 1, 2, 3, 4, 5, 6, 7, 8, 9, 10, 11, 12, 13, 14, 15, 16]), (23, [0, 1, 2, 3, 4, 5, 6, 7, 8, 9, 10, 11, 12]), (24, [5, 6, 11, 12, 21, 22, 23]), (25, [5, 6, 11, 12, 21, 22, 23]), (26, [6, 21, 22, 23]), (27, [6, 21, 22, 23]), (28, [6, 21, 22, 23]), (29, []), (30, []), (31, [])] (by decide +kernel) ?_; conv => whnf)
      | omega
      | (refine And.intro ?_ ?_; ((try dsimp only); first | omega | (refine ⟨by omega, by omega, Int.le_trans (Int.mul_le_mul_of_nonneg_right (Int.ofNat_le.2 (Nat.le_of_ble_eq_true (rfl : Nat.ble _ 1024 = true))) (by omega)) (by omega), by omega⟩) | (refine Nat.le_trans (Nat.mul_le_mul_left _ (Nat.le_of_ble_eq_true (rfl : Nat.ble _ 1024 = true))) ?_; omega) | (unfold inI64; omega) | (constructor <;> omega) | (simp only [inI64, List.length_cons, List.length_append, List.length_nil, List.length_set] at *; omega) | decide | (unfold inI64; decide)); conv => whnf)
      | omega | decide | assumption)
  all_goals
    refine .ret _ ?_
    (conv => whnf)
    first
      | (rw [show mtch r a b 0 to now st = st from mtch_prune 0 to now st (by omega)]
         exact ⟨_, ⟨rfl, 1000002, .inl rfl, rfl⟩, Res.le_refl _, Res.le_refl _, Res.le_refl _, trivial⟩)
      | (rw [hlf, if_pos (.inl rfl)]
         exact ⟨_, ⟨rfl, 1000002, .inl rfl, rfl⟩, Res.le_refl _, Res.le_refl _, Res.le_refl _, trivial⟩)
      | (rw [hlf, if_pos (.inr (hcb.1 (by assumption)))]
         exact ⟨_, ⟨rfl, 1000002, .inl rfl, rfl⟩, Res.le_refl _, Res.le_refl _, Res.le_refl _, trivial⟩)
      | (rw [hlf, if_neg (by intro h; rcases h with h | h; cases h; have := hcb.2 h; omega)]
         exact ⟨_, ⟨rfl, 1000002, .inl rfl, rfl⟩, Res.le_refl _, Res.le_refl _, Res.le_refl _, trivial⟩)
end Go.Proofs.YtnkdlkgannnfhaaGreatDoor
set_option maxRecDepth 20000
namespace Go.Proofs.YtnkdlkgannnfhaaGreatDoor
open Go Go.Eng
theorem foldM_ok {r : Rul} {a b : List Mrk} {d i : Nat} {now st : MSt} (k : Nat) : (List.range (k + 1)).foldl (stepM r a b d i now) st = stepM r a b d i now ((List.range k).foldl (stepM r a b d i now) st) k := foldl_range_succ _ _ _
-- look
set_option maxHeartbeats 16000000 in
theorem z233 (r : Rul) (a b : List Mrk) (fr to : Nat) (hr : rBd r) (ha : a.length ≤ 60 ∧ ∀ i, i < a.length → mBd (a.getD i mk0)) (hb2 : b.length ≤ 60 ∧ ∀ i, i < b.length → mBd (b.getD i mk0)) (hto : to ≤ a.length) :
    ∀ (d i : Nat) (now st : MSt) (f : Bool), i + d = to → nowOk i now → (now.1 = [] → now.2 = 0) → fOk f st → st.1.length ≤ 60 →
    FSpec Tryz.prog 233 [.ptr 1000000 0, .d (.int .i64 i)] (mtR r a b fr to 1000002 now st f) (fun y r' => y = .tup [] ∧ ∃ nm, (nm = 1000002 ∨ nm = 60) ∧ r' = mtR r a b fr to nm now (mtch r a b d i now st) true) := by
  intro d
  induction d with
  | zero =>
    intro i now st f hd hn hz hf hst
    obtain rfl : i = to := by omega
    exact z233z r a b fr i now st f (by omega) hf hz hn.1 hst
  | succ d ih =>
    intro i now st f hd hn hz hf hst
    have hn1 := hn.1
    have hn2 := hn.2
    have hai := ha.2 i (by omega)
    have hb60 := hb2.1
    have hul := usedL_len b.length now.1
    have main : ∀ f, fOk f st → (f = true → st.1.length ≤ now.1.length + (d + 1)) → FSpec Tryz.prog 233 [.ptr 1000000 0, .d (.int .i64 i)] (mtR r a b fr to 1000002 now st f) (fun y r' => y = .tup [] ∧ ∃ nm, (nm = 1000002 ∨ nm = 60) ∧ r' = mtR r a b fr to nm now (mtch r a b (d + 1) i now st) true) := by
      intro f hf hp
      rw [mtch_succ]
      cases f
      all_goals
        try have hp := hp rfl
        refine spec_of hT (C := []) Tryz.func233 rfl Tryz.call233 rfl rfl rfl ?_
        conv => whnf
        repeat' (first
          | (refine br_intro (fun hb => ?_) (fun hb => ?_) <;> (try simp only [decide_eq_true_eq, decide_eq_false_iff_not, Bool.not_eq_true', Bool.not_eq_false', Bool.and_eq_true, Bool.or_eq_true, beq_iff_eq, not_and, Int.not_le, Int.not_lt, Int.toNat_natCast, beq_eq_false_iff_ne, ne_eq, eq_self, not_true_eq_false, not_false_eq_true] at hb) <;> (conv => whnf))
          | (refine RegX.rule (id := 0) hT rfl [] [(0, []), (1, []), (2, []), (3, []), (4, []), (5, []), (6, []), (7, []), (8, []), (9, []), (10, [5, 6, 7, 8, 9]), (11, [5, 6, 7, 8, 9]), (12, [5, 6, 7, 8, 9]), (13, [5, 6, 7, 8, 9]), (14, []), (15, [5, 6, 7, 8, 9, 10, 11, 12, 13, 14]), (16, []), (17, [5, 6, 7, 8, 9, 10, 11, 12, 13, 14, 15, 16]), (18, [5, 6, 7, 8, 9, 10, 11, 12, 13, 14, 15, 16]), (19, [5, 6, 7, 8, 9, 10, 11, 12, 13, 14, 15, 16]), (20, [5, 6, 7, 8, 9, 10, 11, 12, 13, 14, 15, 16]), (21, [5, 6, 7, 8, 9, 10, 11, 12, 13, 14, 15, 16]), (22, []), (23, [])] (by decide +kernel) ?_; conv => whnf)
          | (refine RegX.rule (id := 2) hT rfl [] [(0, []), (1, []), (2, []), (3, []), (4, []), (5, [0, 1, 2, 3, 4]), (6, [0, 1, 2, 3, 4]), (7, [0, 1, 2, 3, 4]), (8, [0, 1, 2, 3, 4]), (9, [0, 1, 2, 3, 4]), (11, [0, 1, 2, 3, 4, 5, 6, 7, 8, 9]), (12, [0, 1, 2, 3, 4, 5, 6, 7, 8, 9]), (13, [0, 1, 2, 3, 4, 5, 6, 7, 8, 9]), (14, [0, 1, 2, 3, 4, 5, 6, 7, 8, 9]), (15, [0, 1, 2, 3, 4, 5, 6, 7, 8, 9, 11, 12, 13, 14]), (16, [0, 1, 2, 3, 4, 5, 6, 7, 8, 9, 11, 12, 13, 14]), (17, [0, 1, 2, 3, 4, 5, 6, 7, 8, 9, 11, 12, 13, 14]), (18, [0, 1, 2, 3, 4, 5, 6, 7, 8, 9, 11, 12, 13, 14]), (20, [0, 1, 2, 3, 4, 5, 6, 7, 8, 9, 11, 12, 13, 14, 15, 16, 17, 18]), (21, [0, 1, 2, 3, 4, 5, 6, 7, 8, 9, 11, 12, 13, 14, 15, 16, 17, 18]), (22, [0, 1, 2, 3, 4, 5, 6, 7, 8, 9, 11, 12, 13, 14, 15, 16, 17, 18]), (23, [0, 1, 2, 3, 4, 5, 6, 7, 8, 9, 11, 12, 13, 14, 15, 16, 17, 18]), (24, [0, 1, 2, 3, 4, 5, 6, 7, 8, 9, 11, 12, 13, 14, 15, 16, 17, 18, 20, 21, 22, 23]), (25, [0, 1, 2, 3, 4, 5, 6, 7, 8, 9, 11, 12, 13, 14, 15, 16, 17, 18, 20, 21, 22, 23]), (26, [0, 1, 2, 3, 4, 5, 6, 7, 8, 9, 11, 12, 13, 14, 15, 16, 17, 18, 20, 21, 22, 23]), (27, [0, 1, 2, 3, 4, 5, 6, 7, 8, 9, 11, 12, 13, 14, 15, 16, 17, 18, 20, 21, 22, 23]), (10, [11, 12, 13, 14, 15, 16, 17, 18, 20, 21, 22, 23, 24, 25, 26, 27]), (19, [20, 21, 22, 23, 24, 25, 26, 27]), (28, []), (29, []), (30, []), (31, [])] (by decide +kernel) ?_; conv => whnf)
          | (refine RegX.rule (id := 4) hT rfl [] [(0, []), (1, [0]), (2, [0, 1]), (3, [0, 1, 2]), (4, [0, 1, 2]), (5, [0, 1, 2]), (6, [0, 1, 2]), (8, [0, 1, 2, 3, 4, 5, 6]), (9, [0, 1, 2, 3, 4, 5, 6]), (10, [0, 1, 2, 3, 4, 5, 6]), (11, [0, 1, 2, 3, 4, 5, 6]), (7, [0, 1, 2, 8, 9, 10, 11]), (12, [1, 2]), (13, [1, 2]), (14, [1, 2]), (15, [2]), (16, [2]), (17, [2]), (18, []), (19, []), (20, [])] (by decide +kernel) ?_; conv => whnf)
          | (refine RegX.rule (id := 8) hT rfl [] [(0, []), (1, []), (2, []), (3, []), (4, [0, 1, 2, 3]), (5, []), (6, []), (7, []), (8, []), (9, []), (10, []), (11, []), (12, [8, 9, 10, 11]), (13, [8, 9, 10, 11]), (14, [8, 9, 10, 11]), (15, [8, 9, 10, 11]), (16, [8, 9, 10, 11, 12, 13, 14, 15]), (17, [8, 9, 10, 11]), (18, [8, 9, 10, 11]), (19, [8, 9, 10, 11, 12, 13, 14, 15, 16, 17, 18]), (20, []), (21, []), (22, [])] (by decide +kernel) ?_; conv => whnf)
          | (refine RegX.rule (id := 9) hT rfl [] [(0, []), (1, []), (2, []), (3, []), (4, [0, 1, 2, 3]), (5, []), (6, []), (7, [0, 1, 2, 3, 4, 5, 6]), (8, []), (9, [])] (by decide +kernel) ?_; conv => whnf)
          | (refine RegX.rule (id := 10) hT rfl [] [(0, []), (1, []), (2, []), (3, []), (4, [0, 1, 2, 3]), (5, [0, 1, 2, 3, 4]), (6, [0, 1, 2, 3, 4, 5]), (7, [0, 1, 2, 3, 4, 5, 6]), (8, [0, 1, 2, 3, 4, 5, 6]), (9, [0, 1, 2, 3, 4, 5, 6]), (10, [0, 1, 2, 3, 4, 5, 6]), (11, [0, 1, 2, 3, 4, 5, 6, 7, 8, 9, 10]), (12, [0, 1, 2, 3, 4, 5, 6]), (13, [0, 1, 2, 3, 4, 5, 6, 7, 8, 9, 10, 11, 12]), (14, [0, 1, 2, 3, 4, 5, 6, 7, 8, 9, 10, 11, 12]), (15, [0, 1, 2, 3, 4, 5, 6, 7, 8, 9, 10, 11, 12]), (16, [0, 1, 2, 3, 4, 5, 6, 7, 8, 9, 10, 11, 12]), (17, [0, 1, 2, 3, 4, 5, 6, 7, 8, 9, 10, 11, 12, 13, 14, 15, 16]), (18, [0, 1, 2, 3, 4, 5, 6, 7, 8, 9, 10, 11, 12, 13, 14, 15, 16, 17]), (19, [0, 1, 2, 3, 4, 5, 6, 7, 8, 9, 10, 11, 12, 13, 14, 15, 16]), (20, [0, 1, 2, 3, 4, 5, 6, 7, 8, 9, 10, 11, 12, 13, 14, 15, 16]), (21, [0, 1, 2, 3, 4, 5, 6, 7, 8, 9, 10, 11, 12]), (22, [5, 6, 11, 12]), (23, [5, 6, 11, 12]), (24, [6]), (25, [6]), (26, [6]), (27, []), (28, []), (29, [])] (by decide +kernel) ?_; conv => whnf)
          | (refine RegX.rule (id := 12) hT rfl [] [(0, []), (1, []), (2, []), (3, []), (4, [0, 1, 2, 3]), (5, [0, 1, 2, 3, 4]), (6, [0, 1, 2, 3, 4, 5]), (7, [0, 1, 2, 3, 4, 5, 6]), (8, [0, 1, 2, 3, 4, 5, 6]), (9, [0, 1, 2, 3, 4, 5, 6]), (10, [0, 1, 2, 3, 4, 5, 6]), (11, [0, 1, 2, 3, 4, 5, 6, 7, 8, 9, 10]), (12, [0, 1, 2, 3, 4, 5, 6]), (13, [0, 1, 2, 3, 4, 5, 6, 7, 8, 9, 10, 11, 12]), (14, [0, 1, 2, 3, 4, 5, 6, 7, 8, 9, 10, 11, 12]), (15, [0, 1, 2, 3, 4, 5, 6, 7, 8, 9, 10, 11, 12]), (16, [0, 1, 2, 3, 4, 5, 6, 7, 8, 9, 10, 11, 12]), (17, [0, 1, 2, 3, 4, 5, 6, 7, 8, 9, 10, 11, 12, 13, 14, 15, 16]), (18, [0, 1, 2, 3, 4, 5, 6, 7, 8, 9, 10, 11, 12, 13, 14, 15, 16]), (19, [0, 1, 2, 3, 4, 5, 6, 7, 8, 9, 10, 11, 12, 13, 14, 15, 16]), (20, [0, 1, 2, 3, 4, 5, 6, 7, 8, 9, 10, 11, 12, 13, 14, 15, 16]), (21, [0, 1, 2, 3, 4, 5, 6, 7, 8, 9, 10, 11, 12, 13, 14, 15, 16]), (22, [0, 1, 2, 3, 4, 5, 6, 7, 8, 9, 10, 11, 12, 13, 14, 15, 16]), (23, [0, 1, 2, 3, 4, 5, 6, 7, 8, 9, 10, 11, 12]), (24, [5, 6, 11, 12, 21, 22, 23]), (25, [5, 6, 11, 12, 21, 22, 23]), (26, [6, 21, 22, 23]), (27, [6, 21, 22, 23]), (28, [6, 21, 22, 23]), (29, []), (30, []), (31, [])] (by decide +kernel) ?_; conv => whnf)
          | omega
          | (refine And.intro ?_ ?_; ((try dsimp only); first | omega | (refine ⟨by omega, by omega, Int.le_trans (Int.mul_le_mul_of_nonneg_right (Int.ofNat_le.2 (Nat.le_of_ble_eq_true (rfl : Nat.ble _ 1024 = true))) (by omega)) (by omega), by omega⟩) | (refine Nat.le_trans (Nat.mul_le_mul_left _ (Nat.le_of_ble_eq_true (rfl : Nat.ble _ 1024 = true))) ?_; omega) | (unfold inI64; omega) | (constructor <;> omega) | (simp only [inI64, List.length_cons, List.length_append, List.length_nil, List.length_set] at *; omega) | decide | (unfold inI64; decide)); conv => whnf)
          | omega | decide | assumption)
        refine LoopX.rule hT (C := []) (ι := Bool × Bool × Nat) (fun (_, f', k) => k ≤ b.length ∧ fOk f' ((List.range k).foldl (stepM r a b d i now) st)) (fun (c, f', k) => mkSt [(0, .ptr 1000000 0), (1, .d (.int .i64 i)), (99, .d (mrks b)), (100, .d (.int .i64 b.length)), (101, .d (.int .i64 k))]
          (mtR r a b fr to (bif c then 60 else 1000002) now ((List.range k).foldl (stepM r a b d i now) st) f')) (fun (_, _, k) => b.length - k) (false, _, 0) ⟨by simp, by simpa using hf⟩ (by refine Entails.mk' [(1000000, 1000000), (1000002, 1000002), (1000001, 1000001)] rfl rfl ?_ ?_ <;> repeat' (first | exact True.intro | exact SV.le_refl _ | exact Res.le_refl _ | exact SV.le_int (by omega) | exact SV.le_any _ | refine And.intro ?_ ?_)) ?_
        rintro ⟨c, f', k⟩ ⟨p1, p2⟩
        have p1 : k ≤ b.length := p1
        have e1 : (k : Int).toNat = k := Int.toNat_natCast k
        have e2 : (i : Int).toNat = i := Int.toNat_natCast i
        have hfl := foldM_len (r := r) (a := a) (b := b) (i := i) (now := now) (st := st) (n := 60) (d := d) (by omega) hst (List.range k)
        have hstep := foldM_ok (r := r) (a := a) (b := b) (d := d) (i := i) (now := now) (st := st) k
        obtain ⟨q, hq⟩ : ∃ q, q = (List.range k).foldl (stepM r a b d i now) st := ⟨_, rfl⟩
        show wpx _ _ _ _ _ (mkSt _ (mtR r a b fr to _ now ((List.range k).foldl (stepM r a b d i now) st) f'))
        change fOk f' ((List.range k).foldl (stepM r a b d i now) st) at p2
        rw [← hq] at hfl hstep p2 ⊢
        by_cases hk : k < b.length
        · have hbk := hb2.2 k hk
          have h148 := z148 r (a.getD i mk0) (b.getD k mk0) hr hai hbk
          have h149 := z149 (a.getD i mk0) (b.getD k mk0) hai hbk
          have hdb := distM_bd (a := a.getD i mk0) (b := b.getD k mk0) (by unfold mBd at hai; omega) (by unfold mBd at hbk; omega)
          have hug := usedL_get now.1 hk
          obtain ⟨m, hm⟩ : ∃ m : MSt, m = (now.1 ++ [⟨i, k⟩], now.2 + distM (a.getD i mk0) (b.getD k mk0)) := ⟨_, rfl⟩
          have hm1 : nowOk (i + 1) m := by rw [hm]; exact nowOk_snoc hn hdb.1 hdb.2
          have hml : m.1.length = now.1.length + 1 := by rw [hm]; simp
          have hm2 : m.2 = now.2 + distM (a.getD i mk0) (b.getD k mk0) := by rw [hm]
          have hmz : m.1 = [] → m.2 = 0 := fun h => by rw [h] at hml; simp at hml
          have hum := usedL_len b.length m.1
          have ihm := ih (i + 1) m q f' (by omega) hm1 hmz p2 hfl
          have hsnoc : usedM now.1 k = false → Res.le (.buf 4 1 (usedL b.length now.1).length fun j => bif Nat.beq j k then setAtD (rowF bF false (usedL b.length now.1) j) 0 [.bool true] else rowF bF false (usedL b.length now.1) j) (seqB 4 1 bF false (usedL b.length m.1)) := fun _ => by
            rw [hm, ← usedL_snoc (i := i) hk]; exact Res.le_upd (fun _ => true) (fun _ => rfl)
          have hback : usedM now.1 k = false → Res.le (.buf 4 1 (usedL b.length m.1).length fun j => bif Nat.beq j k then setAtD (rowF bF false (usedL b.length m.1) j) 0 [.bool false] else rowF bF false (usedL b.length m.1) j) (seqB 4 1 bF false (usedL b.length now.1)) := fun hu => by
            have h := Res.le_upd (f := bF) (d := false) (l := usedL b.length m.1) (e := 4) (k := 1) (j := k) (off := 0) (ds := [.bool false]) (fun _ => false) (fun _ => rfl)
            have h2 := usedL_back (i := i) (l := now.1) hk hu
            rw [hm] at h ⊢
            rwa [h2] at h
          have hstep : (List.range (k + 1)).foldl (stepM r a b d i now) st = if okM r a b i now.1 k = true then mtch r a b d (i + 1) m q else q := by
            rw [hstep, hm]; rfl
          cases c
          all_goals
            conv => whnf
            repeat' (first
              | (refine CallX.exact (h148) rfl rfl ?_; rotate_right; conv => whnf)
              | (refine CallX.exact (h149) rfl rfl ?_; rotate_right; conv => whnf)
              | (refine CallX.of ihm [(1000000, 1000000), (1000002, 159), (1000001, 1000001), (60, 900)] rfl ⟨SV.le_refl _, SV.le_int (by omega), trivial⟩ ⟨by rw [hm]; exact Res.le_refl _, by rw [hm]; exact Res.le_snocF (l := now.1) (x := (⟨i, k⟩ : Prg)) rfl, hsnoc (by rw [← hug]; simpa using ‹_ = false›), trivial⟩ rfl rfl ?_; rintro x rout ⟨rfl, nm, (rfl | rfl), rfl⟩ <;> (refine ⟨rfl, ?_⟩; conv => whnf); conv => whnf)
              | (refine br_intro (fun hb => ?_) (fun hb => ?_) <;> (try simp only [decide_eq_true_eq, decide_eq_false_iff_not, Bool.not_eq_true', Bool.not_eq_false', Bool.and_eq_true, Bool.or_eq_true, beq_iff_eq, not_and, Int.not_le, Int.not_lt, Int.toNat_natCast, beq_eq_false_iff_ne, ne_eq, eq_self, not_true_eq_false, not_false_eq_true] at hb) <;> (conv => whnf))
              | (refine RegX.rule (id := 0) hT rfl [] [(0, []), (1, []), (2, []), (3, []), (4, []), (5, []), (6, []), (7, []), (8, []), (9, []), (10, [5, 6, 7, 8, 9]), (11, [5, 6, 7, 8, 9]), (12, [5, 6, 7, 8, 9]), (13, [5, 6, 7, 8, 9]), (14, []), (15, [5, 6, 7, 8, 9, 10, 11, 12, 13, 14]), (16, []), (17, [5, 6, 7, 8, 9, 10, 11, 12, 13, 14, 15, 16]), (18, [5, 6, 7, 8, 9, 10, 11, 12, 13, 14, 15, 16]), (19, [5, 6, 7, 8, 9, 10, 11, 12, 13, 14, 15, 16]), (20, [5, 6, 7, 8, 9, 10, 11, 12, 13, 14, 15, 16]), (21, [5, 6, 7, 8, 9, 10, 11, 12, 13, 14, 15, 16]), (22, []), (23, [])] (by decide +kernel) ?_; conv => whnf)
              | (refine RegX.rule (id := 2) hT rfl [] [(0, []), (1, []), (2, []), (3, []), (4, []), (5, [0, 1, 2, 3, 4]), (6, [0, 1, 2, 3, 4]), (7, [0, 1, 2, 3, 4]), (8, [0, 1, 2, 3, 4]), (9, [0, 1, 2, 3, 4]), (11, [0, 1, 2, 3, 4, 5, 6, 7, 8, 9]), (12, [0, 1, 2, 3, 4, 5, 6, 7, 8, 9]), (13, [0, 1, 2, 3, 4, 5, 6, 7, 8, 9]), (14, [0, 1, 2, 3, 4, 5, 6, 7, 8, 9]), (15, [0, 1, 2, 3, 4, 5, 6, 7, 8, 9, 11, 12, 13, 14]), (16, [0, 1, 2, 3, 4, 5, 6, 7, 8, 9, 11, 12, 13, 14]), (17, [0, 1, 2, 3, 4, 5, 6, 7, 8, 9, 11, 12, 13, 14]), (18, [0, 1, 2, 3, 4, 5, 6, 7, 8, 9, 11, 12, 13, 14]), (20, [0, 1, 2, 3, 4, 5, 6, 7, 8, 9, 11, 12, 13, 14, 15, 16, 17, 18]), (21, [0, 1, 2, 3, 4, 5, 6, 7, 8, 9, 11, 12, 13, 14, 15, 16, 17, 18]), (22, [0, 1, 2, 3, 4, 5, 6, 7, 8, 9, 11, 12, 13, 14, 15, 16, 17, 18]), (23, [0, 1, 2, 3, 4, 5, 6, 7, 8, 9, 11, 12, 13, 14, 15, 16, 17, 18]), (24, [0, 1, 2, 3, 4, 5, 6, 7, 8, 9, 11, 12, 13, 14, 15, 16, 17, 18, 20, 21, 22, 23]), (25, [0, 1, 2, 3, 4, 5, 6, 7, 8, 9, 11, 12, 13, 14, 15, 16, 17, 18, 20, 21, 22, 23]), (26, [0, 1, 2, 3, 4, 5, 6, 7, 8, 9, 11, 12, 13, 14, 15, 16, 17, 18, 20, 21, 22, 23]), (27, [0, 1, 2, 3, 4, 5, 6, 7, 8, 9, 11, 12, 13, 14, 15, 16, 17, 18, 20, 21, 22, 23]), (10, [11, 12, 13, 14, 15, 16, 17, 18, 20, 21, 22, 23, 24, 25, 26, 27]), (19, [20, 21, 22, 23, 24, 25, 26, 27]), (28, []), (29, []), (30, []), (31, [])] (by decide +kernel) ?_; conv => whnf)
              | (refine RegX.rule (id := 4) hT rfl [] [(0, []), (1, [0]), (2, [0, 1]), (3, [0, 1, 2]), (4, [0, 1, 2]), (5, [0, 1, 2]), (6, [0, 1, 2]), (8, [0, 1, 2, 3, 4, 5, 6]), (9, [0, 1, 2, 3, 4, 5, 6]), (10, [0, 1, 2, 3, 4, 5, 6]), (11, [0, 1, 2, 3, 4, 5, 6]), (7, [0, 1, 2, 8, 9, 10, 11]), (12, [1, 2]), (13, [1, 2]), (14, [1, 2]), (15, [2]), (16, [2]), (17, [2]), (18, []), (19, []), (20, [])] (by decide +kernel) ?_; conv => whnf)
              | (refine RegX.rule (id := 8) hT rfl [] [(0, []), (1, []), (2, []), (3, []), (4, [0, 1, 2, 3]), (5, []), (6, []), (7, []), (8, []), (9, []), (10, []), (11, []), (12, [8, 9, 10, 11]), (13, [8, 9, 10, 11]), (14, [8, 9, 10, 11]), (15, [8, 9, 10, 11]), (16, [8, 9, 10, 11, 12, 13, 14, 15]), (17, [8, 9, 10, 11]), (18, [8, 9, 10, 11]), (19, [8, 9, 10, 11, 12, 13, 14, 15, 16, 17, 18]), (20, []), (21, []), (22, [])] (by decide +kernel) ?_; conv => whnf)
              | (refine RegX.rule (id := 9) hT rfl [] [(0, []), (1, []), (2, []), (3, []), (4, [0, 1, 2, 3]), (5, []), (6, []), (7, [0, 1, 2, 3, 4, 5, 6]), (8, []), (9, [])] (by decide +kernel) ?_; conv => whnf)
              | (refine RegX.rule (id := 10) hT rfl [] [(0, []), (1, []), (2, []), (3, []), (4, [0, 1, 2, 3]), (5, [0, 1, 2, 3, 4]), (6, [0, 1, 2, 3, 4, 5]), (7, [0, 1, 2, 3, 4, 5, 6]), (8, [0, 1, 2, 3, 4, 5, 6]), (9, [0, 1, 2, 3, 4, 5, 6]), (10, [0, 1, 2, 3, 4, 5, 6]), (11, [0, 1, 2, 3, 4, 5, 6, 7, 8, 9, 10]), (12, [0, 1, 2, 3, 4, 5, 6]), (13, [0, 1, 2, 3, 4, 5, 6, 7, 8, 9, 10, 11, 12]), (14, [0, 1, 2, 3, 4, 5, 6, 7, 8, 9, 10, 11, 12]), (15, [0, 1, 2, 3, 4, 5, 6, 7, 8, 9, 10, 11, 12]), (16, [0, 1, 2, 3, 4, 5, 6, 7, 8, 9, 10, 11, 12]), (17, [0, 1, 2, 3, 4, 5, 6, 7, 8, 9, 10, 11, 12, 13, 14, 15, 16]), (18, [0, 1, 2, 3, 4, 5, 6, 7, 8, 9, 10, 11, 12, 13, 14, 15, 16, 17]), (19, [0, 1, 2, 3, 4, 5, 6, 7, 8, 9, 10, 11, 12, 13, 14, 15, 16]), (20, [0, 1, 2, 3, 4, 5, 6, 7, 8, 9, 10, 11, 12, 13, 14, 15, 16]), (21, [0, 1, 2, 3, 4, 5, 6, 7, 8, 9, 10, 11, 12]), (22, [5, 6, 11, 12]), (23, [5, 6, 11, 12]), (24, [6]), (25, [6]), (26, [6]), (27, []), (28, []), (29, [])] (by decide +kernel) ?_; conv => whnf)
              | (refine RegX.rule (id := 12) hT rfl [] [(0, []), (1, []), (2, []), (3, []), (4, [0, 1, 2, 3]), (5, [0, 1, 2, 3, 4]), (6, [0, 1, 2, 3, 4, 5]), (7, [0, 1, 2, 3, 4, 5, 6]), (8, [0, 1, 2, 3, 4, 5, 6]), (9, [0, 1, 2, 3, 4, 5, 6]), (10, [0, 1, 2, 3, 4, 5, 6]), (11, [0, 1, 2, 3, 4, 5, 6, 7, 8, 9, 10]), (12, [0, 1, 2, 3, 4, 5, 6]), (13, [0, 1, 2, 3, 4, 5, 6, 7, 8, 9, 10, 11, 12]), (14, [0, 1, 2, 3, 4, 5, 6, 7, 8, 9, 10, 11, 12]), (15, [0, 1, 2, 3, 4, 5, 6, 7, 8, 9, 10, 11, 12]), (16, [0, 1, 2, 3, 4, 5, 6, 7, 8, 9, 10, 11, 12]), (17, [0, 1, 2, 3, 4, 5, 6, 7, 8, 9, 10, 11, 12, 13, 14, 15, 16]), (18, [0, 1, 2, 3, 4, 5, 6, 7, 8, 9, 10, 11, 12, 13, 14, 15, 16]), (19, [0, 1, 2, 3, 4, 5, 6, 7, 8, 9, 10, 11, 12, 13, 14, 15, 16]), (20, [0, 1, 2, 3, 4, 5, 6, 7, 8, 9, 10, 11, 12, 13, 14, 15, 16]), (21, [0, 1, 2, 3, 4, 5, 6, 7, 8, 9, 10, 11, 12, 13, 14, 15, 16]), (22, [0, 1, 2, 3, 4, 5, 6, 7, 8, 9, 10, 11, 12, 13, 14, 15, 16]), (23, [0, 1, 2, 3, 4, 5, 6, 7, 8, 9, 10, 11, 12]), (24, [5, 6, 11, 12, 21, 22, 23]), (25, [5, 6, 11, 12, 21, 22, 23]), (26, [6, 21, 22, 23]), (27, [6, 21, 22, 23]), (28, [6, 21, 22, 23]), (29, []), (30, []), (31, [])] (by decide +kernel) ?_; conv => whnf)
              | omega
              | (refine And.intro ?_ ?_; ((try dsimp only); first | omega | (refine ⟨by omega, by omega, Int.le_trans (Int.mul_le_mul_of_nonneg_right (Int.ofNat_le.2 (Nat.le_of_ble_eq_true (rfl : Nat.ble _ 1024 = true))) (by omega)) (by omega), by omega⟩) | (refine Nat.le_trans (Nat.mul_le_mul_left _ (Nat.le_of_ble_eq_true (rfl : Nat.ble _ 1024 = true))) ?_; omega) | (unfold inI64; omega) | (constructor <;> omega) | (simp only [inI64, List.length_cons, List.length_append, List.length_nil, List.length_set] at *; omega) | decide | (unfold inI64; decide)); conv => whnf)
              | omega | decide | assumption)
          all_goals first
            | (have hno : ¬ okM r a b i now.1 k = true := by
                 unfold okM
                 clear hsnoc hback ihm hstep
                 grind
               first
                 | (refine ⟨(false, f', k + 1), ⟨by omega, by rw [hstep, if_neg hno]; exact p2⟩, (show b.length - (k + 1) < b.length - k by omega), ?_⟩
                    show Entails _ (mkSt _ (mtR r a b fr to _ now ((List.range (k + 1)).foldl (stepM r a b d i now) st) f'))
                    rw [hstep, if_neg hno]
                    exact Entails.mk' [(1000000, 1000000), (1000002, 1000002), (1000001, 1000001)] rfl rfl ⟨SV.le_refl _, SV.le_refl _, SV.le_refl _, SV.le_refl _, SV.le_refl _, trivial⟩ ⟨Res.le_refl _, Res.le_refl _, Res.le_refl _, trivial⟩)
                 | (refine ⟨(true, f', k + 1), ⟨by omega, by rw [hstep, if_neg hno]; exact p2⟩, (show b.length - (k + 1) < b.length - k by omega), ?_⟩
                    show Entails _ (mkSt _ (mtR r a b fr to _ now ((List.range (k + 1)).foldl (stepM r a b d i now) st) f'))
                    rw [hstep, if_neg hno]
                    exact Entails.mk' [(1000000, 1000000), (60, 60), (1000001, 1000001)] rfl rfl ⟨SV.le_refl _, SV.le_refl _, SV.le_refl _, SV.le_refl _, SV.le_refl _, trivial⟩ ⟨Res.le_refl _, Res.le_refl _, Res.le_refl _, trivial⟩))
            | (have hun : usedM now.1 k = false := by rw [← hug]; simpa using ‹_ = false›
               have hyes : okM r a b i now.1 k = true := by
                 unfold okM
                 clear hsnoc hback ihm hstep
                 grind
               refine ⟨(true, true, k + 1), ⟨by omega, fun h => by cases h⟩, (show b.length - (k + 1) < b.length - k by omega), ?_⟩
               show Entails _ (mkSt _ (mtR r a b fr to _ now ((List.range (k + 1)).foldl (stepM r a b d i now) st) true))
               rw [hstep, if_pos hyes]
               first
                 | (refine (Entails.cutCell 1000000 159 2000 85 2 _ _ 9 _ rfl rfl rfl rfl rfl rfl).trans ?_; exact Entails.mk' [(1000000, 1000000), (60, 2000), (1000001, 1000001)] rfl rfl ⟨SV.le_refl _, SV.le_refl _, SV.le_refl _, SV.le_refl _, SV.le_refl _, trivial⟩ ⟨Res.le_cellsL ⟨SV.le_refl _, SV.le_refl _, SV.le_refl _, SV.le_refl _, SV.le_refl _, SV.le_refl _, SV.le_refl _, SV.le_refl _, SV.le_refl _, SV.le_refl _, SV.le_refl _, SV.le_int (by omega), SV.le_refl _, SV.le_refl _, trivial⟩, Res.le_cutF (by omega) (fun i hi => by rw [hm, getD_app_lt hi]), hback hun, trivial⟩)
                 | (refine (Entails.cutCell 1000000 900 2000 85 2 _ _ 9 _ rfl rfl rfl rfl rfl rfl).trans ?_; exact Entails.mk' [(1000000, 1000000), (60, 2000), (1000001, 1000001)] rfl rfl ⟨SV.le_refl _, SV.le_refl _, SV.le_refl _, SV.le_refl _, SV.le_refl _, trivial⟩ ⟨Res.le_cellsL ⟨SV.le_refl _, SV.le_refl _, SV.le_refl _, SV.le_refl _, SV.le_refl _, SV.le_refl _, SV.le_refl _, SV.le_refl _, SV.le_refl _, SV.le_refl _, SV.le_refl _, SV.le_int (by omega), SV.le_refl _, SV.le_refl _, trivial⟩, Res.le_cutF (by omega) (fun i hi => by rw [hm, getD_app_lt hi]), hback hun, trivial⟩))
        · obtain rfl : k = b.length := by omega
          have ihe := ih (i + 1) now q f' (by omega) (nowOk_up hn) hz p2 hfl
          rw [← hq]
          cases c
          all_goals
            conv => whnf
            repeat' (first
              | (refine CallX.of ihe [(1000000, 1000000), (1000002, 1000002), (1000001, 1000001), (60, 900)] rfl ⟨SV.le_refl _, SV.le_int (by omega), trivial⟩ ⟨Res.le_refl _, Res.le_refl _, Res.le_refl _, trivial⟩ rfl rfl ?_; rintro x rout ⟨rfl, nm, (rfl | rfl), rfl⟩ <;> (refine ⟨rfl, ?_⟩; conv => whnf); conv => whnf)
              | (refine CallX.of ihe [(1000000, 1000000), (1000002, 60), (1000001, 1000001), (60, 900)] rfl ⟨SV.le_refl _, SV.le_int (by omega), trivial⟩ ⟨Res.le_refl _, Res.le_refl _, Res.le_refl _, trivial⟩ rfl rfl ?_; rintro x rout ⟨rfl, nm, (rfl | rfl), rfl⟩ <;> (refine ⟨rfl, ?_⟩; conv => whnf); conv => whnf)
              | (refine br_intro (fun hb => ?_) (fun hb => ?_) <;> (try simp only [decide_eq_true_eq, decide_eq_false_iff_not, Bool.not_eq_true', Bool.not_eq_false', Bool.and_eq_true, Bool.or_eq_true, beq_iff_eq, not_and, Int.not_le, Int.not_lt, Int.toNat_natCast, beq_eq_false_iff_ne, ne_eq, eq_self, not_true_eq_false, not_false_eq_true] at hb) <;> (conv => whnf))
              | (refine RegX.rule (id := 0) hT rfl [] [(0, []), (1, []), (2, []), (3, []), (4, []), (5, []), (6, []), (7, []), (8, []), (9, []), (10, [5, 6, 7, 8, 9]), (11, [5, 6, 7, 8, 9]), (12, [5, 6, 7, 8, 9]), (13, [5, 6, 7, 8, 9]), (14, []), (15, [5, 6, 7, 8, 9, 10, 11, 12, 13, 14]), (16, []), (17, [5, 6, 7, 8, 9, 10, 11, 12, 13, 14, 15, 16]), (18, [5, 6, 7, 8, 9, 10, 11, 12, 13, 14, 15, 16]), (19, [5, 6, 7, 8, 9, 10, 11, 12, 13, 14, 15, 16]), (20, [5, 6, 7, 8, 9, 10, 11, 12, 13, 14, 15, 16]), (21, [5, 6, 7, 8, 9, 10, 11, 12, 13, 14, 15, 16]), (22, []), (23, [])] (by decide +kernel) ?_; conv => whnf)
              | (refine RegX.rule (id := 2) hT rfl [] [(0, []), (1, []), (2, []), (3, []), (4, []), (5, [0, 1, 2, 3, 4]), (6, [0, 1, 2, 3, 4]), (7, [0, 1, 2, 3, 4]), (8, [0, 1, 2, 3, 4]), (9, [0, 1, 2, 3, 4]), (11, [0, 1, 2, 3, 4, 5, 6, 7, 8, 9]), (12, [0, 1, 2, 3, 4, 5, 6, 7, 8, 9]), (13, [0, 1, 2, 3, 4, 5, 6, 7, 8, 9]), (14, [0, 1, 2, 3, 4, 5, 6, 7, 8, 9]), (15, [0, 1, 2, 3, 4, 5, 6, 7, 8, 9, 11, 12, 13, 14]), (16, [0, 1, 2, 3, 4, 5, 6, 7, 8, 9, 11, 12, 13, 14]), (17, [0, 1, 2, 3, 4, 5, 6, 7, 8, 9, 11, 12, 13, 14]), (18, [0, 1, 2, 3, 4, 5, 6, 7, 8, 9, 11, 12, 13, 14]), (20, [0, 1, 2, 3, 4, 5, 6, 7, 8, 9, 11, 12, 13, 14, 15, 16, 17, 18]), (21, [0, 1, 2, 3, 4, 5, 6, 7, 8, 9, 11, 12, 13, 14, 15, 16, 17, 18]), (22, [0, 1, 2, 3, 4, 5, 6, 7, 8, 9, 11, 12, 13, 14, 15, 16, 17, 18]), (23, [0, 1, 2, 3, 4, 5, 6, 7, 8, 9, 11, 12, 13, 14, 15, 16, 17, 18]), (24, [0, 1, 2, 3, 4, 5, 6, 7, 8, 9, 11, 12, 13, 14, 15, 16, 17, 18, 20, 21, 22, 23]), (25, [0, 1, 2, 3, 4, 5, 6, 7, 8, 9, 11, 12, 13, 14, 15, 16, 17, 18, 20, 21, 22, 23]), (26, [0, 1, 2, 3, 4, 5, 6, 7, 8, 9, 11, 12, 13, 14, 15, 16, 17, 18, 20, 21, 22, 23]), (27, [0, 1, 2, 3, 4, 5, 6, 7, 8, 9, 11, 12, 13, 14, 15, 16, 17, 18, 20, 21, 22, 23]), (10, [11, 12, 13, 14, 15, 16, 17, 18, 20, 21, 22, 23, 24, 25, 26, 27]), (19, [20, 21, 22, 23, 24, 25, 26, 27]), (28, []), (29, []), (30, []), (31, [])] (by decide +kernel) ?_; conv => whnf)
              | (refine RegX.rule (id := 4) hT rfl [] [(0, []), (1, [0]), (2, [0, 1]), (3, [0, 1, 2]), (4, [0, 1, 2]), (5, [0, 1, 2]), (6, [0, 1, 2]), (8, [0, 1, 2, 3, 4, 5, 6]), (9, [0, 1, 2, 3, 4, 5, 6]), (10, [0, 1, 2, 3, 4, 5, 6]), (11, [0, 1, 2, 3, 4, 5, 6]), (7, [0, 1, 2, 8, 9, 10, 11]), (12, [1, 2]), (13, [1, 2]), (14, [1, 2]), (15, [2]), (16, [2]), (17, [2]), (18, []), (19, []), (20, [])] (by decide +kernel) ?_; conv => whnf)
              | (refine RegX.rule (id := 8) hT rfl [] [(0, []), (1, []), (2, []), (3, []), (4, [0, 1, 2, 3]), (5, []), (6, []), (7, []), (8, []), (9, []), (10, []), (11, []), (12, [8, 9, 10, 11]), (13, [8, 9, 10, 11]), (14, [8, 9, 10, 11]), (15, [8, 9, 10, 11]), (16, [8, 9, 10, 11, 12, 13, 14, 15]), (17, [8, 9, 10, 11]), (18, [8, 9, 10, 11]), (19, [8, 9, 10, 11, 12, 13, 14, 15, 16, 17, 18]), (20, []), (21, []), (22, [])] (by decide +kernel) ?_; conv => whnf)
              | (refine RegX.rule (id := 9) hT rfl [] [(0, []), (1, []), (2, []), (3, []), (4, [0, 1, 2, 3]), (5, []), (6, []), (7, [0, 1, 2, 3, 4, 5, 6]), (8, []), (9, [])] (by decide +kernel) ?_; conv => whnf)
              | (refine RegX.rule (id := 10) hT rfl [] [(0, []), (1, []), (2, []), (3, []), (4, [0, 1, 2, 3]), (5, [0, 1, 2, 3, 4]), (6, [0, 1, 2, 3, 4, 5]), (7, [0, 1, 2, 3, 4, 5, 6]), (8, [0, 1, 2, 3, 4, 5, 6]), (9, [0, 1, 2, 3, 4, 5, 6]), (10, [0, 1, 2, 3, 4, 5, 6]), (11, [0, 1, 2, 3, 4, 5, 6, 7, 8, 9, 10]), (12, [0, 1, 2, 3, 4, 5, 6]), (13, [0, 1, 2, 3, 4, 5, 6, 7, 8, 9, 10, 11, 12]), (14, [0, 1, 2, 3, 4, 5, 6, 7, 8, 9, 10, 11, 12]), (15, [0, 1, 2, 3, 4, 5, 6, 7, 8, 9, 10, 11, 12]), (16, [0, 1, 2, 3, 4, 5, 6, 7, 8, 9, 10, 11, 12]), (17, [0, 1, 2, 3, 4, 5, 6, 7, 8, 9, 10, 11, 12, 13, 14, 15, 16]), (18, [0, 1, 2, 3, 4, 5, 6, 7, 8, 9, 10, 11, 12, 13, 14, 15, 16, 17]), (19, [0, 1, 2, 3, 4, 5, 6, 7, 8, 9, 10, 11, 12, 13, 14, 15, 16]), (20, [0, 1, 2, 3, 4, 5, 6, 7, 8, 9, 10, 11, 12, 13, 14, 15, 16]), (21, [0, 1, 2, 3, 4, 5, 6, 7, 8, 9, 10, 11, 12]), (22, [5, 6, 11, 12]), (23, [5, 6, 11, 12]), (24, [6]), (25, [6]), (26, [6]), (27, []), (28, []), (29, [])] (by decide +kernel) ?_; conv => whnf)
              | (refine RegX.rule (id := 12) hT rfl [] [(0, []), (1, []), (2, []), (3, []), (4, [0, 1, 2, 3]), (5, [0, 1, 2, 3, 4]), (6, [0, 1, 2, 3, 4, 5]), (7, [0, 1, 2, 3, 4, 5, 6]), (8, [0, 1, 2, 3, 4, 5, 6]), (9, [0, 1, 2, 3, 4, 5, 6]), (10, [0, 1, 2, 3, 4, 5, 6]), (11, [0, 1, 2, 3, 4, 5, 6, 7, 8, 9, 10]), (12, [0, 1, 2, 3, 4, 5, 6]), (13, [0, 1, 2, 3, 4, 5, 6, 7, 8, 9, 10, 11, 12]), (14, [0, 1, 2, 3, 4, 5, 6, 7, 8, 9, 10, 11, 12]), (15, [0, 1, 2, 3, 4, 5, 6, 7, 8, 9, 10, 11, 12]), (16, [0, 1, 2, 3, 4, 5, 6, 7, 8, 9, 10, 11, 12]), (17, [0, 1, 2, 3, 4, 5, 6, 7, 8, 9, 10, 11, 12, 13, 14, 15, 16]), (18, [0, 1, 2, 3, 4, 5, 6, 7, 8, 9, 10, 11, 12, 13, 14, 15, 16]), (19, [0, 1, 2, 3, 4, 5, 6, 7, 8, 9, 10, 11, 12, 13, 14, 15, 16]), (20, [0, 1, 2, 3, 4, 5, 6, 7, 8, 9, 10, 11, 12, 13, 14, 15, 16]), (21, [0, 1, 2, 3, 4, 5, 6, 7, 8, 9, 10, 11, 12, 13, 14, 15, 16]), (22, [0, 1, 2, 3, 4, 5, 6, 7, 8, 9, 10, 11, 12, 13, 14, 15, 16]), (23, [0, 1, 2, 3, 4, 5, 6, 7, 8, 9, 10, 11, 12]), (24, [5, 6, 11, 12, 21, 22, 23]), (25, [5, 6, 11, 12, 21, 22, 23]), (26, [6, 21, 22, 23]), (27, [6, 21, 22, 23]), (28, [6, 21, 22, 23]), (29, []), (30, []), (31, [])] (by decide +kernel) ?_; conv => whnf)
              | omega
              | (refine And.intro ?_ ?_; ((try dsimp only); first | omega | (refine ⟨by omega, by omega, Int.le_trans (Int.mul_le_mul_of_nonneg_right (Int.ofNat_le.2 (Nat.le_of_ble_eq_true (rfl : Nat.ble _ 1024 = true))) (by omega)) (by omega), by omega⟩) | (refine Nat.le_trans (Nat.mul_le_mul_left _ (Nat.le_of_ble_eq_true (rfl : Nat.ble _ 1024 = true))) ?_; omega) | (unfold inI64; omega) | (constructor <;> omega) | (simp only [inI64, List.length_cons, List.length_append, List.length_nil, List.length_set] at *; omega) | decide | (unfold inI64; decide)); conv => whnf)
              | omega | decide | assumption)
          all_goals first
            | (refine .ent _ (mkSt [] (mtR r a b fr to 1000002 now (mtch r a b d (i + 1) now q) true)) (Entails.mk' [(1000000, 1000000), (1000002, 1000002), (1000001, 1000001)] rfl rfl trivial ⟨Res.le_refl _, Res.le_refl _, Res.le_refl _, trivial⟩) (.ret _ ?_)
               (conv => whnf)
               exact ⟨_, ⟨rfl, 1000002, .inl rfl, rfl⟩, Res.le_refl _, Res.le_refl _, Res.le_refl _, trivial⟩)
            | (refine .ent _ (mkSt [] (mtR r a b fr to 60 now (mtch r a b d (i + 1) now q) true)) (Entails.mk' [(1000000, 1000000), (60, 60), (1000001, 1000001)] rfl rfl trivial ⟨Res.le_refl _, Res.le_refl _, Res.le_refl _, trivial⟩) (.ret _ ?_)
               (conv => whnf)
               exact ⟨_, ⟨rfl, 60, .inr rfl, rfl⟩, Res.le_refl _, Res.le_refl _, Res.le_refl _, trivial⟩)
            | (refine .ent _ (mkSt [] (mtR r a b fr to 60 now (mtch r a b d (i + 1) now q) true)) (Entails.mk' [(1000000, 1000000), (60, 900), (1000001, 1000001)] rfl rfl trivial ⟨Res.le_refl _, Res.le_refl _, Res.le_refl _, trivial⟩) (.ret _ ?_)
               (conv => whnf)
               exact ⟨_, ⟨rfl, 60, .inr rfl, rfl⟩, Res.le_refl _, Res.le_refl _, Res.le_refl _, trivial⟩)
    cases f with
    | false => exact main false hf (fun h => by cases h)
    | true =>
      by_cases hp : now.1.length + (d + 1) < st.1.length
      · rw [mtch_prune (d + 1) i now st hp]
        refine spec_of hT (C := []) Tryz.func233 rfl Tryz.call233 rfl rfl rfl ?_
        conv => whnf
        repeat' (first
          | (refine br_intro (fun hb => ?_) (fun hb => ?_) <;> (try simp only [decide_eq_true_eq, decide_eq_false_iff_not, Bool.not_eq_true', Bool.not_eq_false', Bool.and_eq_true, Bool.or_eq_true, beq_iff_eq, not_and, Int.not_le, Int.not_lt, Int.toNat_natCast, beq_eq_false_iff_ne, ne_eq, eq_self, not_true_eq_false, not_false_eq_true] at hb) <;> (conv => whnf))
          | (refine RegX.rule (id := 0) hT rfl [] [(0, []), (1, []), (2, []), (3, []), (4, []), (5, []), (6, []), (7, []), (8, []), (9, []), (10, [5, 6, 7, 8, 9]), (11, [5, 6, 7, 8, 9]), (12, [5, 6, 7, 8, 9]), (13, [5, 6, 7, 8, 9]), (14, []), (15, [5, 6, 7, 8, 9, 10, 11, 12, 13, 14]), (16, []), (17, [5, 6, 7, 8, 9, 10, 11, 12, 13, 14, 15, 16]), (18, [5, 6, 7, 8, 9, 10, 11, 12, 13, 14, 15, 16]), (19, [5, 6, 7, 8, 9, 10, 11, 12, 13, 14, 15, 16]), (20, [5, 6, 7, 8, 9, 10, 11, 12, 13, 14, 15, 16]), (21, [5, 6, 7, 8, 9, 10, 11, 12, 13, 14, 15, 16]), (22, []), (23, [])] (by decide +kernel) ?_; conv => whnf)
          | (refine RegX.rule (id := 2) hT rfl [] [(0, []), (1, []), (2, []), (3, []), (4, []), (5, [0, 1, 2, 3, 4]), (6, [0, 1, 2, 3, 4]), (7, [0, 1, 2, 3, 4]), (8, [0, 1, 2, 3, 4]), (9, [0, 1, 2, 3, 4]), (11, [0, 1, 2, 3, 4, 5, 6, 7, 8, 9]), (12, [0, 1, 2, 3, 4, 5, 6, 7, 8, 9]), (13, [0, 1, 2, 3, 4, 5, 6, 7, 8, 9]), (14, [0, 1, 2, 3, 4, 5, 6, 7, 8, 9]), (15, [0, 1, 2, 3, 4, 5, 6, 7, 8, 9, 11, 12, 13, 14]), (16, [0, 1, 2, 3, 4, 5, 6, 7, 8, 9, 11, 12, 13, 14]), (17, [0, 1, 2, 3, 4, 5, 6, 7, 8, 9, 11, 12, 13, 14]), (18, [0, 1, 2, 3, 4, 5, 6, 7, 8, 9, 11, 12, 13, 14]), (20, [0, 1, 2, 3, 4, 5, 6, 7, 8, 9, 11, 12, 13, 14, 15, 16, 17, 18]), (21, [0, 1, 2, 3, 4, 5, 6, 7, 8, 9, 11, 12, 13, 14, 15, 16, 17, 18]), (22, [0, 1, 2, 3, 4, 5, 6, 7, 8, 9, 11, 12, 13, 14, 15, 16, 17, 18]), (23, [0, 1, 2, 3, 4, 5, 6, 7, 8, 9, 11, 12, 13, 14, 15, 16, 17, 18]), (24, [0, 1, 2, 3, 4, 5, 6, 7, 8, 9, 11, 12, 13, 14, 15, 16, 17, 18, 20, 21, 22, 23]), (25, [0, 1, 2, 3, 4, 5, 6, 7, 8, 9, 11, 12, 13, 14, 15, 16, 17, 18, 20, 21, 22, 23]), (26, [0, 1, 2, 3, 4, 5, 6, 7, 8, 9, 11, 12, 13, 14, 15, 16, 17, 18, 20, 21, 22, 23]), (27, [0, 1, 2, 3, 4, 5, 6, 7, 8, 9, 11, 12, 13, 14, 15, 16, 17, 18, 20, 21, 22, 23]), (10, [11, 12, 13, 14, 15, 16, 17, 18, 20, 21, 22, 23, 24, 25, 26, 27]), (19, [20, 21, 22, 23, 24, 25, 26, 27]), (28, []), (29, []), (30, []), (31, [])] (by decide +kernel) ?_; conv => whnf)
          | (refine RegX.rule (id := 4) hT rfl [] [(0, []), (1, [0]), (2, [0, 1]), (3, [0, 1, 2]), (4, [0, 1, 2]), (5, [0, 1, 2]), (6, [0, 1, 2]), (8, [0, 1, 2, 3, 4, 5, 6]), (9, [0, 1, 2, 3, 4, 5, 6]), (10, [0, 1, 2, 3, 4, 5, 6]), (11, [0, 1, 2, 3, 4, 5, 6]), (7, [0, 1, 2, 8, 9, 10, 11]), (12, [1, 2]), (13, [1, 2]), (14, [1, 2]), (15, [2]), (16, [2]), (17, [2]), (18, []), (19, []), (20, [])] (by decide +kernel) ?_; conv => whnf)
          | (refine RegX.rule (id := 8) hT rfl [] [(0, []), (1, []), (2, []), (3, []), (4, [0, 1, 2, 3]), (5, []), (6, []), (7, []), (8, []), (9, []), (10, []), (11, []), (12, [8, 9, 10, 11]), (13, [8, 9, 10, 11]), (14, [8, 9, 10, 11]), (15, [8, 9, 10, 11]), (16, [8, 9, 10, 11, 12, 13, 14, 15]), (17, [8, 9, 10, 11]), (18, [8, 9, 10, 11]), (19, [8, 9, 10, 11, 12, 13, 14, 15, 16, 17, 18]), (20, []), (21, []), (22, [])] (by decide +kernel) ?_; conv => whnf)
          | (refine RegX.rule (id := 9) hT rfl [] [(0, []), (1, []), (2, []), (3, []), (4, [0, 1, 2, 3]), (5, []), (6, []), (7, [0, 1, 2, 3, 4, 5, 6]), (8, []), (9, [])] (by decide +kernel) ?_; conv => whnf)
          | (refine RegX.rule (id := 10) hT rfl [] [(0, []), (1, []), (2, []), (3, []), (4, [0, 1, 2, 3]), (5, [0, 1, 2, 3, 4]), (6, [0, 1, 2, 3, 4, 5]), (7, [0, 1, 2, 3, 4, 5, 6]), (8, [0, 1, 2, 3, 4, 5, 6]), (9, [0, 1, 2, 3, 4, 5, 6]), (10, [0, 1, 2, 3, 4, 5, 6]), (11, [0, 1, 2, 3, 4, 5, 6, 7, 8, 9, 10]), (12, [0, 1, 2, 3, 4, 5, 6]), (13, [0, 1, 2, 3, 4, 5, 6, 7, 8, 9, 10, 11, 12]), (14, [0, 1, 2, 3, 4, 5, 6, 7, 8, 9, 10, 11, 12]), (15, [0, 1, 2, 3, 4, 5, 6, 7, 8, 9, 10, 11, 12]), (16, [0, 1, 2, 3, 4, 5, 6, 7, 8, 9, 10, 11, 12]), (17, [0, 1, 2, 3, 4, 5, 6, 7, 8, 9, 10, 11, 12, 13, 14, 15, 16]), (18, [0, 1, 2, 3, 4, 5, 6, 7, 8, 9, 10, 11, 12, 13, 14, 15, 16, 17]), (19, [0, 1, 2, 3, 4, 5, 6, 7, 8, 9, 10, 11, 12, 13, 14, 15, 16]), (20, [0, 1, 2, 3, 4, 5, 6, 7, 8, 9, 10, 11, 12, 13, 14, 15, 16]), (21, [0, 1, 2, 3, 4, 5, 6, 7, 8, 9, 10, 11, 12]), (22, [5, 6, 11, 12]), (23, [5, 6, 11, 12]), (24, [6]), (25, [6]), (26, [6]), (27, []), (28, []), (29, [])] (by decide +kernel) ?_; conv => whnf)
          | (refine RegX.rule (id := 12) hT rfl [] [(0, []), (1, []), (2, []), (3, []), (4, [0, 1, 2, 3]), (5, [0, 1, 2, 3, 4]), (6, [0, 1, 2, 3, 4, 5]), (7, [0, 1, 2, 3, 4, 5, 6]), (8, [0, 1, 2, 3, 4, 5, 6]), (9, [0, 1, 2, 3, 4, 5, 6]), (10, [0, 1, 2, 3, 4, 5, 6]), (11, [0, 1, 2, 3, 4, 5, 6, 7, 8, 9, 10]), (12, [0, 1, 2, 3, 4, 5, 6]), (13, [0, 1, 2, 3, 4, 5, 6, 7, 8, 9, 10, 11, 12]), (14, [0, 1, 2, 3, 4, 5, 6, 7, 8, 9, 10, 11, 12]), (15, [0, 1, 2, 3, 4, 5, 6, 7, 8, 9, 10, 11, 12]), (16, [0, 1, 2, 3, 4, 5, 6, 7, 8, 9, 10, 11, 12]), (17, [0, 1, 2, 3, 4, 5, 6, 7, 8, 9, 10, 11, 12, 13, 14, 15, 16]), (18, [0, 1, 2, 3, 4, 5, 6, 7, 8, 9, 10, 11, 12, 13, 14, 15, 16]), (19, [0, 1, 2, 3, 4, 5, 6, 7, 8, 9, 10, 11, 12, 13, 14, 15, 16]), (20, [0, 1, 2, 3, 4, 5, 6, 7, 8, 9, 10, 11, 12, 13, 14, 15, 16]), (21, [0, 1, 2, 3, 4, 5, 6, 7, 8, 9, 10, 11, 12, 13, 14, 15, 16]), (22, [0, 1, 2, 3, 4, 5, 6, 7, 8, 9, 10, 11, 12, 13, 14, 15, 16]), (23, [0, 1, 2, 3, 4, 5, 6, 7, 8, 9, 10, 11, 12]), (24, [5, 6, 11, 12, 21, 22, 23]), (25, [5, 6, 11, 12, 21, 22, 23]), (26, [6, 21, 22, 23]), (27, [6, 21, 22, 23]), (28, [6, 21, 22, 23]), (29, []), (30, []), (31, [])] (by decide +kernel) ?_; conv => whnf)
          | omega
          | (refine And.intro ?_ ?_; ((try dsimp only); first | omega | (refine ⟨by omega, by omega, Int.le_trans (Int.mul_le_mul_of_nonneg_right (Int.ofNat_le.2 (Nat.le_of_ble_eq_true (rfl : Nat.ble _ 1024 = true))) (by omega)) (by omega), by omega⟩) | (refine Nat.le_trans (Nat.mul_le_mul_left _ (Nat.le_of_ble_eq_true (rfl : Nat.ble _ 1024 = true))) ?_; omega) | (unfold inI64; omega) | (constructor <;> omega) | (simp only [inI64, List.length_cons, List.length_append, List.length_nil, List.length_set] at *; omega) | decide | (unfold inI64; decide)); conv => whnf)
          | omega | decide | assumption)
        refine .ret _ ?_
        conv => whnf
        exact ⟨_, ⟨rfl, 1000002, .inl rfl, rfl⟩, Res.le_refl _, Res.le_refl _, Res.le_refl _, trivial⟩
      · exact main true hf (fun _ => by omega)
end Go.Proofs.YtnkdlkgannnfhaaGreatDoor
