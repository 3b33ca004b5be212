/- PlacesLeast is proved: for every input the law returns true, and its argument reads afterwards as it read before. Conditions: those of the given row alone. -/
import Derived.Test.YtellmmmohdjpeaaDoorPlConQui
set_option linter.unusedVariables false
set_option linter.unusedSimpArgs false
set_option maxRecDepth 20000
namespace Go.Proofs.YtellmmmohdjpeaaDoor
open Go Go.Eng
structure Slt where
  day : Int
  many : Int
def slF : Slt → List DV := fun s => [.int .i64 s.day, .int .i64 s.many]
def sl0 : Slt := ⟨0, 0⟩
abbrev slts (l : List Slt) : DV := seqD 2 slF sl0 l
structure Wnt where
  v : List UInt8
  fr : Int
  to : Int
def wnF : Wnt → List DV := fun s => [.str s.v, .int .i64 s.fr, .int .i64 s.to]
def wn0 : Wnt := ⟨[], 0, 0⟩
abbrev wnts (l : List Wnt) : DV := seqD 3 wnF wn0 l
structure Plc where
  v : List UInt8
  day : Int
def plF : Plc → List DV := fun s => [.str s.v, .int .i64 s.day]
def pl0 : Plc := ⟨[], 0⟩
abbrev plcs (l : List Plc) : DV := seqD 2 plF pl0 l
structure Bsy where
  v : List UInt8
  fr : Int
  to : Int
  cents : Int
def bsF : Bsy → List DV := fun s => [.str s.v, .int .i64 s.fr, .int .i64 s.to, .int .i64 s.cents]
def bs0 : Bsy := ⟨[], 0, 0, 0⟩
abbrev bsys (l : List Bsy) : DV := seqD 4 bsF bs0 l
def sltE (l : List Slt) (i : Nat) : Int :=
  let x := l.getD i sl0
  if ¬ ((0 ≤ x.day ∧ x.day ≤ 4000) ∧ (0 ≤ x.many ∧ x.many ≤ 20)) then 1 else if 0 < i ∧ x.day ≤ (l.getD (i - 1) sl0).day then 7 else 0
def sltsE (l : List Slt) : Int := if 12 < l.length then 2 else firstAt (sltE l) l.length
def wntE (l : List Wnt) (i : Nat) : Int :=
  let x := l.getD i wn0
  if isKeyB x.v = false then 5 else if 0 < i ∧ strLe x.v (l.getD (i - 1) wn0).v = true then 7 else if ¬ ((0 ≤ x.fr ∧ x.fr ≤ x.to) ∧ x.to ≤ 4001) then 1 else 0
def wntsE (l : List Wnt) : Int := if 6 < l.length then 2 else firstAt (wntE l) l.length
def plcE (l : List Plc) (i : Nat) : Int :=
  let x := l.getD i pl0
  if isKeyB x.v = false then 5 else if 0 < i ∧ strLe x.v (l.getD (i - 1) pl0).v = true then 7 else if ¬ (0 ≤ x.day ∧ x.day ≤ 4000) then 1 else 0
def plcsE (l : List Plc) : Int := if 6 < l.length then 2 else firstAt (plcE l) l.length
def bsyE (l : List Bsy) (i : Nat) : Int :=
  let x := l.getD i bs0
  if isKeyB x.v = false then 5 else if ¬ (((0 ≤ x.fr ∧ x.fr ≤ x.to) ∧ x.to ≤ 4001) ∧ (0 ≤ x.cents ∧ x.cents ≤ 1000000)) then 1 else 0
def bsysE (l : List Bsy) : Int := if 200 < l.length then 2 else firstAt (bsyE l) l.length
def sltIx (l : List Slt) (day : Int) : Int := ixF (fun i => decide ((l.getD i sl0).day = day)) l.length
/-- How many of the first n are placed on a day. -/
def cntD (l : List Plc) (day : Int) : Nat → Int
  | 0 => 0
  | n + 1 => cntD l day n + (if (l.getD n pl0).day = day then 1 else 0)
theorem cntD_bd (l : List Plc) (day : Int) : ∀ n, 0 ≤ cntD l day n ∧ cntD l day n ≤ n := by
  intro n
  induction n with
  | zero => simp [cntD]
  | succ n ih => rw [cntD]; split <;> omega
def namesB (w : List Wnt) (l : List Plc) : Prop := w.length = l.length ∧ ∀ i, i < w.length → (w.getD i wn0).v = (l.getD i pl0).v
def setE (s : List Slt) (w : List Wnt) (l : List Plc) (i : Nat) : Int :=
  let p := l.getD i pl0
  if ¬ ((w.getD i wn0).fr ≤ p.day ∧ p.day < (w.getD i wn0).to) then 16 else if sltIx s p.day < 0 then 8 else 0
def roomE (s : List Slt) (l : List Plc) (k : Nat) : Int := if (s.getD k sl0).many < cntD l (s.getD k sl0).day l.length then 12 else 0
instance (w : List Wnt) (l : List Plc) : Decidable (namesB w l) := inferInstanceAs (Decidable (_ ∧ _))
def placedE (s : List Slt) (w : List Wnt) (l : List Plc) : Int :=
  if ¬ namesB w l then 3 else if firstAt (setE s w l) l.length ≠ 0 then firstAt (setE s w l) l.length else firstAt (roomE s l) s.length
def placeE (s : List Slt) (w : List Wnt) (l : List Plc) : Int :=
  if sltsE s ≠ 0 then sltsE s else if wntsE w ≠ 0 then wntsE w else if plcsE l ≠ 0 then plcsE l else placedE s w l
theorem slts_inc {s : List Slt} (h : sltsE s = 0) : ∀ {j i : Nat}, i < j → j < s.length → (s.getD i sl0).day < (s.getD j sl0).day := by
  unfold sltsE at h
  split at h
  · cases h
  intro j
  induction j with
  | zero => intro i h; omega
  | succ j ih =>
    intro i hi hj
    have := firstAt_all h (j + 1) hj
    unfold sltE at this
    simp only at this
    by_cases q : i = j
    · subst q; grind
    · have := ih (i := i) (by omega) (by omega); grind
theorem slts_bd {s : List Slt} (h : sltsE s = 0) : s.length ≤ 12 ∧ ∀ x ∈ s, (0 ≤ x.day ∧ x.day ≤ 4000) ∧ (0 ≤ x.many ∧ x.many ≤ 20) := by
  unfold sltsE at h
  split at h
  · cases h
  refine ⟨by omega, fun x hx => ?_⟩
  obtain ⟨i, hi, rfl⟩ := List.getElem_of_mem hx
  have := firstAt_all h i hi
  unfold sltE at this
  simp only [List.getD_eq_getElem?_getD, List.getElem?_eq_getElem hi, Option.getD_some] at this
  grind
theorem sltIx_hit {s : List Slt} (h : sltsE s = 0) {day : Int} {k : Nat} (h0 : 0 ≤ sltIx s day) (hk : k < s.length) : (s.getD k sl0).day = day ↔ k = (sltIx s day).toNat := by
  have hb := ixF_bd (p := fun i => decide ((s.getD i sl0).day = day)) (n := s.length)
  change -1 ≤ sltIx s day ∧ sltIx s day < s.length ∧ (0 ≤ sltIx s day → decide ((s.getD (sltIx s day).toNat sl0).day = day) = true) at hb
  have h1 := of_decide_eq_true (hb.2.2 h0)
  constructor
  · intro e
    rcases Nat.lt_trichotomy k (sltIx s day).toNat with q | q | q
    · have := slts_inc h q (by omega); omega
    · exact q
    · have := slts_inc h q hk; omega
  · rintro rfl; exact h1
def sumN (f : Nat → Int) : Nat → Int
  | 0 => 0
  | n + 1 => sumN f n + f n
theorem sumN_add (f g : Nat → Int) : ∀ n, sumN (fun i => f i + g i) n = sumN f n + sumN g n := by
  intro n
  induction n with
  | zero => rfl
  | succ n ih => simp only [sumN, ih]; omega
theorem sumN_zero : ∀ n, sumN (fun _ => 0) n = 0 := by
  intro n
  induction n with
  | zero => rfl
  | succ n ih => simp only [sumN, ih]; omega
theorem sumN_swap (f : Nat → Nat → Int) (m : Nat) : ∀ n, sumN (fun i => sumN (fun j => f i j) m) n = sumN (fun j => sumN (fun i => f i j) n) m := by
  intro n
  induction n with
  | zero => simp only [sumN]; exact (sumN_zero m).symm
  | succ n ih => simp only [sumN, ih]; rw [← sumN_add]
theorem sumN_bd {f : Nat → Int} {c : Int} : ∀ {n : Nat}, (∀ i, i < n → 0 ≤ f i ∧ f i ≤ c) → 0 ≤ sumN f n ∧ sumN f n ≤ n * c := by
  intro n
  induction n with
  | zero => intro _; simp [sumN]
  | succ n ih =>
    intro h
    have h1 := ih fun i hi => h i (by omega)
    have h2 := h n (by omega)
    have e : ((n + 1 : Nat) : Int) * c = n * c + c := by rw [Int.natCast_succ, Int.add_mul, Int.one_mul]
    rw [sumN, e]; omega
def lostC (b : Bsy) (p : Plc) : Int := if b.v = p.v ∧ b.fr ≤ p.day ∧ p.day < b.to then b.cents else 0
def lostP (b : List Bsy) (p : Plc) : Int := sumN (fun i => lostC (b.getD i bs0) p) b.length
def lostA (b : List Bsy) (l : List Plc) : Int := sumN (fun j => lostP b (l.getD j pl0)) l.length
theorem lost_swap (b : List Bsy) (l : List Plc) : sumN (fun i => sumN (fun j => lostC (b.getD i bs0) (l.getD j pl0)) l.length) b.length = lostA b l := sumN_swap _ _ _
theorem bsys_bd {b : List Bsy} (h : bsysE b = 0) : b.length ≤ 200 ∧ ∀ i, i < b.length → 0 ≤ (b.getD i bs0).cents ∧ (b.getD i bs0).cents ≤ 1000000 := by
  unfold bsysE at h
  split at h
  · cases h
  refine ⟨by omega, fun i hi => ?_⟩
  have := firstAt_all h i hi
  unfold bsyE at this
  simp only at this
  grind
theorem lostC_bd {b : Bsy} {p : Plc} (h : 0 ≤ b.cents ∧ b.cents ≤ 1000000) : 0 ≤ lostC b p ∧ lostC b p ≤ 1000000 := by
  unfold lostC; split <;> omega
end Go.Proofs.YtellmmmohdjpeaaDoor
set_option maxRecDepth 20000
namespace Go.Proofs.YtellmmmohdjpeaaDoor
open Go Go.Eng
def slK (_ : Slt) : Prop := True
def slOk (l : List Slt) : Prop := l.length ≤ 2^40 ∧ ∀ x ∈ l, slK x
def wnK (x : Wnt) : Prop := x.v.length ≤ 2^40
def wnOk (l : List Wnt) : Prop := l.length ≤ 2^40 ∧ ∀ x ∈ l, wnK x
def plK (x : Plc) : Prop := x.v.length ≤ 2^40
def plOk (l : List Plc) : Prop := l.length ≤ 2^40 ∧ ∀ x ∈ l, plK x
def bsK (x : Bsy) : Prop := x.v.length ≤ 2^40
def bsOk (l : List Bsy) : Prop := l.length ≤ 2^40 ∧ ∀ x ∈ l, bsK x
-- shift.span
theorem s178 (a b : Int) : FSpec Tryd.prog 178 [.d (.int .i64 a), .d (.int .i64 b)] [] (fun x r => x = .d (.bool (decide ((0 ≤ a ∧ a ≤ b) ∧ b ≤ 4001))) ∧ r = []) := by
  refine spec_of hT (C := []) Tryd.func178 rfl Tryd.call178 rfl rfl rfl ?_
  conv => whnf
  repeat' (first
    | (refine CallX.exact (s119 _ _ _) rfl rfl ?_; rotate_right; conv => whnf)
    | (refine br_intro (fun hb => ?_) (fun hb => ?_) <;> (try simp only [decide_eq_true_eq, decide_eq_false_iff_not, Bool.not_eq_true', Bool.not_eq_false', Bool.and_eq_true, Bool.or_eq_true, beq_iff_eq, not_and, Int.not_le, Int.not_lt, Int.toNat_natCast, beq_eq_false_iff_ne, ne_eq, eq_self, not_true_eq_false, not_false_eq_true] at hb) <;> (conv => whnf))
    | omega
    | (refine And.intro ?_ ?_; ((try dsimp only); first | omega | (refine ⟨by omega, by omega, Int.le_trans (Int.mul_le_mul_of_nonneg_right (Int.ofNat_le.2 (Nat.le_of_ble_eq_true (rfl : Nat.ble _ 1024 = true))) (by omega)) (by omega), by omega⟩) | (refine Nat.le_trans (Nat.mul_le_mul_left _ (Nat.le_of_ble_eq_true (rfl : Nat.ble _ 1024 = true))) ?_; omega) | (unfold inI64; omega) | (constructor <;> omega) | (simp only [inI64, List.length_cons, List.length_append, List.length_nil, List.length_set] at *; omega) | decide | (unfold inI64; decide)); conv => whnf)
    | omega | decide | assumption)
  all_goals
    refine .ret _ ?_
    conv => whnf
    refine ⟨[], ⟨?_, rfl⟩, trivial⟩
    conv => lhs; whnf
    congr 2
    first | grind | simp_all
-- shift.checkSlots
theorem s134 (l : List Slt) (hk : slOk l) : FSpec Tryd.prog 134 [.d (slts l)] [] (fun x r => x = .d (.int .i64 (sltsE l)) ∧ r = []) := by
  refine spec_of hT (C := []) Tryd.func134 rfl Tryd.call134 rfl rfl rfl ?_
  conv => whnf
  refine br_intro (fun h0 => ?_) (fun h0 => ?_)
  · simp at h0
    conv => whnf
    refine .ret _ ?_
    conv => whnf
    refine ⟨[], ⟨?_, rfl⟩, trivial⟩
    conv => lhs; whnf
    unfold sltsE; rw [if_pos (by omega)]
  simp at h0
  conv => whnf
  refine LoopX.rule hT (C := []) (ι := Nat) (fun i => i ≤ l.length ∧ ∀ j, j < i → sltE l j = 0) (fun i => mkSt [(0, .d (slts l)), (8, .d (slts l)), (9, .d (.int .i64 l.length)), (10, .d (.int .i64 i))] []) (fun i => l.length - i) 0 ⟨by omega, by omega⟩ (by refine Entails.mk' [] rfl rfl ?_ ?_ <;> repeat' (first | exact True.intro | exact SV.le_refl _ | exact Res.le_refl _ | exact SV.le_int (by omega) | exact SV.le_any _ | refine And.intro ?_ ?_)) ?_
  rintro i ⟨p1, p2⟩
  have hx : (i : Int) < l.length → slK (l.getD (i : Int).toNat sl0) := fun hi => hk.2 _ (getD_mem (by omega))
  have e1 : (i : Int).toNat = i := Int.toNat_natCast i
  have hbad : ∀ e : Int, i < l.length → e ≠ 0 → sltE l i = e → sltsE l = e := fun e h h1 h2 => by
    unfold sltsE; rw [if_neg (by omega)]
    exact firstAt_eq h p2 h1 h2
  conv => whnf
  repeat' (first
    | (refine CallX.exact (s119 _ _ _) rfl rfl ?_; rotate_right; conv => whnf)
    | (refine br_intro (fun hb => ?_) (fun hb => ?_) <;> (try simp only [decide_eq_true_eq, decide_eq_false_iff_not, Bool.not_eq_true', Bool.not_eq_false', Bool.and_eq_true, Bool.or_eq_true, beq_iff_eq, not_and, Int.not_le, Int.not_lt, Int.toNat_natCast, beq_eq_false_iff_ne, ne_eq, eq_self, not_true_eq_false, not_false_eq_true] at hb) <;> (conv => whnf))
    | (refine RegX.rule (id := 8) hT rfl [] [(0, []), (1, []), (2, []), (3, []), (4, []), (5, [3, 4]), (6, [3, 4, 5]), (7, [3, 4, 5]), (8, [3, 4]), (9, [3, 4]), (10, [3, 4]), (11, []), (12, []), (13, [])] (by decide +kernel) ?_; conv => whnf)
    | omega
    | (refine And.intro ?_ ?_; ((try dsimp only); first | omega | (refine ⟨by omega, by omega, Int.le_trans (Int.mul_le_mul_of_nonneg_right (Int.ofNat_le.2 (Nat.le_of_ble_eq_true (rfl : Nat.ble _ 1024 = true))) (by omega)) (by omega), by omega⟩) | (refine Nat.le_trans (Nat.mul_le_mul_left _ (Nat.le_of_ble_eq_true (rfl : Nat.ble _ 1024 = true))) ?_; omega) | (unfold inI64; omega) | (constructor <;> omega) | (simp only [inI64, List.length_cons, List.length_append, List.length_nil, List.length_set] at *; omega) | decide | (unfold inI64; decide)); conv => whnf)
    | omega | decide | assumption)
  all_goals first
    | (refine ⟨i + 1, ⟨by omega, first_step p2 (by clear p2 hbad hk hx; simp only [e1, toNat_pred] at *; unfold sltE ; grind)⟩, by omega, (by refine Entails.mk' [] rfl rfl ?_ ?_ <;> repeat' (first | exact True.intro | exact SV.le_refl _ | exact Res.le_refl _ | exact SV.le_int (by omega) | exact SV.le_any _ | refine And.intro ?_ ?_))⟩)
    | (refine .ret _ ?_
       conv => whnf
       refine ⟨[], ⟨?_, rfl⟩, trivial⟩
       conv => lhs; whnf
       congr 2
       first
         | exact (hbad _ (by omega) (by decide) (by clear p2 hbad hk hx; simp only [e1, toNat_pred] at *; unfold sltE ; grind)).symm
         | (have : i = l.length := by omega
            subst this
            unfold sltsE; rw [if_neg (by omega), firstAt_zero p2]))
-- SlotsFault
theorem s73 (l : List Slt) (hk : slOk l) : FSpec Tryd.prog 73 [.d (slts l)] [] (fun x r => x = .d (.int .i64 (sltsE l)) ∧ r = []) := by
  refine spec_of hT (C := []) Tryd.func73 rfl Tryd.call73 rfl rfl rfl ?_
  conv => whnf
  refine br_intro (fun h0 => ?_) (fun h0 => ?_)
  · simp at h0
    conv => whnf
    refine .ret _ ?_
    conv => whnf
    refine ⟨[], ⟨?_, rfl⟩, trivial⟩
    conv => lhs; whnf
    unfold sltsE; rw [if_pos (by omega)]
  simp at h0
  conv => whnf
  refine LoopX.rule hT (C := []) (ι := Nat) (fun i => i ≤ l.length ∧ ∀ j, j < i → sltE l j = 0) (fun i => mkSt [(0, .d (slts l)), (8, .d (slts l)), (9, .d (.int .i64 l.length)), (10, .d (.int .i64 i))] []) (fun i => l.length - i) 0 ⟨by omega, by omega⟩ (by refine Entails.mk' [] rfl rfl ?_ ?_ <;> repeat' (first | exact True.intro | exact SV.le_refl _ | exact Res.le_refl _ | exact SV.le_int (by omega) | exact SV.le_any _ | refine And.intro ?_ ?_)) ?_
  rintro i ⟨p1, p2⟩
  have hx : (i : Int) < l.length → slK (l.getD (i : Int).toNat sl0) := fun hi => hk.2 _ (getD_mem (by omega))
  have e1 : (i : Int).toNat = i := Int.toNat_natCast i
  have hbad : ∀ e : Int, i < l.length → e ≠ 0 → sltE l i = e → sltsE l = e := fun e h h1 h2 => by
    unfold sltsE; rw [if_neg (by omega)]
    exact firstAt_eq h p2 h1 h2
  conv => whnf
  repeat' (first
    | (refine CallX.exact (s109 _ _ _) rfl rfl ?_; rotate_right; conv => whnf)
    | (refine br_intro (fun hb => ?_) (fun hb => ?_) <;> (try simp only [decide_eq_true_eq, decide_eq_false_iff_not, Bool.not_eq_true', Bool.not_eq_false', Bool.and_eq_true, Bool.or_eq_true, beq_iff_eq, not_and, Int.not_le, Int.not_lt, Int.toNat_natCast, beq_eq_false_iff_ne, ne_eq, eq_self, not_true_eq_false, not_false_eq_true] at hb) <;> (conv => whnf))
    | (refine RegX.rule (id := 8) hT rfl [] [(0, []), (1, []), (2, []), (3, []), (4, []), (5, [3, 4]), (6, [3, 4, 5]), (7, [3, 4, 5]), (8, [3, 4]), (9, [3, 4]), (10, [3, 4]), (11, []), (12, [])] (by decide +kernel) ?_; conv => whnf)
    | omega
    | (refine And.intro ?_ ?_; ((try dsimp only); first | omega | (refine ⟨by omega, by omega, Int.le_trans (Int.mul_le_mul_of_nonneg_right (Int.ofNat_le.2 (Nat.le_of_ble_eq_true (rfl : Nat.ble _ 1024 = true))) (by omega)) (by omega), by omega⟩) | (refine Nat.le_trans (Nat.mul_le_mul_left _ (Nat.le_of_ble_eq_true (rfl : Nat.ble _ 1024 = true))) ?_; omega) | (unfold inI64; omega) | (constructor <;> omega) | (simp only [inI64, List.length_cons, List.length_append, List.length_nil, List.length_set] at *; omega) | decide | (unfold inI64; decide)); conv => whnf)
    | omega | decide | assumption)
  all_goals first
    | (refine ⟨i + 1, ⟨by omega, first_step p2 (by clear p2 hbad hk hx; simp only [e1, toNat_pred] at *; unfold sltE ; grind)⟩, by omega, (by refine Entails.mk' [] rfl rfl ?_ ?_ <;> repeat' (first | exact True.intro | exact SV.le_refl _ | exact Res.le_refl _ | exact SV.le_int (by omega) | exact SV.le_any _ | refine And.intro ?_ ?_))⟩)
    | (refine .ret _ ?_
       conv => whnf
       refine ⟨[], ⟨?_, rfl⟩, trivial⟩
       conv => lhs; whnf
       congr 2
       first
         | exact (hbad _ (by omega) (by decide) (by clear p2 hbad hk hx; simp only [e1, toNat_pred] at *; unfold sltE ; grind)).symm
         | (have : i = l.length := by omega
            subst this
            unfold sltsE; rw [if_neg (by omega), firstAt_zero p2]))
-- shift.checkWanted
theorem s135 (l : List Wnt) (hk : wnOk l) : FSpec Tryd.prog 135 [.d (wnts l)] [] (fun x r => x = .d (.int .i64 (wntsE l)) ∧ r = []) := by
  refine spec_of hT (C := []) Tryd.func135 rfl Tryd.call135 rfl rfl rfl ?_
  conv => whnf
  refine br_intro (fun h0 => ?_) (fun h0 => ?_)
  · simp at h0
    conv => whnf
    refine .ret _ ?_
    conv => whnf
    refine ⟨[], ⟨?_, rfl⟩, trivial⟩
    conv => lhs; whnf
    unfold wntsE; rw [if_pos (by omega)]
  simp at h0
  conv => whnf
  refine LoopX.rule hT (C := []) (ι := Nat) (fun i => i ≤ l.length ∧ ∀ j, j < i → wntE l j = 0) (fun i => mkSt [(0, .d (wnts l)), (8, .d (wnts l)), (9, .d (.int .i64 l.length)), (10, .d (.int .i64 i))] []) (fun i => l.length - i) 0 ⟨by omega, by omega⟩ (by refine Entails.mk' [] rfl rfl ?_ ?_ <;> repeat' (first | exact True.intro | exact SV.le_refl _ | exact Res.le_refl _ | exact SV.le_int (by omega) | exact SV.le_any _ | refine And.intro ?_ ?_)) ?_
  rintro i ⟨p1, p2⟩
  have hx : (i : Int) < l.length → wnK (l.getD (i : Int).toNat wn0) := fun hi => hk.2 _ (getD_mem (by omega))
  have e1 : (i : Int).toNat = i := Int.toNat_natCast i
  have hbad : ∀ e : Int, i < l.length → e ≠ 0 → wntE l i = e → wntsE l = e := fun e h h1 h2 => by
    unfold wntsE; rw [if_neg (by omega)]
    exact firstAt_eq h p2 h1 h2
  conv => whnf
  repeat' (first
    | (refine CallX.exact (s108 _ (hx (by omega))) rfl rfl ?_; rotate_right; conv => whnf)
    | (refine CallX.exact (s178 _ _) rfl rfl ?_; rotate_right; conv => whnf)
    | (refine br_intro (fun hb => ?_) (fun hb => ?_) <;> (try simp only [decide_eq_true_eq, decide_eq_false_iff_not, Bool.not_eq_true', Bool.not_eq_false', Bool.and_eq_true, Bool.or_eq_true, beq_iff_eq, not_and, Int.not_le, Int.not_lt, Int.toNat_natCast, beq_eq_false_iff_ne, ne_eq, eq_self, not_true_eq_false, not_false_eq_true] at hb) <;> (conv => whnf))
    | (refine RegX.rule (id := 8) hT rfl [] [(0, []), (1, []), (2, []), (3, []), (4, []), (5, [3, 4]), (6, [3, 4, 5]), (7, [3, 4, 5]), (8, [3, 4]), (9, [3, 4]), (10, [3, 4]), (11, []), (12, []), (13, [])] (by decide +kernel) ?_; conv => whnf)
    | omega
    | (refine And.intro ?_ ?_; ((try dsimp only); first | omega | (refine ⟨by omega, by omega, Int.le_trans (Int.mul_le_mul_of_nonneg_right (Int.ofNat_le.2 (Nat.le_of_ble_eq_true (rfl : Nat.ble _ 1024 = true))) (by omega)) (by omega), by omega⟩) | (refine Nat.le_trans (Nat.mul_le_mul_left _ (Nat.le_of_ble_eq_true (rfl : Nat.ble _ 1024 = true))) ?_; omega) | (unfold inI64; omega) | (constructor <;> omega) | (simp only [inI64, List.length_cons, List.length_append, List.length_nil, List.length_set] at *; omega) | decide | (unfold inI64; decide)); conv => whnf)
    | omega | decide | assumption)
  all_goals first
    | (refine ⟨i + 1, ⟨by omega, first_step p2 (by clear p2 hbad hk hx; simp only [e1, toNat_pred] at *; unfold wntE strLe; grind)⟩, by omega, (by refine Entails.mk' [] rfl rfl ?_ ?_ <;> repeat' (first | exact True.intro | exact SV.le_refl _ | exact Res.le_refl _ | exact SV.le_int (by omega) | exact SV.le_any _ | refine And.intro ?_ ?_))⟩)
    | (refine .ret _ ?_
       conv => whnf
       refine ⟨[], ⟨?_, rfl⟩, trivial⟩
       conv => lhs; whnf
       congr 2
       first
         | exact (hbad _ (by omega) (by decide) (by clear p2 hbad hk hx; simp only [e1, toNat_pred] at *; unfold wntE strLe; grind)).symm
         | (have : i = l.length := by omega
            subst this
            unfold wntsE; rw [if_neg (by omega), firstAt_zero p2]))
-- WantedFault
theorem s74 (l : List Wnt) (hk : wnOk l) : FSpec Tryd.prog 74 [.d (wnts l)] [] (fun x r => x = .d (.int .i64 (wntsE l)) ∧ r = []) := by
  refine spec_of hT (C := []) Tryd.func74 rfl Tryd.call74 rfl rfl rfl ?_
  conv => whnf
  refine br_intro (fun h0 => ?_) (fun h0 => ?_)
  · simp at h0
    conv => whnf
    refine .ret _ ?_
    conv => whnf
    refine ⟨[], ⟨?_, rfl⟩, trivial⟩
    conv => lhs; whnf
    unfold wntsE; rw [if_pos (by omega)]
  simp at h0
  conv => whnf
  refine LoopX.rule hT (C := []) (ι := Nat) (fun i => i ≤ l.length ∧ ∀ j, j < i → wntE l j = 0) (fun i => mkSt [(3, .d (.str (if i = 0 then [] else (l.getD (i - 1) wn0).v))), (9, .d (wnts l)), (10, .d (.int .i64 l.length)), (11, .d (.int .i64 i))] []) (fun i => l.length - i) 0 ⟨by omega, by omega⟩ (by refine Entails.mk' [] rfl rfl ?_ ?_ <;> repeat' (first | exact True.intro | exact SV.le_refl _ | exact Res.le_refl _ | exact SV.le_int (by omega) | exact SV.le_any _ | refine And.intro ?_ ?_)) ?_
  rintro i ⟨p1, p2⟩
  have hx : (i : Int) < l.length → wnK (l.getD (i : Int).toNat wn0) := fun hi => hk.2 _ (getD_mem (by omega))
  have e1 : (i : Int).toNat = i := Int.toNat_natCast i
  have hbad : ∀ e : Int, i < l.length → e ≠ 0 → wntE l i = e → wntsE l = e := fun e h h1 h2 => by
    unfold wntsE; rw [if_neg (by omega)]
    exact firstAt_eq h p2 h1 h2
  conv => whnf
  repeat' (first
    | (refine CallX.exact (s21 _ (hx (by omega))) rfl rfl ?_; rotate_right; conv => whnf)
    | (refine CallX.exact (s109 _ _ _) rfl rfl ?_; rotate_right; conv => whnf)
    | (refine br_intro (fun hb => ?_) (fun hb => ?_) <;> (try simp only [decide_eq_true_eq, decide_eq_false_iff_not, Bool.not_eq_true', Bool.not_eq_false', Bool.and_eq_true, Bool.or_eq_true, beq_iff_eq, not_and, Int.not_le, Int.not_lt, Int.toNat_natCast, beq_eq_false_iff_ne, ne_eq, eq_self, not_true_eq_false, not_false_eq_true] at hb) <;> (conv => whnf))
    | omega
    | (refine And.intro ?_ ?_; ((try dsimp only); first | omega | (refine ⟨by omega, by omega, Int.le_trans (Int.mul_le_mul_of_nonneg_right (Int.ofNat_le.2 (Nat.le_of_ble_eq_true (rfl : Nat.ble _ 1024 = true))) (by omega)) (by omega), by omega⟩) | (refine Nat.le_trans (Nat.mul_le_mul_left _ (Nat.le_of_ble_eq_true (rfl : Nat.ble _ 1024 = true))) ?_; omega) | (unfold inI64; omega) | (constructor <;> omega) | (simp only [inI64, List.length_cons, List.length_append, List.length_nil, List.length_set] at *; omega) | decide | (unfold inI64; decide)); conv => whnf)
    | omega | decide | assumption)
  all_goals first
    | (refine ⟨i + 1, ⟨by omega, first_step p2 (by clear p2 hbad hk hx; simp only [e1] at *; unfold wntE strLe; grind)⟩, by omega, Entails.mk' [] rfl rfl ⟨(by rw [show (if i + 1 = 0 then ([] : List UInt8) else (l.getD (i + 1 - 1) wn0).v) = (l.getD (i : Int).toNat wn0).v from by rw [if_neg (by omega), e1, Nat.add_sub_cancel]]; exact SV.le_refl _), SV.le_refl _, SV.le_refl _, SV.le_refl _, trivial⟩ trivial⟩)
    | (refine .ret _ ?_
       conv => whnf
       refine ⟨[], ⟨?_, rfl⟩, trivial⟩
       conv => lhs; whnf
       congr 2
       first
         | exact (hbad _ (by omega) (by decide) (by clear p2 hbad hk hx; simp only [e1] at *; unfold wntE strLe; grind [isKey_nil, less_nil])).symm
         | (have : i = l.length := by omega
            subst this
            unfold wntsE; rw [if_neg (by omega), firstAt_zero p2]))
-- shift.checkPlacedList
theorem s141 (l : List Plc) (hk : plOk l) : FSpec Tryd.prog 141 [.d (plcs l)] [] (fun x r => x = .d (.int .i64 (plcsE l)) ∧ r = []) := by
  refine spec_of hT (C := []) Tryd.func141 rfl Tryd.call141 rfl rfl rfl ?_
  conv => whnf
  refine br_intro (fun h0 => ?_) (fun h0 => ?_)
  · simp at h0
    conv => whnf
    refine .ret _ ?_
    conv => whnf
    refine ⟨[], ⟨?_, rfl⟩, trivial⟩
    conv => lhs; whnf
    unfold plcsE; rw [if_pos (by omega)]
  simp at h0
  conv => whnf
  refine LoopX.rule hT (C := []) (ι := Nat) (fun i => i ≤ l.length ∧ ∀ j, j < i → plcE l j = 0) (fun i => mkSt [(0, .d (plcs l)), (8, .d (plcs l)), (9, .d (.int .i64 l.length)), (10, .d (.int .i64 i))] []) (fun i => l.length - i) 0 ⟨by omega, by omega⟩ (by refine Entails.mk' [] rfl rfl ?_ ?_ <;> repeat' (first | exact True.intro | exact SV.le_refl _ | exact Res.le_refl _ | exact SV.le_int (by omega) | exact SV.le_any _ | refine And.intro ?_ ?_)) ?_
  rintro i ⟨p1, p2⟩
  have hx : (i : Int) < l.length → plK (l.getD (i : Int).toNat pl0) := fun hi => hk.2 _ (getD_mem (by omega))
  have e1 : (i : Int).toNat = i := Int.toNat_natCast i
  have hbad : ∀ e : Int, i < l.length → e ≠ 0 → plcE l i = e → plcsE l = e := fun e h h1 h2 => by
    unfold plcsE; rw [if_neg (by omega)]
    exact firstAt_eq h p2 h1 h2
  conv => whnf
  repeat' (first
    | (refine CallX.exact (s108 _ (hx (by omega))) rfl rfl ?_; rotate_right; conv => whnf)
    | (refine CallX.exact (s119 _ _ _) rfl rfl ?_; rotate_right; conv => whnf)
    | (refine br_intro (fun hb => ?_) (fun hb => ?_) <;> (try simp only [decide_eq_true_eq, decide_eq_false_iff_not, Bool.not_eq_true', Bool.not_eq_false', Bool.and_eq_true, Bool.or_eq_true, beq_iff_eq, not_and, Int.not_le, Int.not_lt, Int.toNat_natCast, beq_eq_false_iff_ne, ne_eq, eq_self, not_true_eq_false, not_false_eq_true] at hb) <;> (conv => whnf))
    | (refine RegX.rule (id := 8) hT rfl [] [(0, []), (1, []), (2, []), (3, []), (4, []), (5, [3, 4]), (6, [3, 4, 5]), (7, [3, 4, 5]), (8, [3, 4]), (9, [3, 4]), (10, [3, 4]), (11, []), (12, []), (13, [])] (by decide +kernel) ?_; conv => whnf)
    | omega
    | (refine And.intro ?_ ?_; ((try dsimp only); first | omega | (refine ⟨by omega, by omega, Int.le_trans (Int.mul_le_mul_of_nonneg_right (Int.ofNat_le.2 (Nat.le_of_ble_eq_true (rfl : Nat.ble _ 1024 = true))) (by omega)) (by omega), by omega⟩) | (refine Nat.le_trans (Nat.mul_le_mul_left _ (Nat.le_of_ble_eq_true (rfl : Nat.ble _ 1024 = true))) ?_; omega) | (unfold inI64; omega) | (constructor <;> omega) | (simp only [inI64, List.length_cons, List.length_append, List.length_nil, List.length_set] at *; omega) | decide | (unfold inI64; decide)); conv => whnf)
    | omega | decide | assumption)
  all_goals first
    | (refine ⟨i + 1, ⟨by omega, first_step p2 (by clear p2 hbad hk hx; simp only [e1, toNat_pred] at *; unfold plcE strLe; grind)⟩, by omega, (by refine Entails.mk' [] rfl rfl ?_ ?_ <;> repeat' (first | exact True.intro | exact SV.le_refl _ | exact Res.le_refl _ | exact SV.le_int (by omega) | exact SV.le_any _ | refine And.intro ?_ ?_))⟩)
    | (refine .ret _ ?_
       conv => whnf
       refine ⟨[], ⟨?_, rfl⟩, trivial⟩
       conv => lhs; whnf
       congr 2
       first
         | exact (hbad _ (by omega) (by decide) (by clear p2 hbad hk hx; simp only [e1, toNat_pred] at *; unfold plcE strLe; grind)).symm
         | (have : i = l.length := by omega
            subst this
            unfold plcsE; rw [if_neg (by omega), firstAt_zero p2]))
-- PlacedForm
theorem s80 (l : List Plc) (hk : plOk l) : FSpec Tryd.prog 80 [.d (plcs l)] [] (fun x r => x = .d (.int .i64 (plcsE l)) ∧ r = []) := by
  refine spec_of hT (C := []) Tryd.func80 rfl Tryd.call80 rfl rfl rfl ?_
  conv => whnf
  refine br_intro (fun h0 => ?_) (fun h0 => ?_)
  · simp at h0
    conv => whnf
    refine .ret _ ?_
    conv => whnf
    refine ⟨[], ⟨?_, rfl⟩, trivial⟩
    conv => lhs; whnf
    unfold plcsE; rw [if_pos (by omega)]
  simp at h0
  conv => whnf
  refine LoopX.rule hT (C := []) (ι := Nat) (fun i => i ≤ l.length ∧ ∀ j, j < i → plcE l j = 0) (fun i => mkSt [(3, .d (.str (if i = 0 then [] else (l.getD (i - 1) pl0).v))), (9, .d (plcs l)), (10, .d (.int .i64 l.length)), (11, .d (.int .i64 i))] []) (fun i => l.length - i) 0 ⟨by omega, by omega⟩ (by refine Entails.mk' [] rfl rfl ?_ ?_ <;> repeat' (first | exact True.intro | exact SV.le_refl _ | exact Res.le_refl _ | exact SV.le_int (by omega) | exact SV.le_any _ | refine And.intro ?_ ?_)) ?_
  rintro i ⟨p1, p2⟩
  have hx : (i : Int) < l.length → plK (l.getD (i : Int).toNat pl0) := fun hi => hk.2 _ (getD_mem (by omega))
  have e1 : (i : Int).toNat = i := Int.toNat_natCast i
  have hbad : ∀ e : Int, i < l.length → e ≠ 0 → plcE l i = e → plcsE l = e := fun e h h1 h2 => by
    unfold plcsE; rw [if_neg (by omega)]
    exact firstAt_eq h p2 h1 h2
  conv => whnf
  repeat' (first
    | (refine CallX.exact (s21 _ (hx (by omega))) rfl rfl ?_; rotate_right; conv => whnf)
    | (refine CallX.exact (s109 _ _ _) rfl rfl ?_; rotate_right; conv => whnf)
    | (refine br_intro (fun hb => ?_) (fun hb => ?_) <;> (try simp only [decide_eq_true_eq, decide_eq_false_iff_not, Bool.not_eq_true', Bool.not_eq_false', Bool.and_eq_true, Bool.or_eq_true, beq_iff_eq, not_and, Int.not_le, Int.not_lt, Int.toNat_natCast, beq_eq_false_iff_ne, ne_eq, eq_self, not_true_eq_false, not_false_eq_true] at hb) <;> (conv => whnf))
    | omega
    | (refine And.intro ?_ ?_; ((try dsimp only); first | omega | (refine ⟨by omega, by omega, Int.le_trans (Int.mul_le_mul_of_nonneg_right (Int.ofNat_le.2 (Nat.le_of_ble_eq_true (rfl : Nat.ble _ 1024 = true))) (by omega)) (by omega), by omega⟩) | (refine Nat.le_trans (Nat.mul_le_mul_left _ (Nat.le_of_ble_eq_true (rfl : Nat.ble _ 1024 = true))) ?_; omega) | (unfold inI64; omega) | (constructor <;> omega) | (simp only [inI64, List.length_cons, List.length_append, List.length_nil, List.length_set] at *; omega) | decide | (unfold inI64; decide)); conv => whnf)
    | omega | decide | assumption)
  all_goals first
    | (refine ⟨i + 1, ⟨by omega, first_step p2 (by clear p2 hbad hk hx; simp only [e1] at *; unfold plcE strLe; grind)⟩, by omega, Entails.mk' [] rfl rfl ⟨(by rw [show (if i + 1 = 0 then ([] : List UInt8) else (l.getD (i + 1 - 1) pl0).v) = (l.getD (i : Int).toNat pl0).v from by rw [if_neg (by omega), e1, Nat.add_sub_cancel]]; exact SV.le_refl _), SV.le_refl _, SV.le_refl _, SV.le_refl _, trivial⟩ trivial⟩)
    | (refine .ret _ ?_
       conv => whnf
       refine ⟨[], ⟨?_, rfl⟩, trivial⟩
       conv => lhs; whnf
       congr 2
       first
         | exact (hbad _ (by omega) (by decide) (by clear p2 hbad hk hx; simp only [e1] at *; unfold plcE strLe; grind [isKey_nil, less_nil])).symm
         | (have : i = l.length := by omega
            subst this
            unfold plcsE; rw [if_neg (by omega), firstAt_zero p2]))
-- shift.checkBusy
theorem s136 (l : List Bsy) (hk : bsOk l) : FSpec Tryd.prog 136 [.d (bsys l)] [] (fun x r => x = .d (.int .i64 (bsysE l)) ∧ r = []) := by
  refine spec_of hT (C := []) Tryd.func136 rfl Tryd.call136 rfl rfl rfl ?_
  conv => whnf
  refine br_intro (fun h0 => ?_) (fun h0 => ?_)
  · simp at h0
    conv => whnf
    refine .ret _ ?_
    conv => whnf
    refine ⟨[], ⟨?_, rfl⟩, trivial⟩
    conv => lhs; whnf
    unfold bsysE; rw [if_pos (by omega)]
  simp at h0
  conv => whnf
  refine LoopX.rule hT (C := []) (ι := Nat) (fun i => i ≤ l.length ∧ ∀ j, j < i → bsyE l j = 0) (fun i => mkSt [(8, .d (bsys l)), (9, .d (.int .i64 l.length)), (10, .d (.int .i64 i))] []) (fun i => l.length - i) 0 ⟨by omega, by omega⟩ (by refine Entails.mk' [] rfl rfl ?_ ?_ <;> repeat' (first | exact True.intro | exact SV.le_refl _ | exact Res.le_refl _ | exact SV.le_int (by omega) | exact SV.le_any _ | refine And.intro ?_ ?_)) ?_
  rintro i ⟨p1, p2⟩
  have hx : (i : Int) < l.length → bsK (l.getD (i : Int).toNat bs0) := fun hi => hk.2 _ (getD_mem (by omega))
  have e1 : (i : Int).toNat = i := Int.toNat_natCast i
  have hbad : ∀ e : Int, i < l.length → e ≠ 0 → bsyE l i = e → bsysE l = e := fun e h h1 h2 => by
    unfold bsysE; rw [if_neg (by omega)]
    exact firstAt_eq h p2 h1 h2
  conv => whnf
  repeat' (first
    | (refine CallX.exact (s108 _ (hx (by omega))) rfl rfl ?_; rotate_right; conv => whnf)
    | (refine CallX.exact (s178 _ _) rfl rfl ?_; rotate_right; conv => whnf)
    | (refine CallX.exact (s119 _ _ _) rfl rfl ?_; rotate_right; conv => whnf)
    | (refine br_intro (fun hb => ?_) (fun hb => ?_) <;> (try simp only [decide_eq_true_eq, decide_eq_false_iff_not, Bool.not_eq_true', Bool.not_eq_false', Bool.and_eq_true, Bool.or_eq_true, beq_iff_eq, not_and, Int.not_le, Int.not_lt, Int.toNat_natCast, beq_eq_false_iff_ne, ne_eq, eq_self, not_true_eq_false, not_false_eq_true] at hb) <;> (conv => whnf))
    | omega
    | (refine And.intro ?_ ?_; ((try dsimp only); first | omega | (refine ⟨by omega, by omega, Int.le_trans (Int.mul_le_mul_of_nonneg_right (Int.ofNat_le.2 (Nat.le_of_ble_eq_true (rfl : Nat.ble _ 1024 = true))) (by omega)) (by omega), by omega⟩) | (refine Nat.le_trans (Nat.mul_le_mul_left _ (Nat.le_of_ble_eq_true (rfl : Nat.ble _ 1024 = true))) ?_; omega) | (unfold inI64; omega) | (constructor <;> omega) | (simp only [inI64, List.length_cons, List.length_append, List.length_nil, List.length_set] at *; omega) | decide | (unfold inI64; decide)); conv => whnf)
    | omega | decide | assumption)
  all_goals first
    | (refine ⟨i + 1, ⟨by omega, first_step p2 (by clear p2 hbad hk hx; simp only [e1, toNat_pred] at *; unfold bsyE ; grind)⟩, by omega, (by refine Entails.mk' [] rfl rfl ?_ ?_ <;> repeat' (first | exact True.intro | exact SV.le_refl _ | exact Res.le_refl _ | exact SV.le_int (by omega) | exact SV.le_any _ | refine And.intro ?_ ?_))⟩)
    | (refine .ret _ ?_
       conv => whnf
       refine ⟨[], ⟨?_, rfl⟩, trivial⟩
       conv => lhs; whnf
       congr 2
       first
         | exact (hbad _ (by omega) (by decide) (by clear p2 hbad hk hx; simp only [e1, toNat_pred] at *; unfold bsyE ; grind)).symm
         | (have : i = l.length := by omega
            subst this
            unfold bsysE; rw [if_neg (by omega), firstAt_zero p2]))
-- BusyFault
theorem s75 (l : List Bsy) (hk : bsOk l) : FSpec Tryd.prog 75 [.d (bsys l)] [] (fun x r => x = .d (.int .i64 (bsysE l)) ∧ r = []) := by
  refine spec_of hT (C := []) Tryd.func75 rfl Tryd.call75 rfl rfl rfl ?_
  conv => whnf
  refine br_intro (fun h0 => ?_) (fun h0 => ?_)
  · simp at h0
    conv => whnf
    refine .ret _ ?_
    conv => whnf
    refine ⟨[], ⟨?_, rfl⟩, trivial⟩
    conv => lhs; whnf
    unfold bsysE; rw [if_pos (by omega)]
  simp at h0
  conv => whnf
  refine LoopX.rule hT (C := []) (ι := Nat) (fun i => i ≤ l.length ∧ ∀ j, j < i → bsyE l j = 0) (fun i => mkSt [(8, .d (bsys l)), (9, .d (.int .i64 l.length)), (10, .d (.int .i64 i))] []) (fun i => l.length - i) 0 ⟨by omega, by omega⟩ (by refine Entails.mk' [] rfl rfl ?_ ?_ <;> repeat' (first | exact True.intro | exact SV.le_refl _ | exact Res.le_refl _ | exact SV.le_int (by omega) | exact SV.le_any _ | refine And.intro ?_ ?_)) ?_
  rintro i ⟨p1, p2⟩
  have hx : (i : Int) < l.length → bsK (l.getD (i : Int).toNat bs0) := fun hi => hk.2 _ (getD_mem (by omega))
  have e1 : (i : Int).toNat = i := Int.toNat_natCast i
  have hbad : ∀ e : Int, i < l.length → e ≠ 0 → bsyE l i = e → bsysE l = e := fun e h h1 h2 => by
    unfold bsysE; rw [if_neg (by omega)]
    exact firstAt_eq h p2 h1 h2
  conv => whnf
  repeat' (first
    | (refine CallX.exact (s21 _ (hx (by omega))) rfl rfl ?_; rotate_right; conv => whnf)
    | (refine CallX.exact (s109 _ _ _) rfl rfl ?_; rotate_right; conv => whnf)
    | (refine br_intro (fun hb => ?_) (fun hb => ?_) <;> (try simp only [decide_eq_true_eq, decide_eq_false_iff_not, Bool.not_eq_true', Bool.not_eq_false', Bool.and_eq_true, Bool.or_eq_true, beq_iff_eq, not_and, Int.not_le, Int.not_lt, Int.toNat_natCast, beq_eq_false_iff_ne, ne_eq, eq_self, not_true_eq_false, not_false_eq_true] at hb) <;> (conv => whnf))
    | omega
    | (refine And.intro ?_ ?_; ((try dsimp only); first | omega | (refine ⟨by omega, by omega, Int.le_trans (Int.mul_le_mul_of_nonneg_right (Int.ofNat_le.2 (Nat.le_of_ble_eq_true (rfl : Nat.ble _ 1024 = true))) (by omega)) (by omega), by omega⟩) | (refine Nat.le_trans (Nat.mul_le_mul_left _ (Nat.le_of_ble_eq_true (rfl : Nat.ble _ 1024 = true))) ?_; omega) | (unfold inI64; omega) | (constructor <;> omega) | (simp only [inI64, List.length_cons, List.length_append, List.length_nil, List.length_set] at *; omega) | decide | (unfold inI64; decide)); conv => whnf)
    | omega | decide | assumption)
  all_goals first
    | (refine ⟨i + 1, ⟨by omega, first_step p2 (by clear p2 hbad hk hx; simp only [e1, toNat_pred] at *; unfold bsyE ; grind)⟩, by omega, (by refine Entails.mk' [] rfl rfl ?_ ?_ <;> repeat' (first | exact True.intro | exact SV.le_refl _ | exact Res.le_refl _ | exact SV.le_int (by omega) | exact SV.le_any _ | refine And.intro ?_ ?_))⟩)
    | (refine .ret _ ?_
       conv => whnf
       refine ⟨[], ⟨?_, rfl⟩, trivial⟩
       conv => lhs; whnf
       congr 2
       first
         | exact (hbad _ (by omega) (by decide) (by clear p2 hbad hk hx; simp only [e1, toNat_pred] at *; unfold bsyE ; grind)).symm
         | (have : i = l.length := by omega
            subst this
            unfold bsysE; rw [if_neg (by omega), firstAt_zero p2]))
end Go.Proofs.YtellmmmohdjpeaaDoor
set_option maxRecDepth 20000
namespace Go.Proofs.YtellmmmohdjpeaaDoor
open Go Go.Eng
theorem s143 (a : Wnt) (b : Plc) : FSpec Tryd.prog 143 [.agg ((wnF a).map .d), .agg ((plF b).map .d)] [] (fun x r => x = .d (.bool (a.v == b.v)) ∧ r = []) := by
  refine spec_of hT (C := []) Tryd.func143 rfl Tryd.call143 rfl rfl rfl ?_
  conv => whnf
  refine .ret _ ?_
  conv => whnf
  refine ⟨[], ⟨?_, rfl⟩, trivial⟩
  conv => lhs; whnf
theorem s146 (a : Wnt) (b : Plc) : FSpec Tryd.prog 146 [.agg ((wnF a).map .d), .agg ((plF b).map .d)] [] (fun x r => x = .d (.bool (a.v == b.v)) ∧ r = []) := by
  refine spec_of hT (C := []) Tryd.func146 rfl Tryd.call146 rfl rfl rfl ?_
  conv => whnf
  refine .ret _ ?_
  conv => whnf
  refine ⟨[], ⟨?_, rfl⟩, trivial⟩
  conv => lhs; whnf
-- slices.EqualFunc of wanted and placed ones
theorem s142 (g : FuncId) (w : List Wnt) (l : List Plc) (hw : w.length ≤ 2^40) (hg : ∀ a b, FSpec Tryd.prog g [.agg ((wnF a).map .d), .agg ((plF b).map .d)] [] (fun x r => x = .d (.bool (a.v == b.v)) ∧ r = [])) :
    FSpec Tryd.prog 142 [.d (wnts w), .d (plcs l), .fn g []] [] (fun x r => x = .d (.bool (decide (namesB w l))) ∧ r = []) := by
  refine spec_of hT (C := []) Tryd.func142 rfl Tryd.call142 rfl rfl rfl ?_
  conv => whnf
  repeat' (first
    | (refine br_intro (fun hb => ?_) (fun hb => ?_) <;> (try simp only [decide_eq_true_eq, decide_eq_false_iff_not, Bool.not_eq_true', Bool.not_eq_false', Bool.and_eq_true, Bool.or_eq_true, beq_iff_eq, not_and, Int.not_le, Int.not_lt, Int.toNat_natCast, beq_eq_false_iff_ne, ne_eq, eq_self, not_true_eq_false, not_false_eq_true] at hb) <;> (conv => whnf))
    | omega
    | (refine And.intro ?_ ?_; ((try dsimp only); first | omega | (refine ⟨by omega, by omega, Int.le_trans (Int.mul_le_mul_of_nonneg_right (Int.ofNat_le.2 (Nat.le_of_ble_eq_true (rfl : Nat.ble _ 1024 = true))) (by omega)) (by omega), by omega⟩) | (refine Nat.le_trans (Nat.mul_le_mul_left _ (Nat.le_of_ble_eq_true (rfl : Nat.ble _ 1024 = true))) ?_; omega) | (unfold inI64; omega) | (constructor <;> omega) | (simp only [inI64, List.length_cons, List.length_append, List.length_nil, List.length_set] at *; omega) | decide | (unfold inI64; decide)); conv => whnf)
    | omega | decide | assumption)
  · refine .ret _ ?_
    conv => whnf
    refine ⟨[], ⟨?_, rfl⟩, trivial⟩
    conv => lhs; whnf
    have : ¬ namesB w l := fun q => by have := q.1; omega
    simp [this]
  have hlen : w.length = l.length := by omega
  refine LoopX.rule hT (C := []) (ι := Nat) (fun i => i ≤ w.length ∧ ∀ j, j < i → (w.getD j wn0).v = (l.getD j pl0).v) (fun i => mkSt [(1, .d (plcs l)), (2, .fn g []), (15, .d (wnts w)), (16, .d (.int .i64 w.length)), (17, .d (.int .i64 i))] []) (fun i => w.length - i) 0 ⟨by omega, by omega⟩ (by refine Entails.mk' [] rfl rfl ?_ ?_ <;> repeat' (first | exact True.intro | exact SV.le_refl _ | exact Res.le_refl _ | exact SV.le_int (by omega) | exact SV.le_any _ | refine And.intro ?_ ?_)) ?_
  rintro i ⟨p1, p2⟩
  have e1 : (i : Int).toNat = i := Int.toNat_natCast i
  conv => whnf
  repeat' (first
    | (refine CallX.exact (hg _ _) rfl rfl ?_; rotate_right; conv => whnf)
    | (refine br_intro (fun hb => ?_) (fun hb => ?_) <;> (try simp only [decide_eq_true_eq, decide_eq_false_iff_not, Bool.not_eq_true', Bool.not_eq_false', Bool.and_eq_true, Bool.or_eq_true, beq_iff_eq, not_and, Int.not_le, Int.not_lt, Int.toNat_natCast, beq_eq_false_iff_ne, ne_eq, eq_self, not_true_eq_false, not_false_eq_true] at hb) <;> (conv => whnf))
    | omega
    | (refine And.intro ?_ ?_; ((try dsimp only); first | omega | (refine ⟨by omega, by omega, Int.le_trans (Int.mul_le_mul_of_nonneg_right (Int.ofNat_le.2 (Nat.le_of_ble_eq_true (rfl : Nat.ble _ 1024 = true))) (by omega)) (by omega), by omega⟩) | (refine Nat.le_trans (Nat.mul_le_mul_left _ (Nat.le_of_ble_eq_true (rfl : Nat.ble _ 1024 = true))) ?_; omega) | (unfold inI64; omega) | (constructor <;> omega) | (simp only [inI64, List.length_cons, List.length_append, List.length_nil, List.length_set] at *; omega) | decide | (unfold inI64; decide)); conv => whnf)
    | omega | decide | assumption)
  · refine .ret _ ?_
    conv => whnf
    refine ⟨[], ⟨?_, rfl⟩, trivial⟩
    conv => lhs; whnf
    have : ¬ namesB w l := fun q => by
      exact hb (q.2 i (by omega))
    simp [this]
  · exact ⟨i + 1, ⟨by omega, all_step p2 (by (try rw [e1] at hb); simpa using hb)⟩, by omega, (by refine Entails.mk' [] rfl rfl ?_ ?_ <;> repeat' (first | exact True.intro | exact SV.le_refl _ | exact Res.le_refl _ | exact SV.le_int (by omega) | exact SV.le_any _ | refine And.intro ?_ ?_))⟩
  · refine .ret _ ?_
    conv => whnf
    refine ⟨[], ⟨?_, rfl⟩, trivial⟩
    conv => lhs; whnf
    have hi : i = w.length := by omega
    subst hi
    have : namesB w l := ⟨hlen, p2⟩
    simp [this]
def pcell (p : Plc) : Res := .cells 130 ((plF p).map .d)
def icell (n : Int) : Res := .cells 3 [.d (.int .i64 n)]
theorem s145 (s : Slt) (p : Plc) : FSpec Tryd.prog 145 [.agg ((slF s).map .d), .ptr 1000001 0] [(1000001, pcell p)] (fun x r => x = .d (.bool (decide (s.day = p.day))) ∧ r = [(1000001, pcell p)]) := by
  refine spec_of hT (C := []) Tryd.func145 rfl Tryd.call145 rfl rfl rfl ?_
  conv => whnf
  refine .ret _ ?_
  conv => whnf
  exact ⟨[(1000001, pcell p)], ⟨rfl, rfl⟩, Res.le_refl _, trivial⟩
theorem s180 (s : Slt) (n : Int) : FSpec Tryd.prog 180 [.agg ((slF s).map .d), .ptr 1000001 0] [(1000001, icell n)] (fun x r => x = .d (.bool (decide (s.day = n))) ∧ r = [(1000001, icell n)]) := by
  refine spec_of hT (C := []) Tryd.func180 rfl Tryd.call180 rfl rfl rfl ?_
  conv => whnf
  refine .ret _ ?_
  conv => whnf
  exact ⟨[(1000001, icell n)], ⟨rfl, rfl⟩, Res.le_refl _, trivial⟩
-- slices.IndexFunc of slots
theorem s179a (l : List Slt) (hl : l.length ≤ 2^40) (p : Plc) : FSpec Tryd.prog 179 [.d (slts l), .fn 145 [.ptr 1000001 0]] [(1000001, pcell p)] (fun x r => x = .d (.int .i64 (sltIx l p.day)) ∧ r = [(1000001, pcell p)]) := by
  refine spec_of hT (C := []) Tryd.func179 rfl Tryd.call179 rfl rfl rfl ?_
  conv => whnf
  refine LoopX.rule hT (C := []) (ι := Nat) (fun i => i ≤ l.length ∧ ∀ j, j < i → decide ((l.getD j sl0).day = p.day) = false) (fun i => mkSt [(0, .d (slts l)), (1, .fn 145 [.ptr 1000001 0]), (7, .d (.int .i64 l.length)), (8, .d (.int .i64 i))] [(1000001, pcell p)]) (fun i => l.length - i) 0 ⟨by omega, by omega⟩ (by refine Entails.mk' [(1000001, 1000001)] rfl rfl ?_ ?_ <;> repeat' (first | exact True.intro | exact SV.le_refl _ | exact Res.le_refl _ | exact SV.le_int (by omega) | exact SV.le_any _ | refine And.intro ?_ ?_)) ?_
  rintro i ⟨p1, p2⟩
  have e1 : (i : Int).toNat = i := Int.toNat_natCast i
  conv => whnf
  repeat' (first
    | (refine CallX.of (s145 (l.getD (i : Int).toNat sl0) _) [(1000001, 1000001)] rfl ⟨SV.le_refl _, SV.le_refl _, trivial⟩ ⟨Res.le_refl _, trivial⟩ rfl rfl ?_; rintro x rout ⟨rfl, rfl⟩; refine ⟨rfl, ?_⟩; conv => whnf)
    | (refine br_intro (fun hb => ?_) (fun hb => ?_) <;> (try simp only [decide_eq_true_eq, decide_eq_false_iff_not, Bool.not_eq_true', Bool.not_eq_false', Bool.and_eq_true, Bool.or_eq_true, beq_iff_eq, not_and, Int.not_le, Int.not_lt, Int.toNat_natCast, beq_eq_false_iff_ne, ne_eq, eq_self, not_true_eq_false, not_false_eq_true] at hb) <;> (conv => whnf))
    | omega
    | (refine And.intro ?_ ?_; ((try dsimp only); first | omega | (refine ⟨by omega, by omega, Int.le_trans (Int.mul_le_mul_of_nonneg_right (Int.ofNat_le.2 (Nat.le_of_ble_eq_true (rfl : Nat.ble _ 1024 = true))) (by omega)) (by omega), by omega⟩) | (refine Nat.le_trans (Nat.mul_le_mul_left _ (Nat.le_of_ble_eq_true (rfl : Nat.ble _ 1024 = true))) ?_; omega) | (unfold inI64; omega) | (constructor <;> omega) | (simp only [inI64, List.length_cons, List.length_append, List.length_nil, List.length_set] at *; omega) | decide | (unfold inI64; decide)); conv => whnf)
    | omega | decide | assumption)
  · refine .ret _ ?_
    conv => whnf
    refine ⟨[(1000001, pcell p)], ⟨?_, rfl⟩, Res.le_refl _, trivial⟩
    conv => lhs; whnf
    congr 2
    exact (ixF_hit (by omega) p2 (by (try rw [e1] at hb); simpa using hb)).symm
  · exact ⟨i + 1, ⟨by omega, all_step p2 (by (try rw [e1] at hb); simpa using hb)⟩, by omega, (by refine Entails.mk' [(1000001, 1000001)] rfl rfl ?_ ?_ <;> repeat' (first | exact True.intro | exact SV.le_refl _ | exact Res.le_refl _ | exact SV.le_int (by omega) | exact SV.le_any _ | refine And.intro ?_ ?_))⟩
  · refine .ret _ ?_
    conv => whnf
    refine ⟨[(1000001, pcell p)], ⟨?_, rfl⟩, Res.le_refl _, trivial⟩
    conv => lhs; whnf
    congr 2
    have : i = l.length := by omega
    subst this
    exact (ixF_none p2).symm
theorem s179b (l : List Slt) (hl : l.length ≤ 2^40) (n : Int) : FSpec Tryd.prog 179 [.d (slts l), .fn 180 [.ptr 1000001 0]] [(1000001, icell n)] (fun x r => x = .d (.int .i64 (sltIx l n)) ∧ r = [(1000001, icell n)]) := by
  refine spec_of hT (C := []) Tryd.func179 rfl Tryd.call179 rfl rfl rfl ?_
  conv => whnf
  refine LoopX.rule hT (C := []) (ι := Nat) (fun i => i ≤ l.length ∧ ∀ j, j < i → decide ((l.getD j sl0).day = n) = false) (fun i => mkSt [(0, .d (slts l)), (1, .fn 180 [.ptr 1000001 0]), (7, .d (.int .i64 l.length)), (8, .d (.int .i64 i))] [(1000001, icell n)]) (fun i => l.length - i) 0 ⟨by omega, by omega⟩ (by refine Entails.mk' [(1000001, 1000001)] rfl rfl ?_ ?_ <;> repeat' (first | exact True.intro | exact SV.le_refl _ | exact Res.le_refl _ | exact SV.le_int (by omega) | exact SV.le_any _ | refine And.intro ?_ ?_)) ?_
  rintro i ⟨p1, p2⟩
  have e1 : (i : Int).toNat = i := Int.toNat_natCast i
  conv => whnf
  repeat' (first
    | (refine CallX.of (s180 (l.getD (i : Int).toNat sl0) _) [(1000001, 1000001)] rfl ⟨SV.le_refl _, SV.le_refl _, trivial⟩ ⟨Res.le_refl _, trivial⟩ rfl rfl ?_; rintro x rout ⟨rfl, rfl⟩; refine ⟨rfl, ?_⟩; conv => whnf)
    | (refine br_intro (fun hb => ?_) (fun hb => ?_) <;> (try simp only [decide_eq_true_eq, decide_eq_false_iff_not, Bool.not_eq_true', Bool.not_eq_false', Bool.and_eq_true, Bool.or_eq_true, beq_iff_eq, not_and, Int.not_le, Int.not_lt, Int.toNat_natCast, beq_eq_false_iff_ne, ne_eq, eq_self, not_true_eq_false, not_false_eq_true] at hb) <;> (conv => whnf))
    | omega
    | (refine And.intro ?_ ?_; ((try dsimp only); first | omega | (refine ⟨by omega, by omega, Int.le_trans (Int.mul_le_mul_of_nonneg_right (Int.ofNat_le.2 (Nat.le_of_ble_eq_true (rfl : Nat.ble _ 1024 = true))) (by omega)) (by omega), by omega⟩) | (refine Nat.le_trans (Nat.mul_le_mul_left _ (Nat.le_of_ble_eq_true (rfl : Nat.ble _ 1024 = true))) ?_; omega) | (unfold inI64; omega) | (constructor <;> omega) | (simp only [inI64, List.length_cons, List.length_append, List.length_nil, List.length_set] at *; omega) | decide | (unfold inI64; decide)); conv => whnf)
    | omega | decide | assumption)
  · refine .ret _ ?_
    conv => whnf
    refine ⟨[(1000001, icell n)], ⟨?_, rfl⟩, Res.le_refl _, trivial⟩
    conv => lhs; whnf
    congr 2
    exact (ixF_hit (by omega) p2 (by (try rw [e1] at hb); simpa using hb)).symm
  · exact ⟨i + 1, ⟨by omega, all_step p2 (by (try rw [e1] at hb); simpa using hb)⟩, by omega, (by refine Entails.mk' [(1000001, 1000001)] rfl rfl ?_ ?_ <;> repeat' (first | exact True.intro | exact SV.le_refl _ | exact Res.le_refl _ | exact SV.le_int (by omega) | exact SV.le_any _ | refine And.intro ?_ ?_))⟩
  · refine .ret _ ?_
    conv => whnf
    refine ⟨[(1000001, icell n)], ⟨?_, rfl⟩, Res.le_refl _, trivial⟩
    conv => lhs; whnf
    congr 2
    have : i = l.length := by omega
    subst this
    exact (ixF_none p2).symm
-- slices.ContainsFunc of slots
theorem s144 (l : List Slt) (hl : l.length ≤ 2^40) (p : Plc) : FSpec Tryd.prog 144 [.d (slts l), .fn 145 [.ptr 1000001 0]] [(1000001, pcell p)] (fun x r => x = .d (.bool (decide (0 ≤ sltIx l p.day))) ∧ r = [(1000001, pcell p)]) := by
  refine spec_of hT (C := []) Tryd.func144 rfl Tryd.call144 rfl rfl rfl ?_
  conv => whnf
  refine CallX.of (s179a l hl p) [(1000001, 1000001)] rfl ⟨SV.le_refl _, SV.le_refl _, trivial⟩ ⟨Res.le_refl _, trivial⟩ rfl rfl ?_
  rintro x rout ⟨rfl, rfl⟩
  refine ⟨rfl, ?_⟩
  conv => whnf
  refine .ret _ ?_
  conv => whnf
  exact ⟨[(1000001, pcell p)], ⟨rfl, rfl⟩, Res.le_refl _, trivial⟩
-- shift.slotAt
theorem s147 (l : List Slt) (hl : l.length ≤ 2^40) (n : Int) : FSpec Tryd.prog 147 [.d (slts l), .d (.int .i64 n)] [] (fun x r => x = .d (.int .i64 (sltIx l n)) ∧ r = []) := by
  refine spec_of hT (C := []) Tryd.func147 rfl Tryd.call147 rfl rfl rfl ?_
  conv => whnf
  refine CallX.of (s179b l hl n) [(1000001, 3)] rfl ⟨SV.le_refl _, SV.le_refl _, trivial⟩ ⟨Res.le_refl _, trivial⟩ rfl rfl ?_
  rintro x rout ⟨rfl, rfl⟩
  refine ⟨rfl, ?_⟩
  conv => whnf
  refine .ret _ ?_
  conv => whnf
  refine ⟨[], ⟨?_, rfl⟩, trivial⟩
  conv => lhs; whnf
end Go.Proofs.YtellmmmohdjpeaaDoor
set_option maxRecDepth 20000
namespace Go.Proofs.YtellmmmohdjpeaaDoor
open Go Go.Eng
theorem getD_zeros (n i : Nat) : (List.replicate n (0 : Int)).getD i 0 = 0 := by
  rw [List.getD_eq_getElem?_getD, List.getElem?_replicate]; split <;> rfl
theorem Res.le_zeros {n : Nat} : Res.le (.buf 3 1 ((n : Nat) : Int).toNat fun _ => [cstD (.int .i64 0)]) (seqB 3 1 iF 0 (List.replicate n 0)) :=
  Res.le_buf (by simp) (fun i hi => by simp only [rowF, getD_zeros]; rfl)
theorem sltIx_lt (s : List Slt) (n : Int) : sltIx s n < s.length := (ixF_bd (p := fun i => decide ((s.getD i sl0).day = n)) (n := s.length)).2.1
theorem plcs_bd {l : List Plc} (h : plcsE l = 0) : l.length ≤ 6 ∧ ∀ i, i < l.length → 0 ≤ (l.getD i pl0).day ∧ (l.getD i pl0).day ≤ 4000 := by
  unfold plcsE at h
  split at h
  · cases h
  refine ⟨by omega, fun i hi => ?_⟩
  have := firstAt_all h i hi
  unfold plcE at this
  simp only at this
  grind
theorem wnts_bd {l : List Wnt} (h : wntsE l = 0) : l.length ≤ 6 ∧ ∀ i, i < l.length → (0 ≤ (l.getD i wn0).fr ∧ (l.getD i wn0).fr ≤ (l.getD i wn0).to) ∧ (l.getD i wn0).to ≤ 4001 := by
  unfold wntsE at h
  split at h
  · cases h
  refine ⟨by omega, fun i hi => ?_⟩
  have := firstAt_all h i hi
  unfold wntE at this
  simp only at this
  grind
-- PlacedFault, all else right
theorem s81 (s : List Slt) (w : List Wnt) (l : List Plc) (hs : sltsE s = 0) (hw : wntsE w = 0) (hl : plcsE l = 0) : FSpec Tryd.prog 81 [.d (slts s), .d (wnts w), .d (plcs l)] [] (fun x r => x = .d (.int .i64 (placedE s w l)) ∧ r = []) := by
  obtain ⟨s1, s2⟩ := slts_bd hs
  obtain ⟨w1, w2⟩ := wnts_bd hw
  obtain ⟨l1, l2⟩ := plcs_bd hl
  refine spec_of hT (C := []) Tryd.func81 rfl Tryd.call81 rfl rfl rfl ?_
  conv => whnf
  repeat' (first
    | (refine CallX.exact (s142 143 w l (by omega) s143) rfl rfl ?_; rotate_right; conv => whnf)
    | (refine br_intro (fun hb => ?_) (fun hb => ?_) <;> (try simp only [decide_eq_true_eq, decide_eq_false_iff_not, Bool.not_eq_true', Bool.not_eq_false', Bool.and_eq_true, Bool.or_eq_true, beq_iff_eq, not_and, Int.not_le, Int.not_lt, Int.toNat_natCast, beq_eq_false_iff_ne, ne_eq, eq_self, not_true_eq_false, not_false_eq_true] at hb) <;> (conv => whnf))
    | (refine RegX.rule (id := 6) hT rfl [] [(0, []), (1, []), (2, [0, 1]), (3, [0, 1, 2]), (4, [0, 1]), (5, [0, 1]), (6, [0, 1]), (7, [0, 1, 2, 3, 4, 5, 6]), (8, [0, 1, 2, 3, 4, 5, 6, 7]), (9, [0, 1, 2, 3, 4, 5, 6]), (10, [0, 1, 2, 3, 4, 5, 6]), (11, [0, 1, 2, 3, 4, 5, 6]), (12, [0, 1, 2, 3, 4, 5, 6]), (13, []), (14, [])] (by decide +kernel) ?_; conv => whnf)
    | omega
    | (refine And.intro ?_ ?_; ((try dsimp only); first | omega | (refine ⟨by omega, by omega, Int.le_trans (Int.mul_le_mul_of_nonneg_right (Int.ofNat_le.2 (Nat.le_of_ble_eq_true (rfl : Nat.ble _ 1024 = true))) (by omega)) (by omega), by omega⟩) | (refine Nat.le_trans (Nat.mul_le_mul_left _ (Nat.le_of_ble_eq_true (rfl : Nat.ble _ 1024 = true))) ?_; omega) | (unfold inI64; omega) | (constructor <;> omega) | (simp only [inI64, List.length_cons, List.length_append, List.length_nil, List.length_set] at *; omega) | decide | (unfold inI64; decide)); conv => whnf)
    | omega | decide | assumption)
  · refine .ret _ ?_
    conv => whnf
    refine ⟨[], ⟨?_, rfl⟩, trivial⟩
    conv => lhs; whnf
    unfold placedE; rw [if_pos hb]
  have hn := hb
  have hE : placedE s w l = if firstAt (setE s w l) l.length ≠ 0 then firstAt (setE s w l) l.length else firstAt (roomE s l) s.length := by unfold placedE; rw [if_neg (by simpa using hn)]
  rw [hE]
  have hwl := hn.1
  refine LoopX.rule hT (C := []) (ι := Nat) (fun i => i ≤ l.length ∧ ∀ j, j < i → setE s w l j = 0) (fun i => mkSt [(0, .d (slts s)), (1, .d (wnts w)), (2, .d (plcs l)), (18, .d (plcs l)), (19, .d (.int .i64 l.length)), (20, .d (.int .i64 i))] []) (fun i => l.length - i) 0 ⟨by omega, by omega⟩ (by refine Entails.mk' [] rfl rfl ?_ ?_ <;> repeat' (first | exact True.intro | exact SV.le_refl _ | exact Res.le_refl _ | exact SV.le_int (by omega) | exact SV.le_any _ | refine And.intro ?_ ?_)) ?_
  rintro i ⟨p1, p2⟩
  have e1 : (i : Int).toNat = i := Int.toNat_natCast i
  have hbad : ∀ e : Int, i < l.length → e ≠ 0 → setE s w l i = e → firstAt (setE s w l) l.length = e := fun e h h1 h2 => firstAt_eq h p2 h1 h2
  have hw3 : (i : Int) < l.length → (0 ≤ (w.getD (i : Int).toNat wn0).fr ∧ (w.getD (i : Int).toNat wn0).fr ≤ (w.getD (i : Int).toNat wn0).to) ∧ (w.getD (i : Int).toNat wn0).to ≤ 4001 := fun h => w2 _ (by omega)
  conv => whnf
  repeat' (first
    | (refine CallX.exact (s109 _ _ _) rfl rfl ?_; rotate_right; conv => whnf)
    | (refine CallX.of (s144 s (by omega) (l.getD (i : Int).toNat pl0)) [(1000001, 8)] rfl ⟨SV.le_refl _, SV.le_refl _, trivial⟩ ⟨Res.le_refl _, trivial⟩ rfl rfl ?_; rintro x rout ⟨rfl, rfl⟩; refine ⟨rfl, ?_⟩; conv => whnf)
    | (refine br_intro (fun hb => ?_) (fun hb => ?_) <;> (try simp only [decide_eq_true_eq, decide_eq_false_iff_not, Bool.not_eq_true', Bool.not_eq_false', Bool.and_eq_true, Bool.or_eq_true, beq_iff_eq, not_and, Int.not_le, Int.not_lt, Int.toNat_natCast, beq_eq_false_iff_ne, ne_eq, eq_self, not_true_eq_false, not_false_eq_true] at hb) <;> (conv => whnf))
    | (refine RegX.rule (id := 6) hT rfl [] [(0, []), (1, []), (2, [0, 1]), (3, [0, 1, 2]), (4, [0, 1]), (5, [0, 1]), (6, [0, 1]), (7, [0, 1, 2, 3, 4, 5, 6]), (8, [0, 1, 2, 3, 4, 5, 6, 7]), (9, [0, 1, 2, 3, 4, 5, 6]), (10, [0, 1, 2, 3, 4, 5, 6]), (11, [0, 1, 2, 3, 4, 5, 6]), (12, [0, 1, 2, 3, 4, 5, 6]), (13, []), (14, [])] (by decide +kernel) ?_; conv => whnf)
    | omega
    | (refine And.intro ?_ ?_; ((try dsimp only); first | omega | (refine ⟨by omega, by omega, Int.le_trans (Int.mul_le_mul_of_nonneg_right (Int.ofNat_le.2 (Nat.le_of_ble_eq_true (rfl : Nat.ble _ 1024 = true))) (by omega)) (by omega), by omega⟩) | (refine Nat.le_trans (Nat.mul_le_mul_left _ (Nat.le_of_ble_eq_true (rfl : Nat.ble _ 1024 = true))) ?_; omega) | (unfold inI64; omega) | (constructor <;> omega) | (simp only [inI64, List.length_cons, List.length_append, List.length_nil, List.length_set] at *; omega) | decide | (unfold inI64; decide)); conv => whnf)
    | omega | decide | assumption)
  · refine .ret _ ?_
    conv => whnf
    refine ⟨[], ⟨?_, rfl⟩, trivial⟩
    conv => lhs; whnf
    congr 2
    rw [hbad 16 (by omega) (by decide) (by clear p2 hbad hw3 s2 w2 l2; unfold setE; simp only; rw [if_pos]; omega)]; rfl
  · refine .ret _ ?_
    conv => whnf
    refine ⟨[], ⟨?_, rfl⟩, trivial⟩
    conv => lhs; whnf
    congr 2
    rw [hbad 8 (by omega) (by decide) (by clear p2 hbad hw3 s2 w2 l2; unfold setE; simp only; rw [if_neg (by omega), if_pos (by omega)])]; rfl
  · exact ⟨i + 1, ⟨by omega, first_step p2 (by clear p2 hbad hw3 s2 w2 l2; unfold setE; simp only; rw [if_neg (by omega), if_neg (by omega)])⟩, by omega, (by refine Entails.mk' [] rfl rfl ?_ ?_ <;> repeat' (first | exact True.intro | exact SV.le_refl _ | exact Res.le_refl _ | exact SV.le_int (by omega) | exact SV.le_any _ | refine And.intro ?_ ?_))⟩
  have hi : i = l.length := by omega
  rw [hi] at p2
  rw [firstAt_zero p2, if_neg (by decide)]
  clear hbad p2 p1 hw3 e1 hb
  refine LoopX.rule hT (C := []) (ι := Nat) (fun i => i ≤ s.length ∧ ∀ j, j < i → roomE s l j = 0) (fun i => mkSt [(2, .d (plcs l)), (45, .d (slts s)), (46, .d (.int .i64 s.length)), (47, .d (.int .i64 i))] []) (fun i => s.length - i) 0 ⟨by omega, by omega⟩ (by refine Entails.mk' [] rfl rfl ?_ ?_ <;> repeat' (first | exact True.intro | exact SV.le_refl _ | exact Res.le_refl _ | exact SV.le_int (by omega) | exact SV.le_any _ | refine And.intro ?_ ?_)) ?_
  rintro i ⟨p1, p2⟩
  have e1 : (i : Int).toNat = i := Int.toNat_natCast i
  have hbad : i < s.length → roomE s l i = 12 → firstAt (roomE s l) s.length = 12 := fun h h1 => firstAt_eq h p2 (by decide) h1
  conv => whnf
  repeat' (first
    | (refine br_intro (fun hb => ?_) (fun hb => ?_) <;> (try simp only [decide_eq_true_eq, decide_eq_false_iff_not, Bool.not_eq_true', Bool.not_eq_false', Bool.and_eq_true, Bool.or_eq_true, beq_iff_eq, not_and, Int.not_le, Int.not_lt, Int.toNat_natCast, beq_eq_false_iff_ne, ne_eq, eq_self, not_true_eq_false, not_false_eq_true] at hb) <;> (conv => whnf))
    | (refine RegX.rule (id := 6) hT rfl [] [(0, []), (1, []), (2, [0, 1]), (3, [0, 1, 2]), (4, [0, 1]), (5, [0, 1]), (6, [0, 1]), (7, [0, 1, 2, 3, 4, 5, 6]), (8, [0, 1, 2, 3, 4, 5, 6, 7]), (9, [0, 1, 2, 3, 4, 5, 6]), (10, [0, 1, 2, 3, 4, 5, 6]), (11, [0, 1, 2, 3, 4, 5, 6]), (12, [0, 1, 2, 3, 4, 5, 6]), (13, []), (14, [])] (by decide +kernel) ?_; conv => whnf)
    | omega
    | (refine And.intro ?_ ?_; ((try dsimp only); first | omega | (refine ⟨by omega, by omega, Int.le_trans (Int.mul_le_mul_of_nonneg_right (Int.ofNat_le.2 (Nat.le_of_ble_eq_true (rfl : Nat.ble _ 1024 = true))) (by omega)) (by omega), by omega⟩) | (refine Nat.le_trans (Nat.mul_le_mul_left _ (Nat.le_of_ble_eq_true (rfl : Nat.ble _ 1024 = true))) ?_; omega) | (unfold inI64; omega) | (constructor <;> omega) | (simp only [inI64, List.length_cons, List.length_append, List.length_nil, List.length_set] at *; omega) | decide | (unfold inI64; decide)); conv => whnf)
    | omega | decide | assumption)
  · refine LoopX.rule hT (C := []) (ι := Nat) (fun m => m ≤ l.length) (fun m => mkSt [(2, .d (plcs l)), (10, .ptr 10 0), (11, .d (.int .i64 (cntD l (s.getD i sl0).day m))), (45, .d (slts s)), (46, .d (.int .i64 s.length)), (47, .d (.int .i64 i)), (51, .d (plcs l)), (52, .d (.int .i64 l.length)), (53, .d (.int .i64 m))] [(10, .cells 220 ((slF (s.getD i sl0)).map .d))]) (fun m => l.length - m) 0 (by omega) ?_ ?_
    · exact Entails.mk' [(10, 10)] rfl rfl ⟨SV.le_refl _, SV.le_refl _, SV.le_refl _, SV.le_refl _, SV.le_refl _, SV.le_refl _, SV.le_refl _, SV.le_refl _, SV.le_refl _, trivial⟩ ⟨by rw [e1]; exact Res.le_refl _, trivial⟩
    rintro m m1
    have e2 : (m : Int).toNat = m := Int.toNat_natCast m
    have hc := cntD_bd l (s.getD i sl0).day m
    conv => whnf
    repeat' (first
      | (refine CallX.exact (s112 _) rfl rfl ?_; rotate_right; conv => whnf)
      | (refine br_intro (fun hb => ?_) (fun hb => ?_) <;> (try simp only [decide_eq_true_eq, decide_eq_false_iff_not, Bool.not_eq_true', Bool.not_eq_false', Bool.and_eq_true, Bool.or_eq_true, beq_iff_eq, not_and, Int.not_le, Int.not_lt, Int.toNat_natCast, beq_eq_false_iff_ne, ne_eq, eq_self, not_true_eq_false, not_false_eq_true] at hb) <;> (conv => whnf))
      | (refine RegX.rule (id := 6) hT rfl [] [(0, []), (1, []), (2, [0, 1]), (3, [0, 1, 2]), (4, [0, 1]), (5, [0, 1]), (6, [0, 1]), (7, [0, 1, 2, 3, 4, 5, 6]), (8, [0, 1, 2, 3, 4, 5, 6, 7]), (9, [0, 1, 2, 3, 4, 5, 6]), (10, [0, 1, 2, 3, 4, 5, 6]), (11, [0, 1, 2, 3, 4, 5, 6]), (12, [0, 1, 2, 3, 4, 5, 6]), (13, []), (14, [])] (by decide +kernel) ?_; conv => whnf)
      | omega
      | (refine And.intro ?_ ?_; ((try dsimp only); first | omega | (refine ⟨by omega, by omega, Int.le_trans (Int.mul_le_mul_of_nonneg_right (Int.ofNat_le.2 (Nat.le_of_ble_eq_true (rfl : Nat.ble _ 1024 = true))) (by omega)) (by omega), by omega⟩) | (refine Nat.le_trans (Nat.mul_le_mul_left _ (Nat.le_of_ble_eq_true (rfl : Nat.ble _ 1024 = true))) ?_; omega) | (unfold inI64; omega) | (constructor <;> omega) | (simp only [inI64, List.length_cons, List.length_append, List.length_nil, List.length_set] at *; omega) | decide | (unfold inI64; decide)); conv => whnf)
      | omega | decide | assumption)
    · refine ⟨m + 1, by omega, by omega, Entails.mk' [(10, 10)] rfl rfl ⟨SV.le_refl _, SV.le_refl _, SV.le_int ?_, SV.le_refl _, SV.le_refl _, SV.le_refl _, SV.le_refl _, SV.le_refl _, SV.le_refl _, trivial⟩ ⟨Res.le_refl _, trivial⟩⟩
      rw [cntD, e2]
      simp only [decide_eq_true_eq]
    · refine .ret _ ?_
      conv => whnf
      refine ⟨[], ⟨?_, rfl⟩, trivial⟩
      conv => lhs; whnf
      congr 2
      have : m = l.length := by omega
      subst this
      rw [hbad (by omega) (by unfold roomE; rw [if_pos (by omega)])]
    · have : m = l.length := by omega
      subst this
      exact ⟨i + 1, ⟨by omega, first_step p2 (by unfold roomE; rw [if_neg (by omega)])⟩, by omega, (by refine Entails.mk' [] rfl rfl ?_ ?_ <;> repeat' (first | exact True.intro | exact SV.le_refl _ | exact Res.le_refl _ | exact SV.le_int (by omega) | exact SV.le_any _ | refine And.intro ?_ ?_))⟩
  · refine .ret _ ?_
    conv => whnf
    refine ⟨[], ⟨?_, rfl⟩, trivial⟩
    conv => lhs; whnf
    congr 2
    have : i = s.length := by omega
    subst this
    rw [firstAt_zero p2]
-- shift.CheckPlaced
theorem s82 (s : List Slt) (w : List Wnt) (l : List Plc) (hs : slOk s) (hw : wnOk w) (hl : plOk l) : FSpec Tryd.prog 82 [.d (slts s), .d (wnts w), .d (plcs l)] [] (fun x r => x = .d (.int .i64 (placeE s w l)) ∧ r = []) := by
  have h105 := s105 [sltsE s, wntsE w, plcsE l] (by simp)
  by_cases hE : firstE [sltsE s, wntsE w, plcsE l] = 0
  · have hs0 : sltsE s = 0 := by simp only [firstE] at hE; grind
    have hw0 : wntsE w = 0 := by simp only [firstE] at hE; grind
    have hl0 : plcsE l = 0 := by simp only [firstE] at hE; grind
    obtain ⟨s1, s2⟩ := slts_bd hs0
    obtain ⟨w1, w2⟩ := wnts_bd hw0
    obtain ⟨l1, l2⟩ := plcs_bd hl0
    have hP : placeE s w l = placedE s w l := by unfold placeE; rw [if_neg (by omega), if_neg (by omega), if_neg (by omega)]
    rw [hE] at h105
    rw [hP]
    refine spec_of hT (C := []) Tryd.func82 rfl Tryd.call82 rfl rfl rfl ?_
    conv => whnf
    repeat' (first
      | (refine CallX.exact (s134 s hs) rfl rfl ?_; rotate_right; conv => whnf)
      | (refine CallX.exact (s135 w hw) rfl rfl ?_; rotate_right; conv => whnf)
      | (refine CallX.exact (s141 l hl) rfl rfl ?_; rotate_right; conv => whnf)
      | (refine CallX.pure h105 ⟨SV.le_lit (by rfl) (by rfl), trivial⟩ rfl ?_; conv => whnf)
      | (refine CallX.exact (s142 146 w l (by omega) s146) rfl rfl ?_; rotate_right; conv => whnf)
      | (refine br_intro (fun hb => ?_) (fun hb => ?_) <;> (try simp only [decide_eq_true_eq, decide_eq_false_iff_not, Bool.not_eq_true', Bool.not_eq_false', Bool.and_eq_true, Bool.or_eq_true, beq_iff_eq, not_and, Int.not_le, Int.not_lt, Int.toNat_natCast, beq_eq_false_iff_ne, ne_eq, eq_self, not_true_eq_false, not_false_eq_true] at hb) <;> (conv => whnf))
      | (refine RegX.rule (id := 10) hT rfl [] [(0, []), (1, []), (2, [0, 1]), (3, [0, 1, 2]), (4, [0, 1]), (5, [0, 1]), (6, [0, 1]), (7, []), (8, []), (9, []), (10, []), (11, [9, 10]), (12, [9, 10, 11]), (13, [9, 10]), (14, [9, 10]), (15, [9, 10]), (16, []), (17, [])] (by decide +kernel) ?_; conv => whnf)
      | (refine RegX.rule (id := 20) hT rfl [] [(0, []), (1, [0]), (2, []), (3, []), (4, [0, 1, 2, 3]), (5, [0, 1, 2, 3]), (6, [])] (by decide +kernel) ?_; conv => whnf)
      | omega
      | (refine And.intro ?_ ?_; ((try dsimp only); first | omega | (refine ⟨by omega, by omega, Int.le_trans (Int.mul_le_mul_of_nonneg_right (Int.ofNat_le.2 (Nat.le_of_ble_eq_true (rfl : Nat.ble _ 1024 = true))) (by omega)) (by omega), by omega⟩) | (refine Nat.le_trans (Nat.mul_le_mul_left _ (Nat.le_of_ble_eq_true (rfl : Nat.ble _ 1024 = true))) ?_; omega) | (unfold inI64; omega) | (constructor <;> omega) | (simp only [inI64, List.length_cons, List.length_append, List.length_nil, List.length_set] at *; omega) | decide | (unfold inI64; decide)); conv => whnf)
      | omega | decide | assumption)
    · refine .ret _ ?_
      conv => whnf
      refine ⟨[], ⟨?_, rfl⟩, trivial⟩
      conv => lhs; whnf
      unfold placedE; rw [if_pos hb]
    have hn := hb
    have hP2 : placedE s w l = if firstAt (setE s w l) l.length ≠ 0 then firstAt (setE s w l) l.length else firstAt (roomE s l) s.length := by unfold placedE; rw [if_neg (by simpa using hn)]
    rw [hP2]
    have hwl := hn.1
    refine LoopX.rule hT (C := []) (ι := Nat × List Int) (fun (i, c) => (i ≤ l.length ∧ ∀ j, j < i → setE s w l j = 0) ∧ (c.length = s.length ∧ ∀ k, k < s.length → c.getD k 0 = cntD l (s.getD k sl0).day i))
      (fun (i, c) => mkSt [(0, .d (slts s)), (1, .d (wnts w)), (8, .buf 8), (32, .d (plcs l)), (33, .d (.int .i64 l.length)), (34, .d (.int .i64 i))] [(8, seqB 3 1 iF 0 c)]) (fun (i, _) => l.length - i) (0, List.replicate s.length 0) ⟨⟨by simp, by simp⟩, by simp, ?_⟩ ?_ ?_
    · intro k hk
      simp [cntD, hk]
    · exact Entails.mk' [(8, 31)] rfl rfl ⟨SV.le_refl _, SV.le_refl _, SV.le_refl _, SV.le_refl _, SV.le_refl _, SV.le_refl _, trivial⟩ ⟨Res.le_zeros, trivial⟩
    rintro ⟨i, c⟩ ⟨⟨p1, p2⟩, c1, c2⟩
    have e1 : (i : Int).toNat = i := Int.toNat_natCast i
    have hbad : ∀ e : Int, i < l.length → e ≠ 0 → setE s w l i = e → firstAt (setE s w l) l.length = e := fun e h h1 h2 => firstAt_eq h p2 h1 h2
    have hix := sltIx_lt s (l.getD i pl0).day
    have hcb : 0 ≤ sltIx s (l.getD i pl0).day → 0 ≤ c.getD (sltIx s (l.getD i pl0).day).toNat 0 ∧ c.getD (sltIx s (l.getD i pl0).day).toNat 0 ≤ i := fun h => by
      rw [c2 _ (by omega)]; exact cntD_bd _ _ _
    conv => whnf
    repeat' (first
      | (refine CallX.exact (s147 s (by omega) (l.getD i pl0).day) rfl rfl ?_; rotate_right; conv => whnf)
      | (refine br_intro (fun hb => ?_) (fun hb => ?_) <;> (try simp only [decide_eq_true_eq, decide_eq_false_iff_not, Bool.not_eq_true', Bool.not_eq_false', Bool.and_eq_true, Bool.or_eq_true, beq_iff_eq, not_and, Int.not_le, Int.not_lt, Int.toNat_natCast, beq_eq_false_iff_ne, ne_eq, eq_self, not_true_eq_false, not_false_eq_true] at hb) <;> (conv => whnf))
      | (refine RegX.rule (id := 10) hT rfl [] [(0, []), (1, []), (2, [0, 1]), (3, [0, 1, 2]), (4, [0, 1]), (5, [0, 1]), (6, [0, 1]), (7, []), (8, []), (9, []), (10, []), (11, [9, 10]), (12, [9, 10, 11]), (13, [9, 10]), (14, [9, 10]), (15, [9, 10]), (16, []), (17, [])] (by decide +kernel) ?_; conv => whnf)
      | (refine RegX.rule (id := 20) hT rfl [] [(0, []), (1, [0]), (2, []), (3, []), (4, [0, 1, 2, 3]), (5, [0, 1, 2, 3]), (6, [])] (by decide +kernel) ?_; conv => whnf)
      | omega
      | (refine And.intro ?_ ?_; ((try dsimp only); first | omega | (refine ⟨by omega, by omega, Int.le_trans (Int.mul_le_mul_of_nonneg_right (Int.ofNat_le.2 (Nat.le_of_ble_eq_true (rfl : Nat.ble _ 1024 = true))) (by omega)) (by omega), by omega⟩) | (refine Nat.le_trans (Nat.mul_le_mul_left _ (Nat.le_of_ble_eq_true (rfl : Nat.ble _ 1024 = true))) ?_; omega) | (unfold inI64; omega) | (constructor <;> omega) | (simp only [inI64, List.length_cons, List.length_append, List.length_nil, List.length_set] at *; omega) | decide | (unfold inI64; decide)); conv => whnf)
      | omega | decide | assumption)
    · refine .ret _ ?_
      conv => whnf
      refine ⟨[], ⟨?_, rfl⟩, trivial⟩
      conv => lhs; whnf
      congr 2
      rw [hbad 16 (by omega) (by decide) (by clear p2 hbad s2 w2 l2 hcb; unfold setE; simp only; rw [if_pos]; omega)]; rfl
    · refine .ret _ ?_
      conv => whnf
      refine ⟨[], ⟨?_, rfl⟩, trivial⟩
      conv => lhs; whnf
      congr 2
      rw [hbad 16 (by omega) (by decide) (by clear p2 hbad s2 w2 l2 hcb; unfold setE; simp only; rw [if_pos]; omega)]; rfl
    · refine .ret _ ?_
      conv => whnf
      refine ⟨[], ⟨?_, rfl⟩, trivial⟩
      conv => lhs; whnf
      congr 2
      rw [hbad 8 (by omega) (by decide) (by clear p2 hbad s2 w2 l2 hcb; unfold setE; simp only; rw [if_neg (by omega), if_pos (by omega)])]; rfl
    · refine ⟨(i + 1, c.set (sltIx s (l.getD i pl0).day).toNat (c.getD (sltIx s (l.getD i pl0).day).toNat 0 + 1)), ⟨⟨by omega, first_step p2 (by clear p2 hbad s2 w2 l2 hcb; unfold setE; simp only; rw [if_neg (by omega), if_neg (by omega)])⟩, by rw [List.length_set]; exact c1, fun k hk => ?_⟩, by show l.length - (i + 1) < l.length - i; omega,
        Entails.mk' [(8, 8)] rfl rfl ⟨SV.le_refl _, SV.le_refl _, SV.le_refl _, SV.le_refl _, SV.le_refl _, SV.le_refl _, trivial⟩ ⟨Res.le_putF (fun _ _ => rfl), trivial⟩⟩
      have hh := sltIx_hit hs0 (day := (l.getD i pl0).day) (k := k) hb hk
      rw [cntD]
      by_cases q : k = (sltIx s (l.getD i pl0).day).toNat
      · rw [if_pos (hh.2 q).symm, ← q, List.getD_eq_getElem?_getD, List.getElem?_set_self (by omega), Option.getD_some, c2 _ hk]
      · rw [if_neg (fun e => q (hh.1 e.symm)), List.getD_eq_getElem?_getD, List.getElem?_set_ne (fun e => q e.symm), ← List.getD_eq_getElem?_getD, c2 _ hk]; omega
    have hi : i = l.length := by omega
    rw [hi] at p2 c2
    rw [firstAt_zero p2, if_neg (by decide)]
    refine LoopX.rule hT (C := []) (ι := Nat) (fun i => i ≤ s.length ∧ ∀ j, j < i → roomE s l j = 0) (fun i => mkSt [(8, .buf 8), (70, .d (slts s)), (71, .d (.int .i64 s.length)), (72, .d (.int .i64 i))] [(8, seqB 3 1 iF 0 c)]) (fun i => s.length - i) 0 ⟨by omega, by omega⟩ (by refine Entails.mk' [(8, 8)] rfl rfl ?_ ?_ <;> repeat' (first | exact True.intro | exact SV.le_refl _ | exact Res.le_refl _ | exact SV.le_int (by omega) | exact SV.le_any _ | refine And.intro ?_ ?_)) ?_
    rintro k ⟨k1, k2⟩
    have hbad2 : k < s.length → roomE s l k = 12 → firstAt (roomE s l) s.length = 12 := fun h h1 => firstAt_eq h k2 (by decide) h1
    have hk0 : k < s.length → c.getD k 0 = cntD l (s.getD k sl0).day l.length := fun h => c2 k h
    conv => whnf
    repeat' (first
      | (refine br_intro (fun hb => ?_) (fun hb => ?_) <;> (try simp only [decide_eq_true_eq, decide_eq_false_iff_not, Bool.not_eq_true', Bool.not_eq_false', Bool.and_eq_true, Bool.or_eq_true, beq_iff_eq, not_and, Int.not_le, Int.not_lt, Int.toNat_natCast, beq_eq_false_iff_ne, ne_eq, eq_self, not_true_eq_false, not_false_eq_true] at hb) <;> (conv => whnf))
      | (refine RegX.rule (id := 10) hT rfl [] [(0, []), (1, []), (2, [0, 1]), (3, [0, 1, 2]), (4, [0, 1]), (5, [0, 1]), (6, [0, 1]), (7, []), (8, []), (9, []), (10, []), (11, [9, 10]), (12, [9, 10, 11]), (13, [9, 10]), (14, [9, 10]), (15, [9, 10]), (16, []), (17, [])] (by decide +kernel) ?_; conv => whnf)
      | (refine RegX.rule (id := 20) hT rfl [] [(0, []), (1, [0]), (2, []), (3, []), (4, [0, 1, 2, 3]), (5, [0, 1, 2, 3]), (6, [])] (by decide +kernel) ?_; conv => whnf)
      | omega
      | (refine And.intro ?_ ?_; ((try dsimp only); first | omega | (refine ⟨by omega, by omega, Int.le_trans (Int.mul_le_mul_of_nonneg_right (Int.ofNat_le.2 (Nat.le_of_ble_eq_true (rfl : Nat.ble _ 1024 = true))) (by omega)) (by omega), by omega⟩) | (refine Nat.le_trans (Nat.mul_le_mul_left _ (Nat.le_of_ble_eq_true (rfl : Nat.ble _ 1024 = true))) ?_; omega) | (unfold inI64; omega) | (constructor <;> omega) | (simp only [inI64, List.length_cons, List.length_append, List.length_nil, List.length_set] at *; omega) | decide | (unfold inI64; decide)); conv => whnf)
      | omega | decide | assumption)
    · refine .ret _ ?_
      conv => whnf
      refine ⟨[], ⟨?_, rfl⟩, trivial⟩
      conv => lhs; whnf
      congr 2
      rw [hbad2 (by omega) (by unfold roomE; rw [← hk0 (by omega), if_pos (by omega)])]
    · exact ⟨k + 1, ⟨by omega, first_step k2 (by unfold roomE; rw [← hk0 (by omega), if_neg (by omega)])⟩, by omega, (by refine Entails.mk' [(8, 8)] rfl rfl ?_ ?_ <;> repeat' (first | exact True.intro | exact SV.le_refl _ | exact Res.le_refl _ | exact SV.le_int (by omega) | exact SV.le_any _ | refine And.intro ?_ ?_))⟩
    · refine .ret _ ?_
      conv => whnf
      refine ⟨[], ⟨?_, rfl⟩, trivial⟩
      conv => lhs; whnf
      congr 2
      have : k = s.length := by omega
      subst this
      rw [firstAt_zero k2]
  · have hP : placeE s w l = firstE [sltsE s, wntsE w, plcsE l] := by
      unfold placeE; simp only [firstE] at hE ⊢; grind
    rw [hP]
    generalize firstE [sltsE s, wntsE w, plcsE l] = e at h105 hE
    refine spec_of hT (C := []) Tryd.func82 rfl Tryd.call82 rfl rfl rfl ?_
    conv => whnf
    repeat' (first
      | (refine CallX.exact (s134 s hs) rfl rfl ?_; rotate_right; conv => whnf)
      | (refine CallX.exact (s135 w hw) rfl rfl ?_; rotate_right; conv => whnf)
      | (refine CallX.exact (s141 l hl) rfl rfl ?_; rotate_right; conv => whnf)
      | (refine CallX.pure h105 ⟨SV.le_lit (by rfl) (by rfl), trivial⟩ rfl ?_; conv => whnf)
      | (refine br_intro (fun hb => ?_) (fun hb => ?_) <;> (try simp only [decide_eq_true_eq, decide_eq_false_iff_not, Bool.not_eq_true', Bool.not_eq_false', Bool.and_eq_true, Bool.or_eq_true, beq_iff_eq, not_and, Int.not_le, Int.not_lt, Int.toNat_natCast, beq_eq_false_iff_ne, ne_eq, eq_self, not_true_eq_false, not_false_eq_true] at hb) <;> (conv => whnf))
      | (refine RegX.rule (id := 10) hT rfl [] [(0, []), (1, []), (2, [0, 1]), (3, [0, 1, 2]), (4, [0, 1]), (5, [0, 1]), (6, [0, 1]), (7, []), (8, []), (9, []), (10, []), (11, [9, 10]), (12, [9, 10, 11]), (13, [9, 10]), (14, [9, 10]), (15, [9, 10]), (16, []), (17, [])] (by decide +kernel) ?_; conv => whnf)
      | (refine RegX.rule (id := 20) hT rfl [] [(0, []), (1, [0]), (2, []), (3, []), (4, [0, 1, 2, 3]), (5, [0, 1, 2, 3]), (6, [])] (by decide +kernel) ?_; conv => whnf)
      | omega
      | (refine And.intro ?_ ?_; ((try dsimp only); first | omega | (refine ⟨by omega, by omega, Int.le_trans (Int.mul_le_mul_of_nonneg_right (Int.ofNat_le.2 (Nat.le_of_ble_eq_true (rfl : Nat.ble _ 1024 = true))) (by omega)) (by omega), by omega⟩) | (refine Nat.le_trans (Nat.mul_le_mul_left _ (Nat.le_of_ble_eq_true (rfl : Nat.ble _ 1024 = true))) ?_; omega) | (unfold inI64; omega) | (constructor <;> omega) | (simp only [inI64, List.length_cons, List.length_append, List.length_nil, List.length_set] at *; omega) | decide | (unfold inI64; decide)); conv => whnf)
      | omega | decide | assumption)
    refine .ret _ ?_
    conv => whnf
    refine ⟨[], ⟨?_, rfl⟩, trivial⟩
    conv => lhs; whnf
end Go.Proofs.YtellmmmohdjpeaaDoor
