/- NoticesName is proved: for every input the law returns true, and its argument reads afterwards as it read before. Conditions: those of the given row alone. -/
import Derived.Test.YtcjfniddeibbhaaGreatDoorNnConTwo
import Derived.Test.YtcjfniddeibbhaaGreatDoorNnConOne
import Derived.Shelf.Small.Strs
import Derived.Test.YtcjfniddeibbhaaGreatDoorProg
set_option linter.unusedVariables false
set_option linter.unusedSimpArgs false
set_option maxRecDepth 20000
namespace Go.Proofs.YtcjfniddeibbhaaGreatDoor
open Go Go.Eng
def oTFlK21_33 : List (Nat × List Nat) := [(0, []), (1, []), (2, []), (3, []), (4, [3]), (5, [3]), (6, []), (7, []), (8, [3, 4, 5, 6, 7]), (9, []), (10, []), (11, []), (12, [])]
def vehE1 (f : Flt) (i : Nat) : Int :=
 if isKeyB (f.veh.getD i veh0).key = false then 5 else if 0 < i ∧ strLe (f.veh.getD i veh0).key (f.veh.getD (i - 1) veh0).key = true then 7
 else if clIx f.cls (f.veh.getD i veh0).cls < 0 then 8 else 0
def pltE1 (f : Flt) (i : Nat) : Int :=
 if ¬ (0 ≤ (f.plt.getD i plt0).frm ∧ (f.plt.getD i plt0).frm ≤ 5761439) then 1 else if veIx f.veh (f.plt.getD i plt0).veh < 0 then 8 else if isPlateB (f.plt.getD i plt0).plt = false then 3
 else if 0 < i ∧ 0 ≤ pltCmp (f.plt.getD (i - 1) plt0) (f.plt.getD i plt0) then 7 else if ((f.plt.take i).any (twP (f.plt.getD i plt0))) = true then 6 else 0
def fltE0 (f : Flt) : Int := firstE [stasE f.sta, clssE f.cls, if 500 < f.veh.length then 2 else 0]
def fltE (f : Flt) : Int := if fltE0 f ≠ 0 then fltE0 f else if firstAt (vehE1 f) f.veh.length ≠ 0 then firstAt (vehE1 f) f.veh.length
 else if 1000 < f.plt.length then 2 else firstAt (pltE1 f) f.plt.length
structure fltOk (f : Flt) : Prop where
 sta : stasOk f.sta
 cls : clsOk f.cls
 veh : f.veh.length ≤ 2^20 ∧ ∀ v ∈ f.veh, v.key.length ≤ 2^40 ∧ v.cls.length ≤ 2^40
 plt : f.plt.length ≤ 2^20 ∧ ∀ p ∈ f.plt, (-2^40 ≤ p.frm ∧ p.frm ≤ 2^40) ∧ p.veh.length ≤ 2^40 ∧ p.plt.length ≤ 2^40
def fltC (f : Flt) : Res := .cells 31 [.d (stas f.sta), .d (clss f.cls), .d (vehs f.veh), .d (plts f.plt)]
theorem vehE_sorted {f : Flt} (h : firstAt (vehE1 f) f.veh.length = 0) : vehS f.veh := by
 have h0 := firstAt_all h
 have step : ∀ j, j + 1 < f.veh.length → Op.bytesLess (f.veh.getD j veh0).key (f.veh.getD (j + 1) veh0).key = true := by
  intro j hj
  have := h0 (j + 1) hj
  unfold vehE1 strLe at this
  simp only [Nat.add_sub_cancel] at this
  have hl := less_tri (f.veh.getD (j + 1) veh0).key (f.veh.getD j veh0).key
  grind
 intro i j hij hj
 induction j with
 | zero => omega
 | succ j ih =>
   rcases Nat.lt_or_ge i j with q | q
   · exact less_trans (ih q (by omega)) (step j hj)
   · obtain rfl : i = j := by omega
     exact step i hj
theorem z243 (f : Flt) (hl : f.veh.length ≤ 2^20) (hs : vehS f.veh) (key : List UInt8) : FSpec Tryz.prog 243 [flt f, .d (.str key)] [] (fun x r => x = .d (.int .i64 (veIx f.veh key)) ∧ r = []) := by
 refine spec_of hT (C := []) Tryz.func243 rfl Tryz.call243 rfl rfl rfl ?_
 conv => whnf
 refine CallX.of (z286 f.veh hl hs key) [] rfl ⟨lr, lr, lr, trivial⟩ trivial rfl rfl ?_
 rintro x rout ⟨⟨j, b, rfl, hj⟩, rfl⟩
 refine ⟨rfl, ?_⟩
 conv => whnf
 repeat' (first | (refine br_intro ?_ ?_ <;> intro hb <;> (try simp only [brs] at hb) <;> conv => whnf) | omega | (refine And.intro ?_ ?_; ((try dsimp only); first | omega | (refine szA rfl ?_; omega) | (refine szB rfl ?_; omega) | (unfold inI64; omega) | (simp only [lns] at *; omega) | decide | (unfold inI64; decide)); conv => whnf) | decide | assumption)
 · refine .ret _ ?_
   conv => whnf
   refine ⟨[], ⟨?_, rfl⟩, trivial⟩
   conv => lhs; whnf
   congr 2
   rw [hj, if_neg (by simp [hb])]
 · refine .ret _ ?_
   conv => whnf
   refine ⟨[], ⟨?_, rfl⟩, trivial⟩
   conv => lhs; whnf
   congr 2
   rw [hj, if_pos hb]
set_option maxHeartbeats 4000000 in
theorem z21 (f : Flt) (hk : fltOk f) : FSpec Tryz.prog 21 [flt f] [] (fun x r => x = .d (.int .i64 (fltE f)) ∧ r = []) := by
 have hlv := hk.veh.1
 have hlp := hk.plt.1
 refine spec_of hT (C := []) Tryz.func21 rfl Tryz.call21 rfl rfl rfl ?_
 conv => whnf
 repeat' (first | (refine CallX.exact (z82 f.sta hk.sta) rfl rfl ?_; rotate_right; conv => whnf) | (refine CallX.exact (z83 f.cls hk.cls) rfl rfl ?_; rotate_right; conv => whnf) | (refine br_intro ?_ ?_ <;> intro hb <;> (try simp only [brs] at hb) <;> conv => whnf) | (refine RegX.rule (id := 33) hT rfl [] oTFlK21_33 (by decide +kernel) ?_; conv => whnf) | omega | (refine And.intro ?_ ?_; ((try dsimp only); first | omega | (refine szA rfl ?_; omega) | (refine szB rfl ?_; omega) | (unfold inI64; omega) | (simp only [lns] at *; omega) | decide | (unfold inI64; decide)); conv => whnf) | decide | assumption)
 · refine .ret _ ?_
   conv => whnf
   refine ⟨[], ⟨?_, rfl⟩, trivial⟩
   conv => lhs; whnf
   congr 2
   unfold fltE fltE0
   simp [firstE, hb]
 · refine .ret _ ?_
   conv => whnf
   refine ⟨[], ⟨?_, rfl⟩, trivial⟩
   conv => lhs; whnf
   congr 2
   have h1 : stasE f.sta = 0 := by assumption
   unfold fltE fltE0
   simp [firstE, h1, hb]
 · refine .ret _ ?_
   conv => whnf
   refine ⟨[], ⟨?_, rfl⟩, trivial⟩
   conv => lhs; whnf
   congr 2
   have h1 : stasE f.sta = 0 := by assumption
   have h2 : clssE f.cls = 0 := by assumption
   unfold fltE fltE0
   simp [firstE, h1, h2, show 500 < f.veh.length by omega]
 have F0 : fltE0 f = 0 := by
  have h1 : stasE f.sta = 0 := by assumption
  have h2 : clssE f.cls = 0 := by assumption
  unfold fltE0
  simp [firstE, h1, h2, show ¬ 500 < f.veh.length by omega]
 refine LoopX.rule hT (C := []) (ι := Nat) (fun i => i ≤ f.veh.length ∧ ∀ j, j < i → vehE1 f j = 0) (fun i => mkSt [(1, .ptr 1 0), (5, .d (.str (if i = 0 then [] else (f.veh.getD (i - 1) veh0).key))), (28, .d (vehs f.veh)), (29, .d (.int .i64 f.veh.length)), (30, .d (.int .i64 i))] [(1, fltC f)]) (fun i => f.veh.length - i) 0 ⟨by omega, by omega⟩ (by (refine Entails.mk' [(1, 1)] rfl rfl ?_ ?_ <;> repeat' (first | exact True.intro | exact lr | exact rr | exact SV.le_int (by omega) | exact SV.le_any _ | refine And.intro ?_ ?_)); done) ?_
 rintro i ⟨p1, p2⟩
 have hx : (i : Int) < f.veh.length → (f.veh.getD (i : Int).toNat veh0).key.length ≤ 2^40 ∧ (f.veh.getD (i : Int).toNat veh0).cls.length ≤ 2^40 := fun hi => hk.veh.2 _ (getD_mem (by omega))
 have e1 : (i : Int).toNat = i := Int.toNat_natCast i
 have hbad : ∀ e : Int, i < f.veh.length → e ≠ 0 → vehE1 f i = e → fltE f = e := fun e h h1 h2 => by
  unfold fltE; rw [if_neg (by omega), firstAt_eq h p2 h1 h2, if_pos h1]
 rcases Nat.lt_or_ge i f.veh.length with hi | hi
 · conv => whnf
   repeat' (first | (refine CallX.exact (s21 _ (hx (by omega)).1) rfl rfl ?_; rotate_right; conv => whnf) | (refine CallX.exact (z84 f.cls (Nat.le_trans hk.cls.1 (by decide)) _) rfl rfl ?_; rotate_right; conv => whnf) | (refine br_intro ?_ ?_ <;> intro hb <;> (try simp only [brs] at hb) <;> conv => whnf) | (refine RegX.rule (id := 33) hT rfl [] oTFlK21_33 (by decide +kernel) ?_; conv => whnf) | omega | (refine And.intro ?_ ?_; ((try dsimp only); first | omega | (refine szA rfl ?_; omega) | (refine szB rfl ?_; omega) | (unfold inI64; omega) | (simp only [lns] at *; omega) | decide | (unfold inI64; decide)); conv => whnf) | decide | assumption)
   all_goals try (exfalso; omega)
   all_goals first
    | (refine ⟨i + 1, ⟨by omega, first_step p2 (by clear p2 hbad hk hx; simp only [e1] at *; unfold vehE1 strLe; grind [isKey_nil, less_nil])⟩, by omega, Entails.mk' [(1, 1)] rfl rfl ⟨lr, (by rw [show (if i + 1 = 0 then ([] : List UInt8) else (f.veh.getD (i + 1 - 1) veh0).key) = (f.veh.getD (i : Int).toNat veh0).key from by rw [if_neg (by omega), e1, Nat.add_sub_cancel]]; exact lr), lr, lr, lr, trivial⟩ ⟨rr, trivial⟩⟩)
    | (refine .ret _ ?_
       conv => whnf
       refine ⟨[], ⟨?_, rfl⟩, trivial⟩
       conv => lhs; whnf
       congr 2
       exact (hbad _ (by omega) (by decide) (by clear p2 hbad hk hx; simp only [e1] at *; unfold vehE1 strLe; grind [isKey_nil, less_nil])).symm)
 have hil : i = f.veh.length := by omega
 subst hil
 have F1 := firstAt_zero p2
 clear hbad hx p2
 conv => whnf
 repeat' (first | (refine br_intro ?_ ?_ <;> intro hb <;> (try simp only [brs] at hb) <;> conv => whnf) | (refine RegX.rule (id := 33) hT rfl [] oTFlK21_33 (by decide +kernel) ?_; conv => whnf) | omega | (refine And.intro ?_ ?_; ((try dsimp only); first | omega | (refine szA rfl ?_; omega) | (refine szB rfl ?_; omega) | (unfold inI64; omega) | (simp only [lns] at *; omega) | decide | (unfold inI64; decide)); conv => whnf) | decide | assumption)
 all_goals try (exfalso; omega)
 · refine .ret _ ?_
   conv => whnf
   refine ⟨[], ⟨?_, rfl⟩, trivial⟩
   conv => lhs; whnf
   congr 2
   unfold fltE
   rw [if_neg (by omega), if_neg (by omega), if_pos (by omega)]
 refine LoopX.rule hT (C := []) (ι := Nat) (fun i => i ≤ f.plt.length ∧ ∀ j, j < i → pltE1 f j = 0) (fun i => mkSt [(1, .ptr 1 0), (59, .d (plts f.plt)), (60, .d (.int .i64 f.plt.length)), (61, .d (.int .i64 i))] [(1, fltC f)]) (fun i => f.plt.length - i) 0 ⟨by omega, by omega⟩ (by (refine Entails.mk' [(1, 1)] rfl rfl ?_ ?_ <;> repeat' (first | exact True.intro | exact lr | exact rr | exact SV.le_int (by omega) | exact SV.le_any _ | refine And.intro ?_ ?_)); done) ?_
 rintro i ⟨p1, p2⟩
 have hx : (i : Int) < f.plt.length → (-2^40 ≤ (f.plt.getD (i : Int).toNat plt0).frm ∧ (f.plt.getD (i : Int).toNat plt0).frm ≤ 2^40) ∧ (f.plt.getD (i : Int).toNat plt0).veh.length ≤ 2^40 ∧ (f.plt.getD (i : Int).toNat plt0).plt.length ≤ 2^40 := fun hi => hk.plt.2 _ (getD_mem (by omega))
 have e1 : (i : Int).toNat = i := Int.toNat_natCast i
 have hbad : ∀ e : Int, i < f.plt.length → e ≠ 0 → pltE1 f i = e → fltE f = e := fun e h h1 h2 => by
  unfold fltE; rw [if_neg (by omega), if_neg (by omega), if_neg (by omega), firstAt_eq h p2 h1 h2]
 rcases Nat.lt_or_ge i f.plt.length with hi | hi
 · conv => whnf
   have hx2 := hx (by omega)
   have hpb : (i : Int) > 0 → (-2^40 ≤ (f.plt.getD (0 + ((i : Int) - 1).toNat) plt0).frm ∧ (f.plt.getD (0 + ((i : Int) - 1).toNat) plt0).frm ≤ 2^40) := fun h => (hk.plt.2 _ (getD_mem (by omega))).1
   have hz : (0 : Nat) + ((i : Int) - 1).toNat = i - 1 := by omega
   repeat' (first | (refine CallX.exact (s133 _) rfl rfl ?_; rotate_right; conv => whnf) | (refine CallX.exact (z85 f (by omega) _) rfl rfl ?_; rotate_right; conv => whnf) | (refine CallX.exact (z44 _ hx2.2.2) rfl rfl ?_; rotate_right; conv => whnf) | (refine CallX.exact (z86 (f.plt.getD (0 + ((i : Int) - 1).toNat) plt0) (f.plt.getD (i : Int).toNat plt0) (hpb (by omega)) hx2.1) rfl rfl ?_; rotate_right; conv => whnf) | (refine CallX.of (z87 (f.plt.take i) (by rw [List.length_take]; omega) (f.plt.getD (i : Int).toNat plt0)) [(1000001, 9)] rfl ⟨SV.le_ro (by rw [List.length_take]; omega) (fun j hj => ?_), lr, trivial⟩ ⟨rr, trivial⟩ rfl rfl ?_; rotate_right; rintro x rout ⟨rfl, rfl⟩; refine ⟨rfl, ?_⟩; conv => whnf) | (refine br_intro ?_ ?_ <;> intro hb <;> (try simp only [brs] at hb) <;> conv => whnf) | (refine RegX.rule (id := 33) hT rfl [] oTFlK21_33 (by decide +kernel) ?_; conv => whnf) | omega | (refine And.intro ?_ ?_; ((try dsimp only); first | omega | (refine szA rfl ?_; omega) | (refine szB rfl ?_; omega) | (unfold inI64; omega) | (simp only [lns] at *; omega) | decide | (unfold inI64; decide)); conv => whnf) | decide | assumption)
   all_goals try (exfalso; omega)
   all_goals first
    | (simp only [rowF]
       have hji : j < i := by omega
       rw [show Int.toNat 0 + j = j from Nat.zero_add j, List.getD_eq_getElem?_getD, List.getD_eq_getElem?_getD, List.getElem?_take_of_lt hji]; done)
    | (refine ⟨i + 1, ⟨by omega, first_step p2 (by clear p2 hbad hk hx hx2 hpb; simp only [e1, hz] at *; unfold pltE1; grind)⟩, by omega, (by (refine Entails.mk' [(1, 1)] rfl rfl ?_ ?_ <;> repeat' (first | exact True.intro | exact lr | exact rr | exact SV.le_int (by omega) | exact SV.le_any _ | refine And.intro ?_ ?_)); done)⟩)
    | (refine .ret _ ?_
       conv => whnf
       refine ⟨[], ⟨?_, rfl⟩, trivial⟩
       conv => lhs; whnf
       congr 2
       exact (hbad _ (by omega) (by decide) (by clear p2 hbad hk hx hx2 hpb; simp only [e1, hz] at *; unfold pltE1; grind)).symm)
 have hil : i = f.plt.length := by omega
 subst hil
 have F2 := firstAt_zero p2
 clear hbad hx p2
 conv => whnf
 repeat' (first | (refine br_intro ?_ ?_ <;> intro hb <;> (try simp only [brs] at hb) <;> conv => whnf) | (refine RegX.rule (id := 33) hT rfl [] oTFlK21_33 (by decide +kernel) ?_; conv => whnf) | omega | (refine And.intro ?_ ?_; ((try dsimp only); first | omega | (refine szA rfl ?_; omega) | (refine szB rfl ?_; omega) | (unfold inI64; omega) | (simp only [lns] at *; omega) | decide | (unfold inI64; decide)); conv => whnf) | decide | assumption)
 all_goals try (exfalso; omega)
 refine .ret _ ?_
 conv => whnf
 refine ⟨[], ⟨?_, rfl⟩, trivial⟩
 conv => lhs; whnf
 congr 2
 unfold fltE
 rw [if_neg (by omega), if_neg (by omega), if_neg (by omega)]
 exact F2.symm
def oTFlL177_14 : List (Nat × List Nat) := [(0, []), (1, []), (2, [0, 1]), (3, [0, 1]), (5, [0, 1, 2, 3]), (6, [0, 1, 2, 3]), (7, [0, 1, 2, 3, 5, 6]), (8, [0, 1, 2, 3, 5, 6]), (10, [0, 1, 2, 3, 5, 6, 7, 8]), (11, [0, 1, 2, 3, 5, 6, 7, 8]), (12, [0, 1, 2, 3, 5, 6, 7, 8, 10, 11]), (13, [0, 1, 2, 3, 5, 6, 7, 8, 10, 11]), (4, [5, 6, 7, 8, 10, 11, 12, 13]), (9, [10, 11, 12, 13]), (14, []), (15, []), (16, []), (17, [])]
def oTFlL177_17 : List (Nat × List Nat) := [(0, []), (1, []), (2, []), (3, []), (4, []), (5, [3, 4]), (6, []), (7, []), (8, []), (9, [3, 4, 5, 6, 7, 8]), (10, [3, 4, 5, 6, 7, 8]), (11, []), (12, [])]
theorem pltCmp_frm {a b : Plt} (h : pltCmp a b < 0) : a.frm ≤ b.frm := by
 unfold pltCmp at h
 rw [firstE] at h
 split at h
 · rename_i q; unfold cmpI at q; split at q <;> (try split at q) <;> omega
 · unfold cmpI at h; split at h <;> (try split at h) <;> omega
theorem pltE1_cmp {f : Flt} {j : Nat} (h : pltE1 f j = 0) (hj : 0 < j) : pltCmp (f.plt.getD (j - 1) plt0) (f.plt.getD j plt0) < 0 := by
 unfold pltE1 at h; grind
theorem frm_mono {f : Flt} {i : Nat} (h : ∀ j, j ≤ i → 0 < j → pltCmp (f.plt.getD (j - 1) plt0) (f.plt.getD j plt0) < 0) : ∀ b a, a ≤ b → b ≤ i → (f.plt.getD a plt0).frm ≤ (f.plt.getD b plt0).frm := by
 intro b
 induction b with
 | zero => intro a ha _; obtain rfl : a = 0 := by omega
           exact Int.le_refl _
 | succ b ih =>
   intro a ha hb
   rcases Nat.lt_or_ge a (b + 1) with q | q
   · have h1 := ih a (by omega) (by omega)
     have h2 := pltCmp_frm (h (b + 1) hb (by omega))
     rw [Nat.add_sub_cancel] at h2
     omega
   · obtain rfl : a = b + 1 := by omega
     exact Int.le_refl _
theorem getD_take {α : Type} {l : List α} {d : α} {i j : Nat} (h : j < i) : (l.take i).getD j d = l.getD j d := by
 rw [List.getD_eq_getElem?_getD, List.getElem?_take_of_lt h, ← List.getD_eq_getElem?_getD]
theorem tw_none {f : Flt} {i m : Nat} (hi : i < f.plt.length) (hm : m ≤ i) (h1 : ∀ j, m ≤ j → j < i → twP (f.plt.getD i plt0) (f.plt.getD j plt0) = false)
 (h2 : ∀ j, j < m → (f.plt.getD j plt0).frm ≠ (f.plt.getD i plt0).frm) : (f.plt.take i).any (twP (f.plt.getD i plt0)) = false := by
 rw [List.any_eq_false]
 intro x hx
 obtain ⟨j, hj, rfl⟩ := mem_getD (d := plt0) hx
 rw [List.length_take] at hj
 rw [getD_take (by omega)]
 rcases Nat.lt_or_ge j m with q | q
 · unfold twP; simp only [decide_eq_false (h2 j q), Bool.false_and]; simp
 · rw [h1 j q (by omega)]; simp
theorem tw_some {f : Flt} {i k : Nat} (hi : i < f.plt.length) (hk : k < i) (h : twP (f.plt.getD i plt0) (f.plt.getD k plt0) = true) : (f.plt.take i).any (twP (f.plt.getD i plt0)) = true := by
 rw [List.any_eq_true]
 refine ⟨(f.plt.take i).getD k plt0, getD_mem (by rw [List.length_take]; omega), ?_⟩
 rw [getD_take hk]
 exact h
def pltsE (f : Flt) : Int := if 1000 < f.plt.length then 2 else firstAt (pltE1 f) f.plt.length
set_option maxHeartbeats 4000000 in
theorem z177 (f : Flt) (hk : fltOk f) (hs : vehS f.veh) : FSpec Tryz.prog 177 [flt f] [] (fun x r => x = .d (.int .i64 (pltsE f)) ∧ r = []) := by
 have hlv := hk.veh.1
 have hlp := hk.plt.1
 refine spec_of hT (C := []) Tryz.func177 rfl Tryz.call177 rfl rfl rfl ?_
 conv => whnf
 repeat' (first | (refine br_intro ?_ ?_ <;> intro hb <;> (try simp only [brs] at hb) <;> conv => whnf) | (refine RegX.rule (id := 14) hT rfl [] oTFlL177_14 (by decide +kernel) ?_; conv => whnf) | (refine RegX.rule (id := 17) hT rfl [] oTFlL177_17 (by decide +kernel) ?_; conv => whnf) | omega | (refine And.intro ?_ ?_; ((try dsimp only); first | omega | (refine szA rfl ?_; omega) | (refine szB rfl ?_; omega) | (unfold inI64; omega) | (simp only [lns] at *; omega) | decide | (unfold inI64; decide)); conv => whnf) | decide | assumption)
 · refine .ret _ ?_
   conv => whnf
   refine ⟨[], ⟨?_, rfl⟩, trivial⟩
   conv => lhs; whnf
   congr 2
   unfold pltsE; rw [if_pos (by omega)]
 refine LoopX.rule hT (C := []) (ι := Nat) (fun i => i ≤ f.plt.length ∧ ∀ j, j < i → pltE1 f j = 0) (fun i => mkSt [(1, .ptr 1 0), (13, .d (plts f.plt)), (14, .d (.int .i64 f.plt.length)), (15, .d (.int .i64 i))] [(1, fltC f)]) (fun i => f.plt.length - i) 0 ⟨by omega, by omega⟩ (by (refine Entails.mk' [(1, 1)] rfl rfl ?_ ?_ <;> repeat' (first | exact True.intro | exact lr | exact rr | exact SV.le_int (by omega) | exact SV.le_any _ | refine And.intro ?_ ?_)); done) ?_
 rintro i ⟨p1, p2⟩
 have hx : (i : Int) < f.plt.length → (-2^40 ≤ (f.plt.getD (i : Int).toNat plt0).frm ∧ (f.plt.getD (i : Int).toNat plt0).frm ≤ 2^40) ∧ (f.plt.getD (i : Int).toNat plt0).veh.length ≤ 2^40 ∧ (f.plt.getD (i : Int).toNat plt0).plt.length ≤ 2^40 := fun hi => hk.plt.2 _ (getD_mem (by omega))
 have e1 : (i : Int).toNat = i := Int.toNat_natCast i
 have hbad : ∀ e : Int, i < f.plt.length → e ≠ 0 → pltE1 f i = e → pltsE f = e := fun e h h1 h2 => by
  unfold pltsE; rw [if_neg (by omega), firstAt_eq h p2 h1 h2]
 rcases Nat.lt_or_ge i f.plt.length with hi | hi
 · have hx2 := hx (by omega)
   have hz : ((i : Int) - 1).toNat = i - 1 := by omega
   conv => whnf
   repeat' (first | (refine CallX.exact (s154 _) rfl rfl ?_; rotate_right; conv => whnf) | (refine CallX.exact (z243 f (by omega) hs _) rfl rfl ?_; rotate_right; conv => whnf) | (refine CallX.exact (s185 _ hx2.2.2) rfl rfl ?_; rotate_right; conv => whnf) | (refine CallX.exact (s183 _ _) rfl rfl ?_; rotate_right; conv => whnf) | (refine CallX.exact (s184 _ _) rfl rfl ?_; rotate_right; conv => whnf) | (refine CallX.pure (s182 [cmpI (f.plt.getD ((i : Int) - 1).toNat plt0).frm (f.plt.getD (i : Int).toNat plt0).frm, cmpS (f.plt.getD ((i : Int) - 1).toNat plt0).veh (f.plt.getD (i : Int).toNat plt0).veh, cmpS (f.plt.getD ((i : Int) - 1).toNat plt0).plt (f.plt.getD (i : Int).toNat plt0).plt] (by simp)) ⟨SV.le_lit (by rfl) (by rfl), trivial⟩ rfl ?_; conv => whnf) | (refine br_intro ?_ ?_ <;> intro hb <;> (try simp only [brs] at hb) <;> conv => whnf) | (refine RegX.rule (id := 14) hT rfl [] oTFlL177_14 (by decide +kernel) ?_; conv => whnf) | (refine RegX.rule (id := 17) hT rfl [] oTFlL177_17 (by decide +kernel) ?_; conv => whnf) | omega | (refine And.intro ?_ ?_; ((try dsimp only); first | omega | (refine szA rfl ?_; omega) | (refine szB rfl ?_; omega) | (unfold inI64; omega) | (simp only [lns] at *; omega) | decide | (unfold inI64; decide)); conv => whnf) | decide | assumption)
   all_goals first
    | (refine .ret _ ?_
       conv => whnf
       refine ⟨[], ⟨?_, rfl⟩, trivial⟩
       conv => lhs; whnf
       congr 2
       exact (hbad _ (by omega) (by decide) (by clear p2 hbad hk hx hx2; simp only [e1, hz] at *; unfold pltE1; (try unfold pltCmp); grind)).symm)
    | (have hcmp : 0 < i → pltCmp (f.plt.getD (i - 1) plt0) (f.plt.getD i plt0) < 0 := by
        intro _
        first
         | (exfalso; omega)
         | (clear p2 hbad hk hx hx2; simp only [e1, hz] at *; unfold pltCmp; assumption)
       have hall : ∀ j, j ≤ i → 0 < j → pltCmp (f.plt.getD (j - 1) plt0) (f.plt.getD j plt0) < 0 := fun j h1 h2 => by
        rcases Nat.lt_or_ge j i with q | q
        · exact pltE1_cmp (p2 j q) h2
        · obtain rfl : j = i := by omega
          exact hcmp h2
       have hz0 : ∀ (c : Bool), pltE1 f i = (if (f.plt.take i).any (twP (f.plt.getD i plt0)) = true then 6 else 0) := by
        intro _
        clear p2 hbad hk hx hx2; simp only [e1, hz] at *; unfold pltE1; grind
       have hz0 := hz0 true
       refine LoopX.rule hT (C := []) (ι := Nat) (fun m => m ≤ i ∧ ∀ j, m ≤ j → j < i → (f.plt.getD j plt0).frm = (f.plt.getD i plt0).frm ∧ twP (f.plt.getD i plt0) (f.plt.getD j plt0) = false)
        (fun m => mkSt [(1, .ptr 1 0), (4, .ptr 4 0), (6, .d (.int .i64 ((m : Int) - 1))), (13, .d (plts f.plt)), (14, .d (.int .i64 f.plt.length)), (15, .d (.int .i64 i))] [(1, fltC f), (4, pltC (f.plt.getD (i : Int).toNat plt0))]) (fun m => m) i ⟨by omega, fun j h1 h2 => by omega⟩ (by (refine Entails.mk' [(1, 1), (4, 4)] rfl rfl ?_ ?_ <;> repeat' (first | exact True.intro | exact lr | exact rr | exact SV.le_int (by omega) | exact SV.le_any _ | refine And.intro ?_ ?_)); done) ?_
       rintro m ⟨q1, q2⟩
       have hm1 : 0 < m → ((m : Int) - 1).toNat = m - 1 := fun h => by omega
       conv => whnf
       repeat' (first | (refine br_intro ?_ ?_ <;> intro hb <;> (try simp only [brs] at hb) <;> conv => whnf) | (refine RegX.rule (id := 14) hT rfl [] oTFlL177_14 (by decide +kernel) ?_; conv => whnf) | (refine RegX.rule (id := 17) hT rfl [] oTFlL177_17 (by decide +kernel) ?_; conv => whnf) | omega | (refine And.intro ?_ ?_; ((try dsimp only); first | omega | (refine szA rfl ?_; omega) | (refine szB rfl ?_; omega) | (unfold inI64; omega) | (simp only [lns] at *; omega) | decide | (unfold inI64; decide)); conv => whnf) | decide | assumption)
       all_goals first
        | (refine .ret _ ?_
           conv => whnf
           refine ⟨[], ⟨?_, rfl⟩, trivial⟩
           conv => lhs; whnf
           congr 2
           refine (hbad _ (by omega) (by decide) ?_).symm
           rw [hz0, if_pos (tw_some hi (k := m - 1) (by omega) (by clear p2 hbad hk hx hx2 hall; simp only [e1, hm1 (by omega)] at *; unfold twP; grind))])
        | exact ⟨m - 1, ⟨by omega, fun j h1 h2 => by
           rcases Nat.lt_or_ge j m with r | r
           · obtain rfl : j = m - 1 := by omega
             clear p2 hbad hk hx hx2 hall; simp only [e1, hm1 (by omega)] at *; unfold twP; grind
           · exact q2 j r h2⟩, by show m - 1 < m; omega, Entails.mk' [(1, 1), (4, 4)] rfl rfl ⟨lr, lr, SV.le_int (by omega), lr, lr, lr, trivial⟩ ⟨rr, rr, trivial⟩⟩
        | exact ⟨i + 1, ⟨by omega, first_step p2 (by
           rw [hz0, tw_none hi q1 (fun j h1 h2 => (q2 j h1 h2).2) (fun j h1 => by
            have h2 := frm_mono hall i (m - 1) (by omega) (by omega)
            have h3 := frm_mono hall (m - 1) j (by omega) (by omega)
            clear p2 hbad hk hx hx2 hall; simp only [e1, hm1 (by omega)] at *
            omega)]
           rfl)⟩, by omega, (by (refine Entails.mk' [(1, 1)] rfl rfl ?_ ?_ <;> repeat' (first | exact True.intro | exact lr | exact rr | exact SV.le_int (by omega) | exact SV.le_any _ | refine And.intro ?_ ?_)); done)⟩)
 have hil : i = f.plt.length := by omega
 subst hil
 have F2 := firstAt_zero p2
 clear hbad hx p2
 conv => whnf
 repeat' (first | (refine br_intro ?_ ?_ <;> intro hb <;> (try simp only [brs] at hb) <;> conv => whnf) | (refine RegX.rule (id := 14) hT rfl [] oTFlL177_14 (by decide +kernel) ?_; conv => whnf) | (refine RegX.rule (id := 17) hT rfl [] oTFlL177_17 (by decide +kernel) ?_; conv => whnf) | omega | (refine And.intro ?_ ?_; ((try dsimp only); first | omega | (refine szA rfl ?_; omega) | (refine szB rfl ?_; omega) | (unfold inI64; omega) | (simp only [lns] at *; omega) | decide | (unfold inI64; decide)); conv => whnf) | decide | assumption)
 all_goals try (exfalso; omega)
 refine .ret _ ?_
 conv => whnf
 refine ⟨[], ⟨?_, rfl⟩, trivial⟩
 conv => lhs; whnf
 congr 2
 unfold pltsE
 rw [if_neg (by omega)]
 exact F2.symm
def ntB (x : Ntc) : Prop := x.key.length ≤ 8 ∧ x.plate.length ≤ 8 ∧ (-2^41 ≤ x.came ∧ x.came ≤ 2^41)
def n3 : List (List UInt8) := [[110, 49], [110, 50], [110, 51]]
theorem pkE {l : List Int} {x : Int} (h : x ∈ l) (hl : (l.all fun y => decide (0 ≤ y) && decide (y ≤ 6000000)) = true) : 0 ≤ x ∧ x ≤ 6000000 := by
 have := List.all_eq_true.1 hl x h
 simpa using this
set_option maxHeartbeats 4000000 in
theorem sNts (n : Nat) (L : Nat → Int) (hL : Rok n L) (a : Int) (h0 : 0 ≤ a) (ha : a ≤ 2^34) :
 FSpec Tryz.prog 14 [.ptr 1000000 0] [(1000000, strm n L a)] (fun y r => (∃ l : List Ntc, allK ntB 3 l ∧ y = .d (ntcs l)) ∧ Moved n L a 200 r) := by
 refine spec_of hT (C := []) Tryz.func14 rfl Tryz.call14 rfl rfl rfl ?_
 conv => whnf
 refine LoopX.rule hT (C := []) (ι := Int × List Ntc × Nat) (fun (b, l, i) => (a ≤ b ∧ b ≤ a + 40 * i ∧ i ≤ 3) ∧ allK ntB i l ∧ l.length = i)
  (fun (b, l, i) => mkSt [(0, .ptr 1000000 0), (3, .buf 3), (8, .d (strs n3)), (9, .d (.int .i64 3)), (10, .d (.int .i64 i))] [(1000000, strm n L b), (3, seqB 54 5 ntcF ntc0 l)])
  (fun (_, _, i) => 3 - i) (a, [], 0) ⟨⟨by simp, by simp, by simp⟩, ⟨by simp, by simp⟩, rfl⟩ ?_ ?_
 · refine (Entails.nil 3 3 54 5 (rowF ntcF ntc0 []) rfl rfl (by decide)).trans (Entails.mk' [(1000000, 1000000), (3, 3)] rfl rfl ⟨lr, lr, SV.le_lit rfl rfl, lr, lr, trivial⟩ ⟨rr, rr, trivial⟩)
 rintro ⟨b, l, i⟩ ⟨⟨p1, p2, p3⟩, p4, p5⟩
 have p1 : a ≤ b := p1
 have p2 : b ≤ a + 40 * i := p2
 have p3 : i ≤ 3 := p3
 have p4 : allK ntB i l := p4
 have p5 : l.length = i := p5
 have hn3 : n3.length = 3 := rfl
 rcases Nat.lt_or_ge i 3 with hi | hi
 · have hk1 : (n3.getD (i : Int).toNat []).length ≤ 8 := mem_len (getD_mem (by omega)) rfl
   conv => whnf
   repeat' (first | (refine CallX.of (s33 n L hL _ ?_ ?_ [0, 100, 150, 400] ?_ ?_) [(1000000, 1000000)] rfl ⟨lr, SV.le_lit rfl rfl, trivial⟩ ⟨rr, trivial⟩ rfl rfl ?_; rotate_right; rintro x rout ⟨⟨u1, hu1, rfl⟩, ⟨c, c1, c2, rfl⟩⟩; have hw1 := pkE hu1 (by decide); refine ⟨rfl, ?_⟩; conv => whnf) | (refine CallX.of (s33 n L hL _ ?_ ?_ [0, 10, 14400, 5000000] ?_ ?_) [(1000000, 1000000)] rfl ⟨lr, SV.le_lit rfl rfl, trivial⟩ ⟨rr, trivial⟩ rfl rfl ?_; rotate_right; rintro x rout ⟨⟨u2, hu2, rfl⟩, ⟨c, c1, c2, rfl⟩⟩; have hw2 := pkE hu2 (by decide); refine ⟨rfl, ?_⟩; conv => whnf) | (refine CallX.of (s33 n L hL _ ?_ ?_ [0, 2000] ?_ ?_) [(1000000, 1000000)] rfl ⟨lr, SV.le_lit rfl rfl, trivial⟩ ⟨rr, trivial⟩ rfl rfl ?_; rotate_right; rintro x rout ⟨⟨u3, hu3, rfl⟩, ⟨c, c1, c2, rfl⟩⟩; refine ⟨rfl, ?_⟩; conv => whnf) | (refine CallX.of (sPlText n L hL _ ?_ ?_) [(1000000, 1000000)] rfl ⟨lr, trivial⟩ ⟨rr, trivial⟩ rfl rfl ?_; rotate_right; rintro x rout ⟨⟨u5, hu5, rfl⟩, ⟨c, c1, c2, rfl⟩⟩; refine ⟨rfl, ?_⟩; conv => whnf) | (refine br_intro ?_ ?_ <;> intro hb <;> (try simp only [brs] at hb) <;> conv => whnf) | omega | (refine And.intro ?_ ?_; ((try dsimp only); first | omega | (refine szA rfl ?_; omega) | (refine szB rfl ?_; omega) | (unfold inI64; omega) | (simp only [lns] at *; omega) | decide | (unfold inI64; decide)); conv => whnf) | decide | assumption)
   all_goals try (exfalso; omega)
   exact ⟨(c, l ++ [⟨n3.getD (i : Int).toNat [], u5, u1, u1 + u2, u3⟩], i + 1), ⟨⟨by omega, by show _ ≤ a + 40 * ((i + 1 : Nat) : Int); omega, by omega⟩, allK_snoc p4 (by omega) ⟨hk1, hu5, by show (-2^41 : Int) ≤ u1 + u2; omega, by show u1 + u2 ≤ 2^41; omega⟩, by rw [List.length_append, p5]; rfl⟩, by show 3 - (i + 1) < 3 - i; omega,
    Entails.mk' [(1000000, 1000000), (3, 32)] rfl rfl ⟨lr, lr, lr, lr, lr, trivial⟩ ⟨rr, Res.le_snocF rfl, trivial⟩⟩
 have hi3 : i = 3 := by omega
 subst hi3
 have hkey : ∀ j : Nat, j < 3 → (l.getD j ntc0).key.length ≤ 8 := fun j hj => (p4.2 _ (getD_mem (by omega))).1
 conv => whnf
 repeat' (first | (refine CallX.of (s84 n L hL _ ?_ ?_ 8 ?_) [(1000000, 1000000)] rfl ⟨lr, lr, trivial⟩ ⟨rr, trivial⟩ rfl rfl ?_; rotate_right; rintro x rout ⟨⟨w, rfl⟩, ⟨c, c1, c2, rfl⟩⟩; refine ⟨rfl, ?_⟩; conv => whnf) | (refine CallX.of (s86 n L hL _ ?_ ?_ 3 ?_) [(1000000, 1000000)] rfl ⟨lr, lr, trivial⟩ ⟨rr, trivial⟩ rfl rfl ?_; rotate_right; rintro x rout ⟨⟨j, hj1, hj2, hj3, rfl⟩, ⟨c, c1, c2, rfl⟩⟩; refine ⟨rfl, ?_⟩; conv => whnf) | (refine CallX.of (s15 n L hL _ ?_ ?_ [(l.getD j.toNat ntc0).key, [], [110, 49]] (by simp) (by simp)) [(1000000, 1000000)] rfl ⟨lr, SV.le_lit rfl rfl, trivial⟩ ⟨rr, trivial⟩ rfl rfl ?_; rotate_right; rintro x rout ⟨⟨u1, hu1, rfl⟩, ⟨c, c1, c2, rfl⟩⟩; refine ⟨rfl, ?_⟩; conv => whnf) | (refine CallX.of (s104 n L hL _ ?_ ?_ 0 500 ?_ ?_ ?_) [(1000000, 1000000)] rfl ⟨lr, lr, lr, trivial⟩ ⟨rr, trivial⟩ rfl rfl ?_; rotate_right; rintro x rout ⟨⟨o1, ho1, ho2, rfl⟩, ⟨c, c1, c2, rfl⟩⟩; refine ⟨rfl, ?_⟩; conv => whnf) | (refine CallX.of (s104 n L hL _ ?_ ?_ 0 5761439 ?_ ?_ ?_) [(1000000, 1000000)] rfl ⟨lr, lr, lr, trivial⟩ ⟨rr, trivial⟩ rfl rfl ?_; rotate_right; rintro x rout ⟨⟨o2, ho3, ho4, rfl⟩, ⟨c, c1, c2, rfl⟩⟩; refine ⟨rfl, ?_⟩; conv => whnf) | (refine CallX.of (s64 n L hL _ ?_ ?_ 0 3 ?_ ?_ ?_ ?_) [(1000000, 1000000)] rfl ⟨lr, lr, lr, trivial⟩ ⟨rr, trivial⟩ rfl rfl ?_; rotate_right; rintro x rout ⟨⟨m, hm1, hm2, rfl⟩, ⟨c, c1, c2, rfl⟩⟩; refine ⟨rfl, ?_⟩; conv => whnf) | (refine SliceX.first (lo := none) rfl ?_; conv => whnf) | (refine br_intro ?_ ?_ <;> intro hb <;> (try simp only [brs] at hb) <;> conv => whnf) | omega | (refine And.intro ?_ ?_; ((try dsimp only); first | omega | (refine szA rfl ?_; omega) | (refine szB rfl ?_; omega) | (unfold inI64; omega) | (simp only [lns] at *; omega) | decide | (unfold inI64; decide)); conv => whnf) | decide | assumption)
 · have hwk : u1.length ≤ 8 := by
    simp only [List.mem_cons, List.not_mem_nil, or_false] at hu1
    rcases hu1 with rfl | rfl | rfl
    · exact hkey _ (by omega)
    · decide
    · decide
   obtain ⟨l3, hl3⟩ : ∃ l3, l3 = updL (updL (updL l j.toNat ntc0 fun y => { y with key := u1 }) j.toNat ntc0 fun y => { y with tm := o1 }) j.toNat ntc0 fun y => { y with came := o2 } := ⟨_, rfl⟩
   have hK : allK ntB 3 l3 := by
    rw [hl3]
    exact allK_upd (g := fun y : Ntc => { y with came := o2 }) (allK_upd (g := fun y : Ntc => { y with tm := o1 }) (allK_upd (g := fun y : Ntc => { y with key := u1 }) p4 (fun y hy => ⟨hwk, hy.2⟩)) (fun y hy => hy)) (fun y hy => ⟨hy.1, hy.2.1, by show (-2^41 : Int) ≤ o2; omega, by show o2 ≤ 2^41; omega⟩)
   have hlen3 : l3.length = 3 := by rw [hl3]; simp only [List.length_set]; exact p5
   have hrow := rows_updG (f := ntcF) (d := ntc0) (rows_updG (rows_updG (l := l) (j := j.toNat) (off := 0) (ds := [.str u1]) (fun _ _ => rfl) (fun y : Ntc => { y with key := u1 }) (fun _ => rfl)) (off := 2) (ds := [.int .i64 o1]) (j := j.toNat) (fun y => { y with tm := o1 }) (fun _ => rfl)) (off := 3) (ds := [.int .i64 o2]) (j := j.toNat) (fun y => { y with came := o2 }) (fun _ => rfl)
   refine .freeze _ 63 54 5 _ _ rfl (.weak _ ?_)
   conv => whnf
   refine ⟨.d (ntcs (l3.take m.toNat)), [(1000000, strm n L _)], SV.le_ro (by rw [List.length_take, hlen3]; omega) (fun i hi => ?_), ⟨⟨l3.take m.toNat, ⟨by rw [List.length_take]; omega, fun x hx => hK.2 x (List.mem_of_mem_take hx)⟩, rfl⟩, _, by omega, by omega, rfl⟩, rr, trivial⟩
   have hi3 : i < m.toNat := by omega
   have := hrow i (by simp only [List.length_set]; omega)
   have e : rowF ntcF ntc0 (l3.take m.toNat) i = rowF ntcF ntc0 l3 i := by simp only [rowF, getD_take hi3]
   rw [e, hl3]
   exact this
 · refine .freeze _ 63 54 5 _ _ rfl (.weak _ ?_)
   conv => whnf
   refine ⟨.d (ntcs (l.take m.toNat)), [(1000000, strm n L _)], SV.le_ro (by rw [List.length_take, p5]; omega) (fun i hi => ?_), ⟨⟨l.take m.toNat, ⟨by rw [List.length_take]; omega, fun x hx => p4.2 x (List.mem_of_mem_take hx)⟩, rfl⟩, _, by omega, by omega, rfl⟩, rr, trivial⟩
   have hi3 : i < m.toNat := by omega
   simp only [rowF, getD_take hi3]
def oTToB204_3 : List (Nat × List Nat) := [(0, []), (1, [0]), (2, [0, 1]), (3, [0, 1, 2]), (5, [0, 1, 2, 3]), (6, [0, 1, 2, 3, 5]), (7, [0, 1, 2, 3, 5, 6]), (8, [0, 1, 2, 3, 5]), (9, [0, 1, 2, 3, 5, 6, 7, 8]), (10, [0, 1, 2, 3, 5]), (11, [0, 1, 2, 3]), (12, [0, 1, 2, 3]), (4, [0, 1, 5, 6, 7, 8, 9, 10, 11, 12]), (13, [0, 1]), (14, [])]
theorem RowIn.ext {G : Hp} {w : World} {e k n m : Nat} {v : Value} {g h : Nat → List DV} (hn : n = m) (hg : ∀ i, i < n → g i = h i) (q : RowIn G w e k v n g) : RowIn G w e k v m h := by
 subst hn
 obtain ⟨xs, h1, h2, h3⟩ := q
 exact ⟨xs, h1, fun i hi => by rw [← hg i hi]; exact h2 i hi, fun i j x hi hx => h3 i j x hi (by rw [hg i hi]; exact hx)⟩
theorem Res.le_mapR {kk : KK} {e k : Nat} {has has' : List DV → Bool} {len len' : List DV → Nat} {get get' : List DV → Nat → List DV}
 (h : ∀ key, wk [kk] key = true → has key = has' key ∧ len key = len' key ∧ ∀ i, i < len key → get key i = get' key i) : Res.le (.mapR kk e k has len get none) (.mapR kk e k has' len' get' none) := by
 refine ⟨rfl, fun G β w d => ?_⟩
 rintro ⟨r, es, clock, l, h1, h2, h3, h4, h5, h6, h7, h8, h9⟩
 refine ⟨r, es, clock, l, h1, h2, h3, h4, h5, h6, fun key hk => ?_, h8, h9⟩
 have := h7 key hk
 obtain ⟨a1, a2, a3⟩ := h key hk
 cases hf : l.find? (fun p => keyEq key p.1) with
 | some p =>
   rw [hf] at this
   exact ⟨a1 ▸ this.1, fun hh => RowIn.ext a2 a3 (this.2 hh)⟩
 | none =>
   rw [hf] at this
   exact ⟨a1 ▸ this.1, a2 ▸ this.2⟩
def strK : List DV → List UInt8
 | [.str p] => p
 | _ => []
theorem strK_wk {k : List DV} (h : wk [.str] k = true) : k = [.str (strK k)] := by
 cases k with
 | nil => cases h
 | cons x k =>
   cases k with
   | cons y k => simp [wk] at h
   | nil => cases x <;> simp [wk, wk1] at h <;> rfl
theorem keyEq_str (k : List DV) (h : wk [.str] k = true) (p : List UInt8) : keyEq k [.str p] = decide (strK k = p) := by
 have h1 := strK_wk h
 generalize strK k = q at h1 ⊢
 subst h1
 simp only [keyEq, keyEq1, Bool.and_true]
 rw [Bool.eq_iff_iff]; simp
def hldF : Hld → List DV := fun h => [.str h.veh, .int .i64 h.frm, .int .i64 h.til]
def hld0 : Hld := ⟨[], 0, 0⟩
def mS (H : List UInt8 → Bool) (V : List UInt8 → List UInt8) : Res := .map false false [.str] [.str []] (fun k => H (strK k)) (fun k => [.str (V (strK k))])
def mI (H : List UInt8 → Bool) (D : List UInt8 → Int) : Res := .map false false [.str] [.int .i64 0] (fun k => H (strK k)) (fun k => [.int .i64 (D (strK k))])
def mO (o : List UInt8 → List Hld) : Res := .mapR .str 247 3 (fun k => !(o (strK k)).isEmpty) (fun k => (o (strK k)).length) (fun k i => rowF hldF hld0 (o (strK k)) i) none
def pH (L : List Plt) (p : List UInt8) : Bool := (findP L p).isSome
def pV (L : List Plt) (p : List UInt8) : List UInt8 := match findP L p with | some e => e.veh | none => []
def qH (L : List Plt) (v : List UInt8) : Bool := (findV L v).isSome
def qV (L : List Plt) (v : List UInt8) : List UInt8 := match findV L v with | some e => e.plt | none => []
theorem findP_filter (L : List Plt) (p q : List UInt8) : findP (L.filter fun e => !decide (e.plt = p)) q = if q = p then none else findP L q := by
 unfold findP
 rw [List.find?_filter]
 by_cases h : q = p
 · rw [if_pos h, List.find?_eq_none]
   intro e _; subst h; simp
 · rw [if_neg h]
   congr 1; funext e
   by_cases he : e.plt = q
   · simp [he, h]
   · simp [he]
theorem findV_some {L : List Plt} {v : List UInt8} {e : Plt} (h : findV L v = some e) : e ∈ L ∧ e.veh = v :=
 ⟨List.mem_of_find?_eq_some h, by simpa using List.find?_some h⟩
theorem findV_filter {L : List Plt} (ha : L.Pairwise (fun p q => clashP p q = false)) {e : Plt} (he : e ∈ L) (v : List UInt8) : findV (L.filter fun x => !decide (x.plt = e.plt)) v = if v = e.veh then none else findV L v := by
 have hc : (L.filter fun x => !decide (x.plt = e.plt)) = L.filter fun x => !decide (x.veh = e.veh) := by
  refine List.filter_congr fun a hm => ?_
  congr 1
  rw [decide_eq_decide]
  constructor
  · intro q; rw [apart_eq ha hm he (by unfold clashP; simp [q])]
  · intro q; rw [apart_eq ha hm he (by unfold clashP; simp [q])]
 rw [hc]
 unfold findV
 rw [List.find?_filter]
 by_cases h : v = e.veh
 · rw [if_pos h, List.find?_eq_none]
   intro x _; subst h; simp
 · rw [if_neg h]
   congr 1; funext x
   by_cases hx : x.veh = v
   · simp [hx, h]
   · simp [hx]
theorem findP_snoc {L : List Plt} {x : Plt} (h : ∀ e ∈ L, e.plt ≠ x.plt) (q : List UInt8) : findP (L ++ [x]) q = if q = x.plt then some x else findP L q := by
 unfold findP
 rw [List.find?_append]
 by_cases hq : q = x.plt
 · rw [if_pos hq]
   have : L.find? (fun e => decide (e.plt = q)) = none := by
    rw [List.find?_eq_none]; intro e he; simp [hq, h e he]
   rw [this]; simp [hq]
 · rw [if_neg hq]
   cases L.find? (fun e => decide (e.plt = q)) with
   | some y => rfl
   | none => simp [Ne.symm hq]
theorem findV_snoc {L : List Plt} {x : Plt} (h : ∀ e ∈ L, e.veh ≠ x.veh) (q : List UInt8) : findV (L ++ [x]) q = if q = x.veh then some x else findV L q := by
 unfold findV
 rw [List.find?_append]
 by_cases hq : q = x.veh
 · rw [if_pos hq]
   have : L.find? (fun e => decide (e.veh = q)) = none := by
    rw [List.find?_eq_none]; intro e he; simp [hq, h e he]
   rw [this]; simp [hq]
 · rw [if_neg hq]
   cases L.find? (fun e => decide (e.veh = q)) with
   | some y => rfl
   | none => simp [Ne.symm hq]
def hR (s : HS) (H : List UInt8 → Bool) (D : List UInt8 → Int) : List (Nat × Res) :=
 [(1000005, .cells 283 [.mp 1000016]), (1000004, .cells 165 [.mp 1000015]), (1000003, .cells 135 [.mp 1000014]), (1000006, .cells 283 [.mp 1000017]),
   (1000016, mS (pH s.live) (pV s.live)), (1000015, mI H D), (1000014, mO s.out), (1000017, mS (qH s.live) (qV s.live))]
theorem le_delP (L : List Plt) (p : List UInt8) : Res.le (.map false false [.str] [.str []] (fun q => !keyEq q [.str p] && pH L (strK q)) (fun q => bif keyEq q [.str p] then [.str []] else [.str (pV L (strK q))]))
 (mS (pH (L.filter fun e => !decide (e.plt = p))) (pV (L.filter fun e => !decide (e.plt = p)))) := Res.le_map fun k hk => by
 rw [keyEq_str k hk p]
 unfold pH pV
 rw [findP_filter]
 by_cases h : strK k = p
 · simp [h]
 · simp [h]
theorem le_delQ {L : List Plt} (ha : L.Pairwise (fun p q => clashP p q = false)) {e : Plt} (he : e ∈ L) : Res.le (.map false false [.str] [.str []] (fun q => !keyEq q [.str e.veh] && qH L (strK q)) (fun q => bif keyEq q [.str e.veh] then [.str []] else [.str (qV L (strK q))]))
 (mS (qH (L.filter fun x => !decide (x.plt = e.plt))) (qV (L.filter fun x => !decide (x.plt = e.plt)))) := Res.le_map fun k hk => by
 rw [keyEq_str k hk e.veh]
 unfold qH qV
 rw [findV_filter ha he]
 by_cases h : strK k = e.veh
 · simp [h]
 · simp [h]
theorem le_back (o o' : List UInt8 → List Hld) (p : List UInt8) (x : Hld) (h : Nat → List DV) (hx : h 0 = hldF x) (ho : ∀ q, o' q = if q = p then o q ++ [x] else o q) :
 Res.le (.mapR .str 247 3 (fun q => keyEq q [.str p] || !(o (strK q)).isEmpty) (fun q => bif keyEq q [.str p] then (o p).length + 1 else (o (strK q)).length)
  (fun q => bif keyEq q [.str p] then appGet (o p).length (rowF hldF hld0 (o p)) h else fun i => rowF hldF hld0 (o (strK q)) i) none) (mO o') := Res.le_mapR fun k hk => by
 rw [keyEq_str k hk p, ho]
 by_cases hq : strK k = p
 · rw [if_pos hq, hq]
   simp only [decide_true, cond_true, Bool.true_or]
   refine ⟨by simp, by simp, fun i hi => ?_⟩
   exact rows_snocF hx i hi
 · rw [if_neg hq]
   simp [hq]
set_option maxHeartbeats 2000000 in
theorem z204 (s : HS) (H : List UInt8 → Bool) (D : List UInt8 → Int) (ha : s.live.Pairwise (fun p q => clashP p q = false)) (hD : ∀ e ∈ s.live, D e.plt = e.frm) (p : List UInt8) (t : Int) (hlen : (s.out p).length ≤ 2^20) :
 FSpec Tryz.prog 204 [.d (.str p), .d (.int .i64 t), .ptr 1000005 0, .ptr 1000004 0, .ptr 1000003 0, .ptr 1000006 0] (hR s H D) (fun y r => y = .tup [] ∧ r = hR (hdrop s p t) H D) := by
 have hl' : (s.out (strK [.str p])).length ≤ 2^20 := hlen
 cases hf : findP s.live p with
 | none =>
   have e1 : hdrop s p t = s := by unfold hdrop; rw [hf]
   have e2 : pH s.live (strK [.str p]) = false := by show (findP s.live p).isSome = false; rw [hf]; rfl
   rw [e1]
   refine spec_of hT (C := []) Tryz.func204 rfl Tryz.call204 rfl rfl rfl ?_
   conv => whnf
   repeat' (first | (refine ⟨rfl, ?_⟩; conv => whnf) | (refine br_intro ?_ ?_ <;> intro hb <;> (try simp only [brs] at hb) <;> conv => whnf) | (refine RegX.rule (id := 3) hT rfl [27] oTToB204_3 (by decide +kernel) ?_; conv => whnf) | omega | (refine And.intro ?_ ?_; ((try dsimp only); first | omega | (refine szA rfl ?_; omega) | (refine szB rfl ?_; omega) | (unfold inI64; omega) | (simp only [lns] at *; omega) | decide | (unfold inI64; decide)); conv => whnf) | decide | assumption)
   all_goals try (have q := ‹pH s.live (strK [DV.str p]) = true›; rw [e2] at q; cases q)
   refine .ret _ ?_
   conv => whnf
   exact ⟨hR s H D, ⟨rfl, rfl⟩, rr, rr, rr, rr, rr, rr, rr, rr, trivial⟩
 | some e =>
   obtain ⟨he1, he2⟩ := findP_some hf
   have e2 : pH s.live (strK [.str p]) = true := by show (findP s.live p).isSome = true; rw [hf]; rfl
   have e3 : pV s.live (strK [.str p]) = e.veh := by show (match findP s.live p with | some e => e.veh | none => []) = e.veh; rw [hf]
   have e4 : D (strK [.str p]) = e.frm := by show D p = e.frm; rw [← he2]; exact hD e he1
   have e5 : (hdrop s p t).live = s.live.filter fun e => !decide (e.plt = p) := hdrop_live s p t
   have e6 : ∀ q, (hdrop s p t).out q = if q = p ∧ e.frm < t then s.out q ++ [⟨e.veh, e.frm, t⟩] else s.out q := by intro q; unfold hdrop; rw [hf]
   have hdel := le_delQ ha he1
   rw [he2, ← e5, ← e3] at hdel
   have hdelP := le_delP s.live p
   rw [← e5] at hdelP
   refine spec_of hT (C := []) Tryz.func204 rfl Tryz.call204 rfl rfl rfl ?_
   conv => whnf
   repeat' (first | (refine ⟨rfl, ?_⟩; conv => whnf) | (refine br_intro ?_ ?_ <;> intro hb <;> (try simp only [brs] at hb) <;> conv => whnf) | (refine RegX.rule (id := 3) hT rfl [27] oTToB204_3 (by decide +kernel) ?_; conv => whnf) | omega | (refine And.intro ?_ ?_; ((try dsimp only); first | omega | (refine szA rfl ?_; omega) | (refine szB rfl ?_; omega) | (unfold inI64; omega) | (simp only [lns] at *; omega) | decide | (unfold inI64; decide)); conv => whnf) | decide | assumption)
   all_goals try (have q := ‹pH s.live (strK [DV.str p]) = false›; rw [e2] at q; cases q)
   · refine .weak _ ?_
     conv => whnf
     refine ⟨.tup [], hR (hdrop s p t) H D, lr, ⟨rfl, rfl⟩, rr, rr, rr, rr, hdelP, rr, ?_, hdel, trivial⟩
     have hft : e.frm < t := by rw [← e4]; exact hb
     exact le_back s.out _ p ⟨pV s.live (strK [.str p]), D (strK [.str p]), t⟩ _ rfl (fun q => by
      rw [e6, e3, e4]
      by_cases hq : q = p
      · rw [if_pos ⟨hq, hft⟩, if_pos hq]
      · rw [if_neg (fun c => hq c.1), if_neg hq])
   · refine .weak _ ?_
     conv => whnf
     have hft : ¬ e.frm < t := by rw [← e4]; omega
     have ho : (hdrop s p t).out = s.out := by funext q; rw [e6, if_neg (fun c => hft c.2)]
     refine ⟨.tup [], hR (hdrop s p t) H D, lr, ⟨rfl, rfl⟩, rr, rr, rr, rr, hdelP, rr, ?_, hdel, trivial⟩
     rw [show mO (hdrop s p t).out = mO s.out from by rw [ho]]
     exact rr
def oTToC151_13 : List (Nat × List Nat) := [(0, []), (1, [0]), (2, [0]), (3, [0, 1, 2]), (4, [0, 1, 2, 3]), (5, [0, 1, 2, 3]), (6, [0, 1, 2, 3, 4, 5]), (7, [0, 1, 2, 3, 4, 5, 6]), (8, [0, 1, 2, 3, 4, 5, 6]), (9, [0, 1, 2, 3, 4, 5, 6, 7, 8]), (10, [0, 1, 2, 3, 4, 5, 6, 7, 8]), (11, [0, 1, 2, 3, 4, 5, 6, 7, 8, 9, 10]), (12, [0, 1, 2, 3, 4, 5, 6, 7, 8, 9, 10]), (13, [0, 1, 2, 3, 4, 5, 6, 7, 8, 9, 10, 11, 12]), (14, [0, 1, 2, 3, 4, 5, 6, 7, 8, 9, 10, 11, 12]), (15, [3, 4, 5, 6, 7, 8, 11, 12, 13, 14]), (16, [6, 7, 8, 13, 14]), (17, [])]
theorem srtP_take {l : List Plt} (h : srtP l) (i : Nat) : srtP (l.take i) := List.Pairwise.sublist (List.take_sublist i l) h
theorem hall_take {l : List Plt} {i : Nat} (hi : i < l.length) : hall (l.take (i + 1)) = hstep (hall (l.take i)) (l.getD i plt0) := by
 rw [take_snocD (d := plt0) hi, hall_snoc]
theorem hdrop_len (s : HS) (p : List UInt8) (t : Int) (q : List UInt8) : ((hdrop s p t).out q).length + (hdrop s p t).live.length ≤ (s.out q).length + s.live.length := by
 rw [hdrop_live]
 unfold hdrop
 cases hf : findP s.live p with
 | none => simp only; have := List.length_filter_le (fun e => !decide (e.plt = p)) s.live; omega
 | some e =>
   obtain ⟨h1, h2⟩ := findP_some hf
   have h3 : (s.live.filter fun e => !decide (e.plt = p)).length < s.live.length := by
    have := List.length_filter_lt_length_iff_exists.2 (⟨e, h1, by simp [h2]⟩ : ∃ x ∈ s.live, ¬ (!decide (x.plt = p)) = true)
    exact this
   simp only
   split
   · rw [List.length_append, List.length_singleton]; omega
   · omega
theorem hmid_len (s : HS) (x : Plt) (q : List UInt8) : ((hmid s x).out q).length + (hmid s x).live.length ≤ (s.out q).length + s.live.length := by
 unfold hmid
 cases findV s.live x.veh with
 | none => exact Nat.le_refl _
 | some e => exact hdrop_len s e.plt x.frm q
theorem hstep_len (s : HS) (x : Plt) (q : List UInt8) : ((hstep s x).out q).length + (hstep s x).live.length ≤ (s.out q).length + s.live.length + 1 := by
 have h1 := hmid_len s x q
 have h2 := hdrop_len (hmid s x) x.plt x.frm q
 show ((hdrop (hmid s x) x.plt x.frm).out q).length + ((hdrop (hmid s x) x.plt x.frm).live ++ [x]).length ≤ _
 rw [List.length_append, List.length_singleton]
 omega
theorem hall_len (l : List Plt) : ∀ q, ((hall l).out q).length + (hall l).live.length ≤ l.length := by
 refine snoc_ind (P := fun l => ∀ q, ((hall l).out q).length + (hall l).live.length ≤ l.length) (fun q => Nat.le_refl _) ?_ l
 intro l x ih q
 rw [hall_snoc, List.length_append, List.length_singleton]
 have := hstep_len (hall l) x q
 have := ih q
 omega
theorem hmid_apart {s : HS} (ha : s.live.Pairwise (fun p q => clashP p q = false)) (x : Plt) : (hmid s x).live.Pairwise (fun p q => clashP p q = false) := by
 rw [hmid_live ha]; exact ha.filter _
theorem hdrop_apart {s : HS} (ha : s.live.Pairwise (fun p q => clashP p q = false)) (p : List UInt8) (t : Int) : (hdrop s p t).live.Pairwise (fun p q => clashP p q = false) := by
 rw [hdrop_live]; exact ha.filter _
theorem hdrop_sub {s : HS} {p : List UInt8} {t : Int} {e : Plt} (h : e ∈ (hdrop s p t).live) : e ∈ s.live ∧ e.plt ≠ p := by
 rw [hdrop_live, List.mem_filter] at h
 exact ⟨h.1, by simpa using h.2⟩
theorem hmid_sub {s : HS} (ha : s.live.Pairwise (fun p q => clashP p q = false)) {x e : Plt} (h : e ∈ (hmid s x).live) : e ∈ s.live ∧ e.veh ≠ x.veh := by
 rw [hmid_live ha, List.mem_filter] at h
 exact ⟨h.1, by simpa using h.2⟩
def hN (s : HS) (H : List UInt8 → Bool) (D : List UInt8 → Int) : List (Nat × Res) :=
 [(5, .cells 283 [.mp 16]), (4, .cells 165 [.mp 15]), (3, .cells 135 [.mp 14]), (6, .cells 283 [.mp 17]), (16, mS (pH s.live) (pV s.live)), (15, mI H D), (14, mO s.out), (17, mS (qH s.live) (qV s.live))]
theorem le_updP {L : List Plt} {x : Plt} (h : ∀ e ∈ L, e.plt ≠ x.plt) : Res.le (.map false false [.str] [.str []] (fun q => keyEq q [.str x.plt] || pH L (strK q)) (fun q => bif keyEq q [.str x.plt] then [.str x.veh] else [.str (pV L (strK q))]))
 (mS (pH (L ++ [x])) (pV (L ++ [x]))) := Res.le_map fun k hk => by
 rw [keyEq_str k hk x.plt]
 unfold pH pV
 rw [findP_snoc h]
 by_cases hq : strK k = x.plt
 · simp [hq]
 · simp [hq]
theorem le_updQ {L : List Plt} {x : Plt} (h : ∀ e ∈ L, e.veh ≠ x.veh) : Res.le (.map false false [.str] [.str []] (fun q => keyEq q [.str x.veh] || qH L (strK q)) (fun q => bif keyEq q [.str x.veh] then [.str x.plt] else [.str (qV L (strK q))]))
 (mS (qH (L ++ [x])) (qV (L ++ [x]))) := Res.le_map fun k hk => by
 rw [keyEq_str k hk x.veh]
 unfold qH qV
 rw [findV_snoc h]
 by_cases hq : strK k = x.veh
 · simp [hq]
 · simp [hq]
theorem le_updD (H : List UInt8 → Bool) (D : List UInt8 → Int) (p : List UInt8) (t : Int) : Res.le (.map false false [.str] [.int .i64 0] (fun q => keyEq q [.str p] || H (strK q)) (fun q => bif keyEq q [.str p] then [.int .i64 t] else [.int .i64 (D (strK q))]))
 (mI (fun q => decide (q = p) || H q) (fun q => if q = p then t else D q)) := Res.le_map fun k hk => by
 rw [keyEq_str k hk p]
 by_cases hq : strK k = p
 · simp [hq]
 · simp [hq]
set_option maxHeartbeats 4000000 in
theorem z151 (f : Flt) (hl : f.plt.length ≤ 1000) (hs : srtP f.plt) : FSpec Tryz.prog 151 [flt f] [] (fun y r => y = .mp 14 ∧ r = [(14, mO (hend f.plt).out)]) := by
 refine spec_of hT (C := []) Tryz.func151 rfl Tryz.call151 rfl rfl rfl ?_
 conv => whnf
 repeat' (first | (refine br_intro ?_ ?_ <;> intro hb <;> (try simp only [brs] at hb) <;> conv => whnf) | (refine RegX.rule (id := 13) hT rfl [] oTToC151_13 (by decide +kernel) ?_; conv => whnf) | omega | (refine And.intro ?_ ?_; ((try dsimp only); first | omega | (refine szA rfl ?_; omega) | (refine szB rfl ?_; omega) | (unfold inI64; omega) | exact rfl | (simp only [lns] at *; omega) | decide | (unfold inI64; decide)); conv => whnf) | decide | assumption)
 refine LoopX.rule hT (C := []) (ι := Nat × (List UInt8 → Bool) × (List UInt8 → Int)) (fun (i, _, D) => i ≤ f.plt.length ∧ ∀ e ∈ (hall (f.plt.take i)).live, D e.plt = e.frm)
  (fun (i, H, D) => mkSt [(1, .ptr 1 0), (3, .ptr 3 0), (4, .ptr 4 0), (5, .ptr 5 0), (6, .ptr 6 0), (7, .fn 204 [.ptr 5 0, .ptr 4 0, .ptr 3 0, .ptr 6 0]), (20, .d (plts f.plt)), (21, .d (.int .i64 f.plt.length)), (22, .d (.int .i64 i))] ((1, fltC f) :: hN (hall (f.plt.take i)) H D))
  (fun (i, _, _) => f.plt.length - i) (0, (fun _ => false), fun _ => 0) ⟨by simp, fun e he => (List.not_mem_nil he).elim⟩ ?_ ?_
 · refine Entails.trans (Entails.toR 14 247 3 rfl (by decide)) ?_
   exact Entails.mk' [(1, 1), (3, 3), (4, 4), (5, 5), (6, 6), (14, 14), (15, 15), (16, 16), (17, 17)] rfl rfl ⟨lr, lr, lr, lr, lr, lr, lr, lr, lr, trivial⟩
    ⟨rr, rr, rr, rr, rr, Res.le_map (fun k hk => ⟨rfl, rfl⟩), Res.le_map (fun k hk => ⟨rfl, rfl⟩), Res.le_mapR (fun k hk => ⟨rfl, rfl, fun i hi => absurd hi (Nat.not_lt_zero _)⟩), Res.le_map (fun k hk => ⟨rfl, rfl⟩), trivial⟩
 rintro ⟨i, H, D⟩ ⟨p1, hD⟩
 have p1 : i ≤ f.plt.length := p1
 have hD : ∀ e ∈ (hall (f.plt.take i)).live, D e.plt = e.frm := hD
 have e1 : (i : Int).toNat = i := Int.toNat_natCast i
 have hlive := (hall_inv (f.plt.take i) (srtP_take hs i)).1
 have ha : (hall (f.plt.take i)).live.Pairwise (fun p q => clashP p q = false) := by rw [hlive]; exact liv_apart _
 have hlen : ∀ q, ((hall (f.plt.take i)).out q).length ≤ 1000 := fun q => by
  have := hall_len (f.plt.take i) q; rw [List.length_take] at this; omega
 rcases Nat.lt_or_ge i f.plt.length with hi | hi
 · have hsn := hall_take hi
   obtain ⟨S, hS⟩ : ∃ S, S = hall (f.plt.take i) := ⟨_, rfl⟩
   rw [← hS] at ha hlen hD hsn
   have ha1 := hmid_apart ha (f.plt.getD (i : Int).toNat plt0)
   have ha2 := hdrop_apart ha1 (f.plt.getD (i : Int).toNat plt0).plt (f.plt.getD (i : Int).toNat plt0).frm
   have hD1 : ∀ e ∈ (hmid S (f.plt.getD (i : Int).toNat plt0)).live, D e.plt = e.frm := fun e he => hD e (hmid_sub ha he).1
   have hlen1 : ∀ q, ((hmid S (f.plt.getD (i : Int).toNat plt0)).out q).length ≤ 2^20 := fun q => by
    have h1 := hall_len (f.plt.take i) q
    have h2 := hmid_len S (f.plt.getD (i : Int).toNat plt0) q
    rw [← hS, List.length_take] at h1
    omega
   obtain ⟨S2, hS2⟩ : ∃ S2, S2 = hdrop (hmid S (f.plt.getD (i : Int).toNat plt0)) (f.plt.getD (i : Int).toNat plt0).plt (f.plt.getD (i : Int).toNat plt0).frm := ⟨_, rfl⟩
   have hP : ∀ e ∈ S2.live, e.plt ≠ (f.plt.getD (i : Int).toNat plt0).plt := fun e he => (hdrop_sub (by rw [hS2] at he; exact he)).2
   have hQ : ∀ e ∈ S2.live, e.veh ≠ (f.plt.getD (i : Int).toNat plt0).veh := fun e he => (hmid_sub ha (hdrop_sub (by rw [hS2] at he; exact he)).1).2
   have hst : hall (f.plt.take (i + 1)) = ⟨S2.live ++ [(f.plt.getD (i : Int).toNat plt0)], S2.out⟩ := by rw [hsn, hS2, e1]; rfl
   have hD3 : ∀ e ∈ (hall (f.plt.take (i + 1))).live, (if e.plt = (f.plt.getD (i : Int).toNat plt0).plt then (f.plt.getD (i : Int).toNat plt0).frm else D e.plt) = e.frm := fun e he => by
    rw [hst] at he
    rcases List.mem_append.1 he with q | q
    · rw [if_neg (hP e q)]
      exact hD1 e (hdrop_sub (by rw [hS2] at q; exact q)).1
    · rw [List.mem_singleton] at q; rw [q, if_pos rfl]
   cases hf : findV S.live (f.plt.getD (i : Int).toNat plt0).veh with
   | none =>
     have hm : hmid S (f.plt.getD (i : Int).toNat plt0) = S := by unfold hmid; rw [hf]
     rw [hm] at hS2
     have e2 : qH S.live (strK [.str (f.plt.getD (i : Int).toNat plt0).veh]) = false := by show (findV S.live (f.plt.getD (i : Int).toNat plt0).veh).isSome = false; rw [hf]; rfl
     show wpx _ _ _ _ _ (mkSt _ ((1, fltC f) :: hN (hall (f.plt.take i)) H D))
     rw [← hS]
     conv => whnf
     repeat' (first | (refine CallX.of (z204 S H D ha hD (f.plt.getD (i : Int).toNat plt0).plt (f.plt.getD (i : Int).toNat plt0).frm (Nat.le_trans (hlen _) (by decide))) [(1000005, 5), (1000004, 4), (1000003, 3), (1000006, 6), (1000016, 16), (1000015, 15), (1000014, 14), (1000017, 17)] rfl ⟨lr, lr, lr, lr, lr, lr, trivial⟩ ⟨rr, rr, rr, rr, rr, rr, rr, rr, trivial⟩ rfl rfl ?_; rintro y rout ⟨rfl, rfl⟩; refine ⟨rfl, ?_⟩; conv => whnf) | (refine br_intro ?_ ?_ <;> intro hb <;> (try simp only [brs] at hb) <;> conv => whnf) | (refine RegX.rule (id := 13) hT rfl [] oTToC151_13 (by decide +kernel) ?_; conv => whnf) | omega | (refine And.intro ?_ ?_; ((try dsimp only); first | omega | (refine szA rfl ?_; omega) | (refine szB rfl ?_; omega) | (unfold inI64; omega) | exact rfl | (simp only [lns] at *; omega) | decide | (unfold inI64; decide)); conv => whnf) | decide | assumption)
     all_goals try (have q := ‹qH S.live (strK [DV.str (f.plt.getD (i : Int).toNat plt0).veh]) = true›; rw [e2] at q; cases q)
     all_goals try (exfalso; omega)
     rw [← hS2]
     exact ⟨(i + 1, (fun q => decide (q = (f.plt.getD (i : Int).toNat plt0).plt) || H q), fun q => if q = (f.plt.getD (i : Int).toNat plt0).plt then (f.plt.getD (i : Int).toNat plt0).frm else D q), ⟨by omega, hD3⟩, by show f.plt.length - (i + 1) < f.plt.length - i; omega,
      Entails.mk' [(1, 1), (3, 3), (4, 4), (5, 5), (6, 6), (14, 14), (15, 15), (16, 16), (17, 17)] rfl rfl ⟨lr, lr, lr, lr, lr, lr, lr, lr, lr, trivial⟩
       ⟨rr, rr, rr, rr, rr, (by rw [hst]; exact le_updP hP), le_updD H D (f.plt.getD (i : Int).toNat plt0).plt (f.plt.getD (i : Int).toNat plt0).frm, (by rw [hst]; exact rr), (by rw [hst]; exact le_updQ hQ), trivial⟩⟩
   | some e =>
     obtain ⟨he1, he2⟩ := findV_some hf
     have hm : hmid S (f.plt.getD (i : Int).toNat plt0) = hdrop S e.plt (f.plt.getD (i : Int).toNat plt0).frm := by unfold hmid; rw [hf]
     have e2 : qH S.live (strK [.str (f.plt.getD (i : Int).toNat plt0).veh]) = true := by show (findV S.live (f.plt.getD (i : Int).toNat plt0).veh).isSome = true; rw [hf]; rfl
     have e3 : (qV S.live (strK [.str (f.plt.getD (i : Int).toNat plt0).veh])) = e.plt := by show (match findV S.live (f.plt.getD (i : Int).toNat plt0).veh with | some e => e.plt | none => []) = e.plt; rw [hf]
     rw [← e3] at hm
     rw [hm] at hS2 ha1 hD1 hlen1
     show wpx _ _ _ _ _ (mkSt _ ((1, fltC f) :: hN (hall (f.plt.take i)) H D))
     rw [← hS]
     conv => whnf
     repeat' (first | (refine CallX.of (z204 S H D ha hD (qV S.live (strK [.str (f.plt.getD (i : Int).toNat plt0).veh])) (f.plt.getD (i : Int).toNat plt0).frm (Nat.le_trans (hlen _) (by decide))) [(1000005, 5), (1000004, 4), (1000003, 3), (1000006, 6), (1000016, 16), (1000015, 15), (1000014, 14), (1000017, 17)] rfl ⟨lr, lr, lr, lr, lr, lr, trivial⟩ ⟨rr, rr, rr, rr, rr, rr, rr, rr, trivial⟩ rfl rfl ?_; rintro y rout ⟨rfl, rfl⟩; refine ⟨rfl, ?_⟩; conv => whnf) | (refine CallX.of (z204 (hdrop S (qV S.live (strK [.str (f.plt.getD (i : Int).toNat plt0).veh])) (f.plt.getD (i : Int).toNat plt0).frm) H D ha1 hD1 (f.plt.getD (i : Int).toNat plt0).plt (f.plt.getD (i : Int).toNat plt0).frm (hlen1 _)) [(1000005, 5), (1000004, 4), (1000003, 3), (1000006, 6), (1000016, 16), (1000015, 15), (1000014, 14), (1000017, 17)] rfl ⟨lr, lr, lr, lr, lr, lr, trivial⟩ ⟨rr, rr, rr, rr, rr, rr, rr, rr, trivial⟩ rfl rfl ?_; rintro y rout ⟨rfl, rfl⟩; refine ⟨rfl, ?_⟩; conv => whnf) | (refine br_intro ?_ ?_ <;> intro hb <;> (try simp only [brs] at hb) <;> conv => whnf) | (refine RegX.rule (id := 13) hT rfl [] oTToC151_13 (by decide +kernel) ?_; conv => whnf) | omega | (refine And.intro ?_ ?_; ((try dsimp only); first | omega | (refine szA rfl ?_; omega) | (refine szB rfl ?_; omega) | (unfold inI64; omega) | exact rfl | (simp only [lns] at *; omega) | decide | (unfold inI64; decide)); conv => whnf) | decide | assumption)
     all_goals try (have q := ‹qH S.live (strK [DV.str (f.plt.getD (i : Int).toNat plt0).veh]) = false›; rw [e2] at q; cases q)
     all_goals try (exfalso; omega)
     rw [← hS2]
     exact ⟨(i + 1, (fun q => decide (q = (f.plt.getD (i : Int).toNat plt0).plt) || H q), fun q => if q = (f.plt.getD (i : Int).toNat plt0).plt then (f.plt.getD (i : Int).toNat plt0).frm else D q), ⟨by omega, hD3⟩, by show f.plt.length - (i + 1) < f.plt.length - i; omega,
      Entails.mk' [(1, 1), (3, 3), (4, 4), (5, 5), (6, 6), (14, 14), (15, 15), (16, 16), (17, 17)] rfl rfl ⟨lr, lr, lr, lr, lr, lr, lr, lr, lr, trivial⟩
       ⟨rr, rr, rr, rr, rr, (by rw [hst]; exact le_updP hP), le_updD H D (f.plt.getD (i : Int).toNat plt0).plt (f.plt.getD (i : Int).toNat plt0).frm, (by rw [hst]; exact rr), (by rw [hst]; exact le_updQ hQ), trivial⟩⟩
 have hil : i = f.plt.length := by omega
 subst hil
 rw [List.take_length] at ha hD hlen hlive
 show wpx _ _ _ _ _ (mkSt _ ((1, fltC f) :: hN (hall (f.plt.take f.plt.length)) H D))
 rw [List.take_length]
 conv => whnf
 repeat' (first | (refine br_intro ?_ ?_ <;> intro hb <;> (try simp only [brs] at hb) <;> conv => whnf) | (refine RegX.rule (id := 13) hT rfl [] oTToC151_13 (by decide +kernel) ?_; conv => whnf) | omega | (refine And.intro ?_ ?_; ((try dsimp only); first | omega | (refine szA rfl ?_; omega) | (refine szB rfl ?_; omega) | (unfold inI64; omega) | exact rfl | (simp only [lns] at *; omega) | decide | (unfold inI64; decide)); conv => whnf) | decide | assumption)
 all_goals try (exfalso; omega)
 have hE : ∀ m, m < f.plt.length → (f.plt.take (m + 1)).foldl (fun s x => hdrop s x.plt 5761440) (hall f.plt) = hdrop ((f.plt.take m).foldl (fun s x => hdrop s x.plt 5761440) (hall f.plt)) (f.plt.getD m plt0).plt 5761440 := fun m hm => by
  rw [take_snocD (d := plt0) hm, List.foldl_append]; rfl
 refine LoopX.rule hT (C := []) (ι := Nat) (fun m => m ≤ f.plt.length ∧ (((f.plt.take m).foldl (fun s x => hdrop s x.plt 5761440) (hall f.plt)).live.Pairwise (fun p q => clashP p q = false) ∧ (∀ e ∈ ((f.plt.take m).foldl (fun s x => hdrop s x.plt 5761440) (hall f.plt)).live, D e.plt = e.frm) ∧ ∀ q, (((f.plt.take m).foldl (fun s x => hdrop s x.plt 5761440) (hall f.plt)).out q).length + ((f.plt.take m).foldl (fun s x => hdrop s x.plt 5761440) (hall f.plt)).live.length ≤ 1000))
  (fun m => mkSt [(3, .ptr 3 0), (7, .fn 204 [.ptr 5 0, .ptr 4 0, .ptr 3 0, .ptr 6 0]), (62, .d (plts f.plt)), (63, .d (.int .i64 f.plt.length)), (64, .d (.int .i64 m))] (hN ((f.plt.take m).foldl (fun s x => hdrop s x.plt 5761440) (hall f.plt)) H D))
  (fun m => f.plt.length - m) 0 ⟨by simp, ha, hD, fun q => by have := hall_len f.plt q; show ((hall f.plt).out q).length + (hall f.plt).live.length ≤ 1000; omega⟩ ?_ ?_
 · exact Entails.mk' [(3, 3), (4, 4), (5, 5), (6, 6), (14, 14), (15, 15), (16, 16), (17, 17)] rfl rfl ⟨lr, lr, lr, lr, lr, trivial⟩ ⟨rr, rr, rr, rr, rr, rr, rr, rr, trivial⟩
 rintro m ⟨q1, q2, q3, q4⟩
 have e2 : (m : Int).toNat = m := Int.toNat_natCast m
 obtain ⟨S, hS⟩ : ∃ S, S = (f.plt.take m).foldl (fun s x => hdrop s x.plt 5761440) (hall f.plt) := ⟨_, rfl⟩
 rw [← hS] at q2 q3 q4
 show wpx _ _ _ _ _ (mkSt _ (hN ((f.plt.take m).foldl (fun s x => hdrop s x.plt 5761440) (hall f.plt)) H D))
 rw [← hS]
 rcases Nat.lt_or_ge m f.plt.length with hm | hm
 · have hE1 := hE m hm
   rw [← hS] at hE1
   conv => whnf
   repeat' (first | (refine CallX.of (z204 S H D q2 q3 (f.plt.getD (m : Int).toNat plt0).plt 5761440 (by have := q4 (f.plt.getD (m : Int).toNat plt0).plt; omega)) [(1000005, 5), (1000004, 4), (1000003, 3), (1000006, 6), (1000016, 16), (1000015, 15), (1000014, 14), (1000017, 17)] rfl ⟨lr, lr, lr, lr, lr, lr, trivial⟩ ⟨rr, rr, rr, rr, rr, rr, rr, rr, trivial⟩ rfl rfl ?_; rintro y rout ⟨rfl, rfl⟩; refine ⟨rfl, ?_⟩; conv => whnf) | (refine br_intro ?_ ?_ <;> intro hb <;> (try simp only [brs] at hb) <;> conv => whnf) | (refine RegX.rule (id := 13) hT rfl [] oTToC151_13 (by decide +kernel) ?_; conv => whnf) | omega | (refine And.intro ?_ ?_; ((try dsimp only); first | omega | (refine szA rfl ?_; omega) | (refine szB rfl ?_; omega) | (unfold inI64; omega) | exact rfl | (simp only [lns] at *; omega) | decide | (unfold inI64; decide)); conv => whnf) | decide | assumption)
   all_goals try (exfalso; omega)
   refine ⟨m + 1, ⟨by omega, by rw [hE1]; exact hdrop_apart q2 _ _, by rw [hE1]; exact fun e he => q3 e (hdrop_sub he).1, by rw [hE1]; exact fun q => Nat.le_trans (hdrop_len S _ _ q) (q4 q)⟩, by omega, ?_⟩
   rw [hE1, e2]
   exact Entails.mk' [(3, 3), (4, 4), (5, 5), (6, 6), (14, 14), (15, 15), (16, 16), (17, 17)] rfl rfl ⟨lr, lr, lr, lr, lr, trivial⟩ ⟨rr, rr, rr, rr, rr, rr, rr, rr, trivial⟩
 · have hml : m = f.plt.length := by omega
   rw [hml, List.take_length] at hS
   conv => whnf
   repeat' (first | (refine br_intro ?_ ?_ <;> intro hb <;> (try simp only [brs] at hb) <;> conv => whnf) | (refine RegX.rule (id := 13) hT rfl [] oTToC151_13 (by decide +kernel) ?_; conv => whnf) | omega | (refine And.intro ?_ ?_; ((try dsimp only); first | omega | (refine szA rfl ?_; omega) | (refine szB rfl ?_; omega) | (unfold inI64; omega) | exact rfl | (simp only [lns] at *; omega) | decide | (unfold inI64; decide)); conv => whnf) | decide | assumption)
   all_goals try (exfalso; omega)
   refine .ret _ ?_
   conv => whnf
   exact ⟨[(14, mO (hend f.plt).out)], ⟨rfl, rfl⟩, by rw [hS]; exact rr, trivial⟩
abbrev Win := Int × Int
def vwF : Win → List DV := fun p => [.int .i64 p.1, .int .i64 p.2]
def vw0 : Win := (0, 0)
abbrev wins (l : List Win) : DV := seqD 2 vwF vw0 l
abbrev vwB (l : List Win) : Res := seqB 65 2 vwF vw0 l
abbrev vwC (x : Win) : Res := .cells 65 [.d (.int .i64 x.1), .d (.int .i64 x.2)]
def hitP (x y : Win) : Bool := decide (x.1 < y.2) && decide (y.1 < x.2)
theorem hitP_comm (x y : Win) : hitP x y = hitP y x := by unfold hitP; rw [Bool.and_comm]
def wlen (l : List Win) : Int := (l.map fun x => x.2 - x.1).sum
theorem wlen_app (l m : List Win) : wlen (l ++ m) = wlen l + wlen m := by unfold wlen; rw [List.map_append, List.sum_append]
theorem wlen_cons (x : Win) (l : List Win) : wlen (x :: l) = (x.2 - x.1) + wlen l := by simp [wlen]
theorem wlen_filter (p : Win → Bool) (l : List Win) : wlen l = wlen (l.filter p) + wlen (l.filter fun x => !p x) := by
 induction l with
 | nil => rfl
 | cons x l ih =>
   cases q : p x
   · rw [List.filter_cons_of_neg (by simp [q]), List.filter_cons_of_pos (by simp [q]), wlen_cons, wlen_cons]; omega
   · rw [List.filter_cons_of_pos (by simp [q]), List.filter_cons_of_neg (by simp [q]), wlen_cons, wlen_cons]; omega
def disjW (l : List Win) : Prop := l.Pairwise (fun x y => hitP x y = false)
def inW (a b : Int) (l : List Win) : Prop := ∀ x ∈ l, a ≤ x.1 ∧ x.1 < x.2 ∧ x.2 ≤ b
theorem disj_sum : ∀ (n : Nat) (l : List Win) (a b : Int), l.length ≤ n → disjW l → inW a b l → a ≤ b → wlen l ≤ b - a := by
 intro n
 induction n with
 | zero =>
   intro l a b h _ _ hab
   obtain rfl := List.eq_nil_of_length_eq_zero (by omega : l.length = 0)
   simp [wlen]; omega
 | succ n ih =>
   intro l a b h hd hi hab
   cases l with
   | nil => simp [wlen]; omega
   | cons x r =>
     have hx := hi x (by simp)
     unfold disjW at hd
     rw [List.pairwise_cons] at hd
     have hr : r.length ≤ n := by simp at h; omega
     have f1 := List.length_filter_le (fun y : Win => decide (y.2 ≤ x.1)) r
     have f2 := List.length_filter_le (fun y : Win => !decide (y.2 ≤ x.1)) r
     have k1 := ih (r.filter fun y => decide (y.2 ≤ x.1)) a x.1 (by omega) (hd.2.sublist List.filter_sublist) (fun y hy => by
      rw [List.mem_filter] at hy
      have := hi y (by simp [hy.1])
      have h2 : y.2 ≤ x.1 := by simpa using hy.2
      omega) (by omega)
     have k2 := ih (r.filter fun y => !decide (y.2 ≤ x.1)) x.2 b (by omega) (hd.2.sublist List.filter_sublist) (fun y hy => by
      rw [List.mem_filter] at hy
      have := hi y (by simp [hy.1])
      have h2 : x.1 < y.2 := by simpa using hy.2
      have h3 := hd.1 y hy.1
      unfold hitP at h3
      rw [decide_eq_true h2, Bool.true_and, decide_eq_false_iff_not] at h3
      omega) (by omega)
     have := wlen_filter (fun y => decide (y.2 ≤ x.1)) r
     rw [wlen_cons]
     omega
theorem disj_snoc {l : List Win} {x : Win} (h : disjW l) (hx : ∀ y ∈ l, hitP x y = false) : disjW (l ++ [x]) := by
 unfold disjW at *
 rw [List.pairwise_append]
 exact ⟨h, by simp, fun y hy z hz => by simp at hz; subst hz; rw [hitP_comm]; exact hx y hy⟩
def hitW (l : List Win) (x : Win) : Bool := decide (0 ≤ ixF (fun i => hitP x (l.getD i vw0)) l.length)
theorem hitW_no {l : List Win} {x : Win} (h : hitW l x = false) : ∀ y ∈ l, hitP x y = false := fun y hy => by
 obtain ⟨i, hi, rfl⟩ := mem_getD (d := vw0) hy
 cases q : hitP x (l.getD i vw0) with
 | false => rfl
 | true =>
   have := ixF_pos (p := fun i => hitP x (l.getD i vw0)) hi q
   unfold hitW at h
   rw [decide_eq_true this] at h
   cases h
theorem z127 (x y : Win) : FSpec Tryz.prog 97 [.agg ((vwF y).map .d), .ptr 1000002 0] [(1000002, vwC x)] (fun z r => z = .d (.bool (hitP x y)) ∧ r = [(1000002, vwC x)]) := by
 refine spec_of hT (C := []) Tryz.func97 rfl Tryz.call97 rfl rfl rfl ?_
 conv => whnf
 repeat' (first | (refine br_intro ?_ ?_ <;> intro hb <;> (try simp only [brs] at hb) <;> conv => whnf) | omega | (refine And.intro ?_ ?_; ((try dsimp only); first | omega | (refine szA rfl ?_; omega) | (refine szB rfl ?_; omega) | (unfold inI64; omega) | (simp only [lns] at *; omega) | decide | (unfold inI64; decide)); conv => whnf) | decide | assumption)
 all_goals
  refine .ret _ ?_
  conv => whnf
  refine ⟨_, ⟨?_, rfl⟩, rr, trivial⟩
  (conv => lhs; whnf)
  congr 2
  unfold hitP; grind
theorem z211 (x : Win) (l : List Win) (hl : l.length ≤ 2^40) : FSpec Tryz.prog 165 [.buf 1000001, .fn 97 [.ptr 1000002 0]] [(1000001, vwB l), (1000002, vwC x)] (fun y r => y = .d (.int .i64 (ixF (fun i => hitP x (l.getD i vw0)) l.length)) ∧ r = [(1000001, vwB l), (1000002, vwC x)]) := by
 refine spec_of hT (C := []) Tryz.func165 rfl Tryz.call165 rfl rfl rfl ?_
 conv => whnf
 refine LoopX.rule hT (C := []) (ι := Nat) (fun i => i ≤ l.length ∧ ∀ j, j < i → hitP x (l.getD j vw0) = false) (fun i => mkSt [(0, .buf 1000001), (1, .fn 97 [.ptr 1000002 0]), (7, .d (.int .i64 l.length)), (8, .d (.int .i64 i))] [(1000001, vwB l), (1000002, vwC x)]) (fun i => l.length - i) 0 ⟨by omega, by omega⟩ (by (refine Entails.mk' [(1000001, 1000001), (1000002, 1000002)] rfl rfl ?_ ?_ <;> repeat' (first | exact True.intro | exact lr | exact rr | exact SV.le_int (by omega) | exact SV.le_any _ | refine And.intro ?_ ?_)); done) ?_
 rintro i ⟨p1, p2⟩
 have e1 : (i : Int).toNat = i := Int.toNat_natCast i
 conv => whnf
 repeat' (first | (refine CallX.of (z127 x (l.getD (i : Int).toNat vw0)) [(1000002, 1000002)] rfl ⟨lr, lr, trivial⟩ ⟨rr, trivial⟩ rfl rfl ?_; rintro y rout ⟨rfl, rfl⟩; refine ⟨rfl, ?_⟩; conv => whnf) | (refine br_intro ?_ ?_ <;> intro hb <;> (try simp only [brs] at hb) <;> conv => whnf) | omega | (refine And.intro ?_ ?_; ((try dsimp only); first | omega | (refine szA rfl ?_; omega) | (refine szB rfl ?_; omega) | (unfold inI64; omega) | (simp only [lns] at *; omega) | decide | (unfold inI64; decide)); conv => whnf) | decide | assumption)
 · refine .ret _ ?_
   conv => whnf
   refine ⟨_, ⟨?_, rfl⟩, rr, rr, trivial⟩
   (conv => lhs; whnf)
   congr 2
   exact (ixF_hit (by omega) p2 (by simpa using hb)).symm
 · exact ⟨i + 1, ⟨by omega, all_step p2 (by simpa using hb)⟩, by omega, (by (refine Entails.mk' [(1000001, 1000001), (1000002, 1000002)] rfl rfl ?_ ?_ <;> repeat' (first | exact True.intro | exact lr | exact rr | exact SV.le_int (by omega) | exact SV.le_any _ | refine And.intro ?_ ?_)); done)⟩
 · refine .ret _ ?_
   conv => whnf
   refine ⟨_, ⟨?_, rfl⟩, rr, rr, trivial⟩
   (conv => lhs; whnf)
   congr 2
   have : i = l.length := by omega
   subst this
   exact (ixF_none p2).symm
theorem z126 (x : Win) (l : List Win) (hl : l.length ≤ 2^40) : FSpec Tryz.prog 96 [.buf 1000001, .fn 97 [.ptr 1000002 0]] [(1000001, vwB l), (1000002, vwC x)] (fun y r => y = .d (.bool (hitW l x)) ∧ r = [(1000001, vwB l), (1000002, vwC x)]) := by
 refine spec_of hT (C := []) Tryz.func96 rfl Tryz.call96 rfl rfl rfl ?_
 conv => whnf
 repeat' (first | (refine CallX.of (z211 x l hl) [(1000001, 1000001), (1000002, 1000002)] rfl ⟨lr, lr, trivial⟩ ⟨rr, rr, trivial⟩ rfl rfl ?_; rintro y rout ⟨rfl, rfl⟩; refine ⟨rfl, ?_⟩; conv => whnf) | (refine br_intro ?_ ?_ <;> intro hb <;> (try simp only [brs] at hb) <;> conv => whnf) | omega | (refine And.intro ?_ ?_; ((try dsimp only); first | omega | (refine szA rfl ?_; omega) | (refine szB rfl ?_; omega) | (unfold inI64; omega) | (simp only [lns] at *; omega) | decide | (unfold inI64; decide)); conv => whnf) | decide | assumption)
 refine .ret _ ?_
 conv => whnf
 exact ⟨_, ⟨rfl, rfl⟩, rr, rr, trivial⟩
def hadX (a b : Int) (x : Leg) : Win := (max x.out.tm a, min (if x.inn.tm = -1 then 5761440 else x.inn.tm) b)
def hadN (v : List UInt8) (a b : Int) (l : List Leg) : Nat → List Win
 | 0 => []
 | k + 1 => hadN v a b l k ++ (if (l.getD k lg0).veh = v ∧ (hadX a b (l.getD k lg0)).1 < (hadX a b (l.getD k lg0)).2 then [hadX a b (l.getD k lg0)] else [])
theorem hadN_ok (v : List UInt8) (a b : Int) (l : List Leg) : ∀ k, (hadN v a b l k).length ≤ k ∧ inW a b (hadN v a b l k) := by
 intro k
 induction k with
 | zero => exact ⟨Nat.le_refl _, fun x hx => by cases hx⟩
 | succ k ih =>
   rw [hadN]
   split
   · rename_i h
     refine ⟨by simp; omega, fun x hx => ?_⟩
     rcases List.mem_append.1 hx with q | q
     · exact ih.2 x q
     · simp at q; subst q
       refine ⟨?_, h.2, ?_⟩
       · show a ≤ max _ a; omega
       · show min _ b ≤ b; omega
   · rw [List.append_nil]; exact ⟨by omega, ih.2⟩
theorem z125 (h : Hir) (v : List UInt8) (a b : Int) (hl : h.legs.length ≤ 1000) : FSpec Tryz.prog 95 [.agg ((hiF h).map .d), .d (.str v), .agg [.d (.int .i64 a), .d (.int .i64 b)]] [] (fun y r => y = .d (wins (hadN v a b h.legs h.legs.length)) ∧ r = []) := by
 refine spec_of hT (C := []) Tryz.func95 rfl Tryz.call95 rfl rfl rfl ?_
 conv => whnf
 repeat' (first | (refine br_intro ?_ ?_ <;> intro hb <;> (try simp only [brs] at hb) <;> conv => whnf) | omega | (refine And.intro ?_ ?_; ((try dsimp only); first | omega | (refine szA rfl ?_; omega) | (refine szB rfl ?_; omega) | (unfold inI64; omega) | (simp only [lns] at *; omega) | decide | (unfold inI64; decide)); conv => whnf) | decide | assumption)
 refine LoopX.rule hT (C := []) (ι := Nat) (fun i => i ≤ h.legs.length) (fun i => mkSt [(1, .d (.str v)), (5, .ptr 5 0), (7, .buf 7), (13, .d (legs h.legs)), (14, .d (.int .i64 h.legs.length)), (15, .d (.int .i64 i))] [(5, vwC (a, b)), (7, vwB (hadN v a b h.legs i))]) (fun i => h.legs.length - i) 0 (by omega) ?_ ?_
 · exact (Entails.nil 7 7 65 2 (rowF vwF vw0 []) rfl rfl (by decide)).trans (by (refine Entails.mk' [(5, 5), (7, 7)] rfl rfl ?_ ?_ <;> repeat' (first | exact True.intro | exact lr | exact rr | exact SV.le_int (by omega) | exact SV.le_any _ | refine And.intro ?_ ?_)); done)
 rintro i p1
 have e1 : (i : Int).toNat = i := Int.toNat_natCast i
 have hle := (hadN_ok v a b h.legs i).1
 conv => whnf
 repeat' (first | (refine br_intro ?_ ?_ <;> intro hb <;> (try simp only [brs] at hb) <;> conv => whnf) | omega | (refine And.intro ?_ ?_; ((try dsimp only); first | omega | (refine szA rfl ?_; omega) | (refine szB rfl ?_; omega) | (unfold inI64; omega) | (simp only [lns] at *; omega) | decide | (unfold inI64; decide)); conv => whnf) | decide | assumption)
 all_goals first
  | (have hs : hadN v a b h.legs (i + 1) = hadN v a b h.legs i ++ [hadX a b (h.legs.getD (i : Int).toNat lg0)] := by
      rw [hadN, if_pos (by simp only [e1] at *; unfold hadX; grind), e1]
     refine ⟨i + 1, by omega, by omega, Entails.mk' [(5, 5), (7, 49)] rfl rfl ⟨lr, lr, lr, lr, lr, lr, trivial⟩ ⟨rr, ?_, trivial⟩⟩
     rw [hs]
     exact Res.le_snocF (by unfold hadX; simp only [e1]; (first | rw [if_pos (by assumption)] | rw [if_neg (by assumption)]) <;> rfl))
  | (have hs : hadN v a b h.legs (i + 1) = hadN v a b h.legs i := by
      rw [hadN, if_neg (by simp only [e1] at *; unfold hadX; grind), List.append_nil]
     refine ⟨i + 1, by omega, by omega, ?_⟩
     rw [hs]
     exact (by (refine Entails.mk' [(5, 5), (7, 7)] rfl rfl ?_ ?_ <;> repeat' (first | exact True.intro | exact lr | exact rr | exact SV.le_int (by omega) | exact SV.le_any _ | refine And.intro ?_ ?_)); done))
  | (refine .freeze _ 7 65 2 _ _ rfl (.weak _ ?_)
     conv => whnf
     have : i = h.legs.length := by omega
     subst this
     exact ⟨_, [], lr, ⟨rfl, rfl⟩, trivial⟩)
def smN (f : Int → Int) (a : Int) : Nat → Int
 | 0 => 0
 | n + 1 => smN f a n + f (a + n)
def sm (f : Int → Int) (a b : Int) : Int := smN f a (b - a).toNat
theorem smN_add (f : Int → Int) (a : Int) (n m : Nat) : smN f a (n + m) = smN f a n + smN f (a + n) m := by
 induction m with
 | zero => simp [smN]
 | succ m ih =>
   rw [← Nat.add_assoc, smN, smN, ih]
   have : a + ((n + m : Nat) : Int) = a + n + m := by omega
   rw [this]; omega
theorem sm_add {f : Int → Int} {a b c : Int} (h1 : a ≤ b) (h2 : b ≤ c) : sm f a c = sm f a b + sm f b c := by
 unfold sm
 have e1 : (c - a).toNat = (b - a).toNat + (c - b).toNat := by omega
 have e2 : a + ((b - a).toNat : Int) = b := by omega
 rw [e1, smN_add, e2]
theorem smN_congr {f g : Int → Int} {a : Int} : ∀ {n : Nat}, (∀ t, a ≤ t → t < a + n → f t = g t) → smN f a n = smN g a n := by
 intro n
 induction n with
 | zero => intro _; rfl
 | succ n ih =>
   intro h
   rw [smN, smN, ih (fun t h1 h2 => h t h1 (by omega)), h (a + n) (by omega) (by omega)]
theorem sm_congr {f g : Int → Int} {a b : Int} (h : ∀ t, a ≤ t → t < b → f t = g t) : sm f a b = sm g a b :=
 smN_congr fun t h1 h2 => h t h1 (by omega)
theorem smN_const (x a : Int) : ∀ n : Nat, smN (fun _ => x) a n = n * x := by
 intro n
 induction n with
 | zero => simp [smN]
 | succ n ih => rw [smN, ih, Int.natCast_succ, Int.add_mul]; omega
theorem sm_const {x a b : Int} (h : a ≤ b) : sm (fun _ => x) a b = (b - a) * x := by
 unfold sm
 rw [smN_const, Int.toNat_of_nonneg (by omega)]
theorem smN_plus {f g : Int → Int} {a : Int} : ∀ n : Nat, smN (fun t => f t + g t) a n = smN f a n + smN g a n := by
 intro n
 induction n with
 | zero => rfl
 | succ n ih => rw [smN, smN, smN, ih]; omega
theorem sm_plus {f g : Int → Int} {a b : Int} : sm (fun t => f t + g t) a b = sm f a b + sm g a b := smN_plus _
theorem smN_nonneg {f : Int → Int} {a : Int} : ∀ {n : Nat}, (∀ t, a ≤ t → t < a + n → 0 ≤ f t) → 0 ≤ smN f a n := by
 intro n
 induction n with
 | zero => intro _; exact Int.le_refl 0
 | succ n ih =>
   intro h
   have h1 := ih (fun t h1 h2 => h t h1 (by omega))
   have h2 := h (a + n) (by omega) (by omega)
   rw [smN]; omega
theorem sm_nonneg {f : Int → Int} {a b : Int} (h : ∀ t, a ≤ t → t < b → 0 ≤ f t) : 0 ≤ sm f a b := smN_nonneg fun t h1 h2 => h t h1 (by omega)
def b2i (p : Bool) : Int := if p = true then 1 else 0
theorem b2i_nonneg (p : Bool) : 0 ≤ b2i p := by unfold b2i; split <;> omega
theorem sm_win {p q a b : Int} (hab : a ≤ b) : sm (fun t => b2i (decide (p ≤ t) && decide (t < q))) a b = max 0 (min q b - max p a) := by
 have h1 : a ≤ min (max p a) b := by omega
 have h2 : min (max p a) b ≤ max (min (max p a) b) (min q b) := by omega
 have h3 : max (min (max p a) b) (min q b) ≤ b := by omega
 rw [sm_add h1 (Int.le_trans h2 h3), sm_add h2 h3]
 have e1 : sm (fun t => b2i (decide (p ≤ t) && decide (t < q))) a (min (max p a) b) = 0 := by
  rw [sm_congr (g := fun _ => 0) (fun t u1 u2 => by unfold b2i; rw [decide_eq_false (by omega : ¬ p ≤ t)]; simp), sm_const h1]; simp
 have e2 : sm (fun t => b2i (decide (p ≤ t) && decide (t < q))) (min (max p a) b) (max (min (max p a) b) (min q b)) = max (min (max p a) b) (min q b) - min (max p a) b := by
  rw [sm_congr (g := fun _ => 1) (fun t u1 u2 => by unfold b2i; rw [decide_eq_true (by omega : p ≤ t), decide_eq_true (by omega : t < q)]; simp), sm_const h2]; simp
 have e3 : sm (fun t => b2i (decide (p ≤ t) && decide (t < q))) (max (min (max p a) b) (min q b)) b = 0 := by
  rw [sm_congr (g := fun _ => 0) (fun t u1 u2 => by
   unfold b2i
   by_cases hq : p ≤ t
   · rw [decide_eq_false (by omega : ¬ t < q)]; simp
   · rw [decide_eq_false hq]; simp), sm_const h3]; simp
 rw [e1, e2, e3]; omega
def lastE (x : Leg) : Int := if x.inn.tm = -1 then 5761440 else x.inn.tm
def onL (v : List UInt8) (x : Leg) (t : Int) : Bool := decide (x.veh = v) && (decide (x.out.tm ≤ t) && decide (t < lastE x))
def occ (v : List UInt8) (h : Hir) (t : Int) : Bool := h.legs.any fun x => onL v x t
def lgSeq (ls : List Leg) : Prop := (∀ x ∈ ls, 0 ≤ x.out.tm ∧ x.out.tm < lastE x ∧ lastE x ≤ 5761440) ∧ ∀ i j, i < j → j < ls.length → lastE (ls.getD i lg0) ≤ (ls.getD j lg0).out.tm
theorem rdgE_zero {r : Rdg} (h : rdgE r = 0) : 0 ≤ r.tm ∧ r.tm ≤ 5761439 := by
 unfold rdgE at h
 split at h
 · omega
 · omega
theorem legE_zero {h : Hir} {i : Nat} (he : legE h i = 0) : (0 ≤ (h.legs.getD i lg0).out.tm ∧ (h.legs.getD i lg0).out.tm < lastE (h.legs.getD i lg0) ∧ lastE (h.legs.getD i lg0) ≤ 5761440) ∧ (0 < i → (h.legs.getD i lg0).out.tm = (h.legs.getD (i - 1) lg0).inn.tm) ∧
 ((h.legs.getD i lg0).inn.tm = -1 → (h.legs.length : Int) - 1 ≤ i) := by
 unfold legE at he
 split at he
 · omega
 split at he
 · omega
 rename_i h1 h2
 have ho := rdgE_zero (Classical.not_not.1 h2)
 split at he
 · omega
 split at he
 · omega
 rename_i h3 h4
 split at he
 · omega
 split at he
 · omega
 split at he
 · rename_i h5
   split at he
   · omega
   split at he
   · omega
   refine ⟨⟨ho.1, ?_, ?_⟩, fun q => Classical.byContradiction fun q2 => h4 ⟨q, q2⟩, fun _ => by omega⟩
   · unfold lastE; rw [if_pos h5]; omega
   · unfold lastE; rw [if_pos h5]; omega
 · rename_i h5
   split at he
   · omega
   rename_i h6
   have hi := rdgE_zero (Classical.not_not.1 h6)
   split at he
   · omega
   refine ⟨⟨ho.1, ?_, ?_⟩, fun q => Classical.byContradiction fun q2 => h4 ⟨q, q2⟩, fun q => absurd q h5⟩
   · unfold lastE; rw [if_neg h5]; omega
   · unfold lastE; rw [if_neg h5]; omega
theorem lgSeq_of {h : Hir} (he : hirE h = 0) : lgSeq h.legs := by
 have hall : ∀ i, i < h.legs.length → legE h i = 0 := by
  unfold hirE at he
  split at he
  · omega
  split at he
  · omega
  split at he
  · omega
  split at he
  · omega
  exact firstAt_all he
 refine ⟨fun x hx => ?_, fun i j hij hj => ?_⟩
 · obtain ⟨i, hi, rfl⟩ := mem_getD (d := lg0) hx
   exact (legE_zero (hall i hi)).1
 · have next : ∀ k, k + 1 < h.legs.length → lastE (h.legs.getD k lg0) = (h.legs.getD (k + 1) lg0).out.tm := fun k hk => by
    have h1 := (legE_zero (hall (k + 1) hk)).2.1 (by omega)
    rw [Nat.add_sub_cancel] at h1
    have h2 : (h.legs.getD k lg0).inn.tm ≠ -1 := fun q => by
     have := (legE_zero (hall k (by omega))).2.2 q
     omega
    unfold lastE; rw [if_neg h2, h1]
   induction j with
   | zero => omega
   | succ j ih =>
     rcases Nat.lt_or_ge i j with q | q
     · have h1 := ih q (by omega)
       have h2 := (legE_zero (hall j (by omega))).1
       have h3 := next j hj
       omega
     · have : i = j := by omega
       subst this
       rw [next i hj]; exact Int.le_refl _
def occK (v : List UInt8) (ls : List Leg) (k : Nat) (t : Int) : Bool := (ls.take k).any fun x => onL v x t
theorem occK_succ {v : List UInt8} {ls : List Leg} {k : Nat} (hk : k < ls.length) (t : Int) : occK v ls (k + 1) t = (occK v ls k t || onL v (ls.getD k lg0) t) := by
 unfold occK
 rw [take_snocD (d := lg0) hk, List.any_append]; simp
theorem occK_all (v : List UInt8) (h : Hir) (t : Int) : occK v h.legs h.legs.length t = occ v h t := by
 unfold occK occ; rw [List.take_length]
theorem occK_no {v : List UInt8} {ls : List Leg} (hs : lgSeq ls) {k : Nat} (hk : k < ls.length) {t : Int} (h : onL v (ls.getD k lg0) t = true) : occK v ls k t = false := by
 cases q : occK v ls k t with
 | false => rfl
 | true =>
   exfalso
   unfold occK at q
   rw [List.any_eq_true] at q
   obtain ⟨x, hx, hxt⟩ := q
   obtain ⟨i, hi, rfl⟩ := mem_getD (d := lg0) hx
   have hik : i < k := by simp at hi; omega
   have e : (ls.take k).getD i lg0 = ls.getD i lg0 := by
    rw [List.getD_eq_getElem?_getD, List.getD_eq_getElem?_getD, List.getElem?_take_of_lt hik]
   rw [e] at hxt
   have := hs.2 i k hik hk
   unfold onL at h hxt
   simp only [Bool.and_eq_true, decide_eq_true_eq] at h hxt
   omega
theorem sm_onL {v : List UInt8} {x : Leg} {a b : Int} (hab : a ≤ b) : sm (fun t => b2i (onL v x t)) a b = if x.veh = v ∧ (hadX a b x).1 < (hadX a b x).2 then (hadX a b x).2 - (hadX a b x).1 else 0 := by
 by_cases hv : x.veh = v
 · rw [sm_congr (g := fun t => b2i (decide (x.out.tm ≤ t) && decide (t < lastE x))) (fun t _ _ => by unfold onL; rw [decide_eq_true hv, Bool.true_and]), sm_win hab]
   have e : hadX a b x = (max x.out.tm a, min (lastE x) b) := rfl
   rw [e]
   split
   · rename_i h; omega
   · rename_i h
     have : ¬ (max x.out.tm a < min (lastE x) b) := fun q => h ⟨hv, q⟩
     omega
 · rw [sm_congr (g := fun _ => 0) (fun t _ _ => by unfold onL b2i; rw [decide_eq_false hv]; simp), sm_const hab, if_neg (fun q => hv q.1)]; simp
theorem had_sm {v : List UInt8} {a b : Int} (hab : a ≤ b) {ls : List Leg} (hs : lgSeq ls) : ∀ k, k ≤ ls.length → wlen (hadN v a b ls k) = sm (fun t => b2i (occK v ls k t)) a b := by
 intro k
 induction k with
 | zero =>
   intro _
   rw [sm_congr (g := fun _ => 0) (fun t _ _ => by simp [occK, b2i]), sm_const hab]
   simp [hadN, wlen]
 | succ k ih =>
   intro hk
   rw [sm_congr (g := fun t => b2i (occK v ls k t) + b2i (onL v (ls.getD k lg0) t)) (fun t _ _ => by
    rw [occK_succ (by omega)]
    cases q : onL v (ls.getD k lg0) t with
    | false => simp [b2i]
    | true => rw [occK_no hs (by omega) q]; simp [b2i]), sm_plus, ← ih (by omega), sm_onL hab, hadN, wlen_app]
   split
   · simp [wlen]
   · simp [wlen]
def hadH (v : List UInt8) (a b : Int) (h : Hir) : List Win := hadN v a b h.legs h.legs.length
def hadS (v : List UInt8) (a b : Int) (h : Hir) : Int := wlen (hadH v a b h)
theorem hadS_sm {v : List UInt8} {a b : Int} (hab : a ≤ b) {h : Hir} (hs : lgSeq h.legs) : hadS v a b h = sm (fun t => b2i (occ v h t)) a b := by
 unfold hadS hadH
 rw [had_sm hab hs _ (Nat.le_refl _)]
 exact sm_congr fun t _ _ => by rw [occK_all]
theorem hadN_mem {v : List UInt8} {a b : Int} {ls : List Leg} {x : Win} : ∀ {k}, x ∈ hadN v a b ls k ↔ ∃ i, i < k ∧ (ls.getD i lg0).veh = v ∧ (hadX a b (ls.getD i lg0)).1 < (hadX a b (ls.getD i lg0)).2 ∧ x = hadX a b (ls.getD i lg0) := by
 intro k
 induction k with
 | zero => simp [hadN]
 | succ k ih =>
   rw [hadN, List.mem_append, ih]
   constructor
   · rintro (⟨i, h1, h2⟩ | h)
     · exact ⟨i, by omega, h2⟩
     · split at h
       · rename_i hh; simp at h; exact ⟨k, by omega, hh.1, hh.2, h⟩
       · cases h
   · rintro ⟨i, h1, h2, h3, h4⟩
     rcases Nat.lt_or_ge i k with q | q
     · exact .inl ⟨i, q, h2, h3, h4⟩
     · have : i = k := by omega
       subst this
       refine .inr ?_
       rw [if_pos ⟨h2, h3⟩]; simp [h4]
theorem hadH_of {v : List UInt8} {a b t : Int} {h : Hir} (h1 : a ≤ t) (h2 : t < b) (ho : occ v h t = true) : ∃ x ∈ hadH v a b h, x.1 ≤ t ∧ t < x.2 := by
 unfold occ at ho
 rw [List.any_eq_true] at ho
 obtain ⟨x, hx, hxt⟩ := ho
 obtain ⟨i, hi, rfl⟩ := mem_getD (d := lg0) hx
 unfold onL at hxt
 simp only [Bool.and_eq_true, decide_eq_true_eq] at hxt
 have e : hadX a b (h.legs.getD i lg0) = (max (h.legs.getD i lg0).out.tm a, min (lastE (h.legs.getD i lg0)) b) := rfl
 refine ⟨hadX a b (h.legs.getD i lg0), hadN_mem.2 ⟨i, hi, hxt.1, ?_, rfl⟩, ?_⟩
 · rw [e]; show max _ a < min _ b; omega
 · rw [e]; constructor
   · show max _ a ≤ t; omega
   · show t < min _ b; omega
theorem hadH_to {v : List UInt8} {a b t : Int} {h : Hir} {x : Win} (hx : x ∈ hadH v a b h) (h1 : x.1 ≤ t) (h2 : t < x.2) : (a ≤ t ∧ t < b) ∧ occ v h t = true := by
 obtain ⟨i, hi, hv, _, rfl⟩ := hadN_mem.1 hx
 have e : hadX a b (h.legs.getD i lg0) = (max (h.legs.getD i lg0).out.tm a, min (lastE (h.legs.getD i lg0)) b) := rfl
 rw [e] at h1 h2
 have h1 : max (h.legs.getD i lg0).out.tm a ≤ t := h1
 have h2 : t < min (lastE (h.legs.getD i lg0)) b := h2
 refine ⟨by omega, ?_⟩
 unfold occ
 rw [List.any_eq_true]
 refine ⟨h.legs.getD i lg0, getD_mem hi, ?_⟩
 unfold onL
 rw [decide_eq_true hv, decide_eq_true (by omega : (h.legs.getD i lg0).out.tm ≤ t), decide_eq_true (by omega : t < lastE (h.legs.getD i lg0))]; rfl
theorem had_disj {v : List UInt8} {a b : Int} {ls : List Leg} (hs : lgSeq ls) : ∀ k, k ≤ ls.length → disjW (hadN v a b ls k) := by
 intro k
 induction k with
 | zero => intro _; exact List.Pairwise.nil
 | succ k ih =>
   intro hk
   rw [hadN]
   split
   · rename_i hh
     refine disj_snoc (ih (by omega)) (fun y hy => ?_)
     obtain ⟨i, hi, _, _, rfl⟩ := hadN_mem.1 hy
     have := hs.2 i k hi (by omega)
     have e1 : hadX a b (ls.getD i lg0) = (max (ls.getD i lg0).out.tm a, min (lastE (ls.getD i lg0)) b) := rfl
     have e2 : hadX a b (ls.getD k lg0) = (max (ls.getD k lg0).out.tm a, min (lastE (ls.getD k lg0)) b) := rfl
     unfold hitP
     rw [e1, e2, decide_eq_false (show ¬ (max (ls.getD k lg0).out.tm a < min (lastE (ls.getD i lg0)) b) by omega), Bool.false_and]
   · rw [List.append_nil]; exact ih (by omega)
theorem two_of {α : Type} {p : α → Bool} {d : α} : ∀ {l : List α} {i j : Nat}, i < j → j < l.length → p (l.getD i d) = true → p (l.getD j d) = true → 2 ≤ (l.filter p).length := by
 intro l
 induction l with
 | nil => intro i j _ h; simp at h
 | cons x l ih =>
   intro i j hij hj hi hjp
   cases j with
   | zero => omega
   | succ j =>
     rw [List.getD_cons_succ] at hjp
     cases i with
     | zero =>
       rw [List.getD_cons_zero] at hi
       rw [List.filter_cons_of_pos hi, List.length_cons]
       have : 0 < (l.filter p).length := List.length_pos_of_mem (List.mem_filter.2 ⟨getD_mem (by simpa using hj), hjp⟩)
       omega
     | succ i =>
       rw [List.getD_cons_succ] at hi
       have := ih (by omega) (by simpa using hj) hi hjp
       have h2 : (l.filter p).length ≤ ((x :: l).filter p).length := by
        rw [List.filter_cons]; split <;> simp
       omega
theorem two_to {α : Type} {p : α → Bool} {d : α} : ∀ {l : List α}, 2 ≤ (l.filter p).length → ∃ i j, i < j ∧ j < l.length ∧ p (l.getD i d) = true ∧ p (l.getD j d) = true := by
 intro l
 induction l with
 | nil => intro h; simp at h
 | cons x l ih =>
   intro h
   by_cases hx : p x = true
   · rw [List.filter_cons_of_pos hx, List.length_cons] at h
     have : 0 < (l.filter p).length := by omega
     obtain ⟨y, hy⟩ := List.exists_mem_of_length_pos this
     obtain ⟨hy1, hy2⟩ := List.mem_filter.1 hy
     obtain ⟨j, hj, rfl⟩ := mem_getD (d := d) hy1
     exact ⟨0, j + 1, by omega, by simp; omega, by simpa using hx, by simpa using hy2⟩
   · rw [List.filter_cons_of_neg hx] at h
     obtain ⟨i, j, h1, h2, h3, h4⟩ := ih h
     exact ⟨i + 1, j + 1, by omega, by simp; omega, by simpa using h3, by simpa using h4⟩
def whoL (v : List UInt8) (l : List Hir) (t : Int) : List (List UInt8) := (l.filter fun h => occ v h t).map (·.key)
def clash (v : List UInt8) (a b : Int) (l : List Hir) : Prop := ∃ t, a ≤ t ∧ t < b ∧ 2 ≤ (whoL v l t).length
def hadA (v : List UInt8) (a b : Int) (l : List Hir) (i : Nat) : List Win := (l.take i).flatMap (hadH v a b)
theorem hadA_succ {v : List UInt8} {a b : Int} {l : List Hir} {i : Nat} (hi : i < l.length) : hadA v a b l (i + 1) = hadA v a b l i ++ hadH v a b (l.getD i hi0) := by
 unfold hadA; rw [take_snocD (d := hi0) hi, List.flatMap_append]; simp
theorem hadA_mem {v : List UInt8} {a b : Int} {l : List Hir} {i : Nat} (hi : i ≤ l.length) {x : Win} : x ∈ hadA v a b l i ↔ ∃ j, j < i ∧ x ∈ hadH v a b (l.getD j hi0) := by
 unfold hadA
 rw [List.mem_flatMap]
 constructor
 · rintro ⟨h, hh, hx⟩
   obtain ⟨j, hj, rfl⟩ := mem_getD (d := hi0) hh
   have hj : j < i := by simp at hj; omega
   refine ⟨j, hj, ?_⟩
   have e : (l.take i).getD j hi0 = l.getD j hi0 := by rw [List.getD_eq_getElem?_getD, List.getD_eq_getElem?_getD, List.getElem?_take_of_lt hj]
   rw [← e]; exact hx
 · rintro ⟨j, hj, hx⟩
   refine ⟨l.getD j hi0, ?_, hx⟩
   have e : (l.take i).getD j hi0 = l.getD j hi0 := by rw [List.getD_eq_getElem?_getD, List.getD_eq_getElem?_getD, List.getElem?_take_of_lt hj]
   rw [← e]; exact getD_mem (by simp; omega)
theorem hitW_yes {l : List Win} {x : Win} : hitW l x = true ↔ ∃ y ∈ l, hitP x y = true := by
 constructor
 · intro h
   refine Classical.byContradiction fun q => ?_
   have hno : ∀ j, j < l.length → hitP x (l.getD j vw0) = false := fun j hj => by
    cases e : hitP x (l.getD j vw0) with
    | false => rfl
    | true => exact absurd ⟨_, getD_mem hj, e⟩ q
   unfold hitW at h
   rw [ixF_none hno] at h
   simp at h
 · rintro ⟨y, hy, hh⟩
   cases q : hitW l x with
   | true => rfl
   | false => rw [hitW_no q y hy] at hh; cases hh
theorem meet_at {v : List UInt8} {a b : Int} {h k : Hir} {x y : Win} (hx : x ∈ hadH v a b h) (hy : y ∈ hadH v a b k) (hh : hitP x y = true) : ∃ t, (a ≤ t ∧ t < b) ∧ occ v h t = true ∧ occ v k t = true := by
 unfold hitP at hh
 simp only [Bool.and_eq_true, decide_eq_true_eq] at hh
 have h1 := (hadN_ok v a b h.legs h.legs.length).2 x hx
 have h2 := (hadN_ok v a b k.legs k.legs.length).2 y hy
 obtain ⟨q1, q2⟩ := hadH_to (t := max x.1 y.1) hx (by omega) (by omega)
 obtain ⟨_, q4⟩ := hadH_to (t := max x.1 y.1) hy (by omega) (by omega)
 exact ⟨_, q1, q2, q4⟩
theorem clash_of {v : List UInt8} {a b : Int} {l : List Hir} {i : Nat} (hi : i < l.length) (hs : lgSeq (l.getD i hi0).legs) {j : Nat} (hj : j < (hadH v a b (l.getD i hi0)).length)
 (h : hitW (hadA v a b l i ++ (hadH v a b (l.getD i hi0)).take j) ((hadH v a b (l.getD i hi0)).getD j vw0) = true) : clash v a b l := by
 obtain ⟨y, hy, hh⟩ := hitW_yes.1 h
 rcases List.mem_append.1 hy with q | q
 · obtain ⟨i', hi', hy'⟩ := (hadA_mem (by omega)).1 q
   obtain ⟨t, ht, o1, o2⟩ := meet_at (getD_mem hj) hy' hh
   refine ⟨t, ht.1, ht.2, ?_⟩
   unfold whoL
   rw [List.length_map]
   exact two_of (d := hi0) hi' hi o2 o1
 · exfalso
   have hd := had_disj (v := v) (a := a) (b := b) hs _ (Nat.le_refl _)
   obtain ⟨m, hm, rfl⟩ := List.getElem_of_mem q
   rw [List.getElem_take] at hh
   have hmj : m < j := by simp at hm; omega
   have := List.pairwise_iff_getElem.1 hd m j (by show m < (hadH v a b (l.getD i hi0)).length; omega) hj hmj
   have e2 : (hadH v a b (l.getD i hi0)).getD j vw0 = (hadH v a b (l.getD i hi0))[j] := by rw [List.getD_eq_getElem?_getD (l := hadH v a b (l.getD i hi0)), List.getElem?_eq_getElem hj]; rfl
   rw [e2, hitP_comm] at hh
   have e : hitP (hadH v a b (l.getD i hi0))[m] (hadH v a b (l.getD i hi0))[j] = false := this
   rw [e] at hh; cases hh
theorem no_clash {v : List UInt8} {a b : Int} {l : List Hir} (h : ∀ i, i < l.length → ∀ j, j < (hadH v a b (l.getD i hi0)).length → hitW (hadA v a b l i ++ (hadH v a b (l.getD i hi0)).take j) ((hadH v a b (l.getD i hi0)).getD j vw0) = false) : ¬ clash v a b l := by
 rintro ⟨t, h1, h2, h3⟩
 unfold whoL at h3
 rw [List.length_map] at h3
 obtain ⟨i, k, hik, hk, o1, o2⟩ := two_to (d := hi0) h3
 obtain ⟨x, hx, x1, x2⟩ := hadH_of h1 h2 o2
 obtain ⟨y, hy, y1, y2⟩ := hadH_of h1 h2 o1
 obtain ⟨j, hj, rfl⟩ := mem_getD (d := vw0) hx
 have := h k hk j hj
 have hh : hitW (hadA v a b l k ++ (hadH v a b (l.getD k hi0)).take j) ((hadH v a b (l.getD k hi0)).getD j vw0) = true := by
  rw [hitW_yes]
  refine ⟨y, List.mem_append_left _ ((hadA_mem (by omega)).2 ⟨i, hik, hy⟩), ?_⟩
  unfold hitP
  rw [decide_eq_true (by omega), decide_eq_true (by omega)]; rfl
 rw [hh] at this; cases this
def prts (v : List UInt8) (a b : Int) (l : List Hir) : List Pair := (l.map fun h => (h.key, hadS v a b h)).filter fun p => decide (0 < p.2)
theorem prts_take {v : List UInt8} {a b : Int} {l : List Hir} {i : Nat} (hi : i < l.length) : prts v a b (l.take (i + 1)) = prts v a b (l.take i) ++ (if 0 < hadS v a b (l.getD i hi0) then [((l.getD i hi0).key, hadS v a b (l.getD i hi0))] else []) := by
 unfold prts
 rw [take_snocD (d := hi0) hi, List.map_append, List.filter_append, List.map_singleton]
 congr 1
 split
 · rename_i h; rw [List.filter_cons_of_pos (by simpa using h)]; rfl
 · rename_i h; rw [List.filter_cons_of_neg (by simpa using h)]; rfl
theorem hadS_nonneg (v : List UInt8) (a b : Int) (h : Hir) : 0 ≤ hadS v a b h := by
 have hh := (hadN_ok v a b h.legs h.legs.length).2
 unfold hadS hadH wlen
 refine sum_nonneg fun x hx => ?_
 obtain ⟨y, hy, rfl⟩ := List.mem_map.1 hx
 have := hh y hy
 omega
theorem prts_sum {v : List UInt8} {a b : Int} : ∀ l : List Hir, ((prts v a b l).map (·.2)).sum = (l.map (hadS v a b)).sum := by
 intro l
 induction l with
 | nil => rfl
 | cons h l ih =>
   unfold prts at *
   simp only [List.map_cons, List.sum_cons, List.filter_cons]
   have := hadS_nonneg v a b h
   split
   · simp only [List.map_cons, List.sum_cons, ih]
   · rename_i q
     have : hadS v a b h = 0 := by simp at q; omega
     rw [ih, this]; omega
theorem hadA_wlen {v : List UInt8} {a b : Int} : ∀ l : List Hir, wlen (l.flatMap (hadH v a b)) = (l.map (hadS v a b)).sum := by
 intro l
 induction l with
 | nil => rfl
 | cons h l ih => rw [List.flatMap_cons, wlen_app, ih, List.map_cons, List.sum_cons]; rfl
def offi (v : List UInt8) (a b : Int) (l : List Hir) : Int := b - a - (l.map (hadS v a b)).sum
def wtsP (v : List UInt8) (a b : Int) (l : List Hir) : List Pair := if 0 < offi v a b l then ([], offi v a b l) :: prts v a b l else prts v a b l
def mkS (c : Int) (ws : List Pair) : List Pair := List.zipWith (fun p x => (p.1, x)) ws (splitG c (ws.map (·.2)))
open Classical in
noncomputable def blmE (v : List UInt8) (a b : Int) (l : List Hir) (c : Int) : List Pair × Int :=
 if clash v a b l then ([], 13) else if ¬ (0 ≤ c ∧ c ≤ 1000000000) then ([], 1) else if a = b then ([([], c)], 0) else (mkS c (wtsP v a b l), 0)
theorem who_sm {v : List UInt8} {a b : Int} (hab : a ≤ b) : ∀ l : List Hir, (∀ h ∈ l, lgSeq h.legs) → (l.map (hadS v a b)).sum = sm (fun t => ((whoL v l t).length : Int)) a b := by
 intro l
 induction l with
 | nil =>
   intro _
   rw [sm_congr (g := fun _ => 0) (fun t _ _ => by simp [whoL]), sm_const hab]; simp
 | cons h l ih =>
   intro hs
   rw [List.map_cons, List.sum_cons, ih (fun k hk => hs k (by simp [hk])), hadS_sm hab (hs h (by simp)), ← sm_plus]
   refine sm_congr fun t _ _ => ?_
   unfold whoL b2i
   rw [List.length_map, List.length_map, List.filter_cons]
   split
   · simp; omega
   · simp
theorem offi_sm {v : List UInt8} {a b : Int} (hab : a ≤ b) {l : List Hir} (hs : ∀ h ∈ l, lgSeq h.legs) (hn : ¬ clash v a b l) : offi v a b l = sm (fun t => b2i (decide (whoL v l t = []))) a b := by
 unfold offi
 rw [who_sm hab l hs]
 have e : b - a = sm (fun _ => 1) a b := by rw [sm_const hab]; omega
 have h2 : sm (fun _ => 1) a b = sm (fun t => b2i (decide (whoL v l t = []))) a b + sm (fun t => ((whoL v l t).length : Int)) a b := by
  rw [← sm_plus]
  refine sm_congr fun t h1 h2 => ?_
  have h3 : (whoL v l t).length < 2 := Classical.byContradiction fun q => hn ⟨t, h1, h2, by omega⟩
  unfold b2i
  cases q : whoL v l t with
  | nil => simp
  | cons x r =>
    rw [q] at h3
    obtain rfl : r = [] := List.eq_nil_of_length_eq_zero (by simp at h3; omega)
    simp
 omega
theorem hadS_who {v : List UInt8} {a b : Int} (hab : a ≤ b) {l : List Hir} (hs : ∀ h ∈ l, lgSeq h.legs) (hn : ¬ clash v a b l) (hk : l.Pairwise fun g h => g.key ≠ h.key) {h : Hir} (hm : h ∈ l) : hadS v a b h = sm (fun t => b2i (decide (whoL v l t = [h.key]))) a b := by
 rw [hadS_sm hab (hs h hm)]
 refine sm_congr fun t h1 h2 => ?_
 have h3 : (whoL v l t).length < 2 := Classical.byContradiction fun q => hn ⟨t, h1, h2, by omega⟩
 congr 1
 cases q : occ v h t with
 | true =>
   have hmem : h.key ∈ whoL v l t := List.mem_map.2 ⟨h, List.mem_filter.2 ⟨hm, q⟩, rfl⟩
   cases e : whoL v l t with
   | nil => rw [e] at hmem; cases hmem
   | cons x r =>
     rw [e] at h3 hmem
     obtain rfl : r = [] := List.eq_nil_of_length_eq_zero (by simp at h3; omega)
     simp at hmem
     rw [hmem]; simp
 | false =>
   symm
   rw [decide_eq_false_iff_not]
   intro e
   have hmem : h.key ∈ whoL v l t := by rw [e]; simp
   obtain ⟨g, hg, hgk⟩ := List.mem_map.1 hmem
   obtain ⟨hg1, hg2⟩ := List.mem_filter.1 hg
   have : g = h := by
    obtain ⟨i, hi, rfl⟩ := List.getElem_of_mem hg1
    obtain ⟨j, hj, rfl⟩ := List.getElem_of_mem hm
    rcases Nat.lt_trichotomy i j with c | c | c
    · exact absurd hgk (List.pairwise_iff_getElem.1 hk i j hi hj c)
    · subst c; rfl
    · exact absurd hgk.symm (List.pairwise_iff_getElem.1 hk j i hj hi c)
   subst this
   rw [hg2] at q; cases q
def oTHiF70_15 : List (Nat × List Nat) := [(0, []), (1, []), (2, [0, 1]), (3, [0, 1, 2]), (4, [0, 1, 2]), (5, [0, 1, 2]), (6, [0, 1]), (7, []), (8, [])]
def oTHiF70_18 : List (Nat × List Nat) := [(0, []), (1, []), (2, [0, 1]), (3, [0, 1, 2]), (4, [0, 1, 2]), (5, [0, 1, 2]), (6, [0, 1]), (7, []), (8, [])]
def oTHiF70_6 : List (Nat × List Nat) := [(0, []), (1, []), (2, [0, 1]), (3, [0, 1, 2]), (4, [0, 1, 2]), (5, [0, 1, 2]), (6, [0, 1]), (7, []), (8, [])]
set_option maxHeartbeats 4000000 in
theorem sHir (n : Nat) (L : Nat → Int) (hL : Rok n L) (a : Int) (h0 : 0 ≤ a) (ha : a ≤ 2^36) :
 FSpec Tryz.prog 70 [.ptr 1000000 0] [(1000000, strm n L a)] (fun y r => (∃ h : Hir, hiB 3 h ∧ y = .agg ((hiF h).map .d)) ∧ Moved n L a 500 r) := by
 refine spec_of hT (C := []) Tryz.func70 rfl Tryz.call70 rfl rfl rfl ?_
 conv => whnf
 repeat' (first | (refine CallX.of (s33 n L hL _ ?_ ?_ [0, 100, 1440] ?_ ?_) [(1000000, 1000000)] rfl ⟨lr, SV.le_lit rfl rfl, trivial⟩ ⟨rr, trivial⟩ rfl rfl ?_; rotate_right; rintro x rout ⟨⟨u1, hu1, rfl⟩, ⟨c, c1, c2, rfl⟩⟩; have hw1 := pkD hu1 (by decide); refine ⟨rfl, ?_⟩; conv => whnf) | (refine CallX.of (sRh n L hL _ ?_ ?_ [104, 49] (by decide) u1 hw1.1 ?_) [(1000000, 1000000)] rfl ⟨lr, lr, lr, trivial⟩ ⟨rr, trivial⟩ rfl rfl ?_; rotate_right; rintro x rout ⟨⟨h, hh, hhl, rfl⟩, ⟨c, c1, c2, rfl⟩⟩; refine ⟨rfl, ?_⟩; conv => whnf) | (refine CallX.of (s84 n L hL _ ?_ ?_ _ ?_) [(1000000, 1000000)] rfl ⟨lr, lr, trivial⟩ ⟨rr, trivial⟩ rfl rfl ?_; rotate_right; rintro x rout ⟨⟨w, rfl⟩, ⟨c, c1, c2, rfl⟩⟩; refine ⟨rfl, ?_⟩; conv => whnf) | (refine br_intro ?_ ?_ <;> intro hb <;> (try simp only [brs] at hb) <;> conv => whnf) | (refine RegX.rule (id := 15) hT rfl [] oTHiF70_15 (by decide +kernel) ?_; conv => whnf) | (refine RegX.rule (id := 18) hT rfl [] oTHiF70_18 (by decide +kernel) ?_; conv => whnf) | (refine RegX.rule (id := 6) hT rfl [] oTHiF70_6 (by decide +kernel) ?_; conv => whnf) | omega | (refine And.intro ?_ ?_; ((try dsimp only); first | omega | (refine szA rfl ?_; omega) | (refine szB rfl ?_; omega) | (unfold inI64; omega) | (simp only [lns] at *; omega) | decide | (unfold inI64; decide)); conv => whnf) | decide | assumption)
 · refine .ret _ ?_
   conv => whnf
   exact ⟨[(1000000, strm n L _)], ⟨⟨h, hh, rfl⟩, _, by omega, by omega, rfl⟩, rr, trivial⟩
 have hn : 1 ≤ h.legs.length := hhl (by decide)
 have hl3 := hh.2.2.1
 refine CallX.of (z216 h.legs hn (by omega)) [(7, 30)] rfl ⟨lr, trivial⟩ trivial rfl rfl ?_
 rintro x rout ⟨rfl, rfl⟩
 refine ⟨rfl, ?_⟩
 conv => whnf
 repeat' (first | (refine CallX.of (s86 n L hL _ ?_ ?_ 6 ?_) [(1000000, 1000000)] rfl ⟨lr, lr, trivial⟩ ⟨rr, trivial⟩ rfl rfl ?_; rotate_right; rintro x rout ⟨⟨z, hz1, hz2, hz3, rfl⟩, ⟨c, c1, c2, rfl⟩⟩; refine ⟨rfl, ?_⟩; conv => whnf) | (refine br_intro ?_ ?_ <;> intro hb <;> (try simp only [brs] at hb) <;> conv => whnf) | (refine RegX.rule (id := 15) hT rfl [] oTHiF70_15 (by decide +kernel) ?_; conv => whnf) | (refine RegX.rule (id := 18) hT rfl [] oTHiF70_18 (by decide +kernel) ?_; conv => whnf) | (refine RegX.rule (id := 6) hT rfl [] oTHiF70_6 (by decide +kernel) ?_; conv => whnf) | omega | (refine And.intro ?_ ?_; ((try dsimp only); first | omega | (refine szA rfl ?_; omega) | (refine szB rfl ?_; omega) | (unfold inI64; omega) | (simp only [lns] at *; omega) | decide | (unfold inI64; decide)); conv => whnf) | decide | assumption)
 · repeat' (first | (refine CallX.of (s15 n L hL _ ?_ ?_ [[104, 49], [], [65]] (by simp) (by simp)) [(1000000, 1000000)] rfl ⟨lr, SV.le_lit rfl rfl, trivial⟩ ⟨rr, trivial⟩ rfl rfl ?_; rotate_right; rintro x rout ⟨⟨u2, hu2, rfl⟩, ⟨c, c1, c2, rfl⟩⟩; have hw2 := mem_len hu2 rfl; refine ⟨rfl, ?_⟩; conv => whnf) | (refine CallX.of (s15 n L hL _ ?_ ?_ [[97, 110, 110], []] (by simp) (by simp)) [(1000000, 1000000)] rfl ⟨lr, SV.le_lit rfl rfl, trivial⟩ ⟨rr, trivial⟩ rfl rfl ?_; rotate_right; rintro x rout ⟨⟨u3, hu3, rfl⟩, ⟨c, c1, c2, rfl⟩⟩; have hw3 := mem_len hu3 rfl; refine ⟨rfl, ?_⟩; conv => whnf) | (refine br_intro ?_ ?_ <;> intro hb <;> (try simp only [brs] at hb) <;> conv => whnf) | (refine RegX.rule (id := 15) hT rfl [] oTHiF70_15 (by decide +kernel) ?_; conv => whnf) | (refine RegX.rule (id := 18) hT rfl [] oTHiF70_18 (by decide +kernel) ?_; conv => whnf) | (refine RegX.rule (id := 6) hT rfl [] oTHiF70_6 (by decide +kernel) ?_; conv => whnf) | omega | (refine And.intro ?_ ?_; ((try dsimp only); first | omega | (refine szA rfl ?_; omega) | (refine szB rfl ?_; omega) | (unfold inI64; omega) | (simp only [lns] at *; omega) | decide | (unfold inI64; decide)); conv => whnf) | decide | assumption)
   refine .freeze _ 30 162 9 _ _ rfl (.ent _ _ (Entails.froCell 2 30 9 _ 4 _ rfl rfl rfl) (.weak _ ?_))
   conv => whnf
   exact ⟨_, [(1000000, strm n L _)], lr, ⟨⟨⟨u2, u3, h.frm, h.to, h.legs⟩, ⟨hw2, hw3, hl3, hh.2.2.2⟩, rfl⟩, _, by omega, by omega, rfl⟩, rr, trivial⟩
 · repeat' (first | (refine CallX.of (sTim n L hL _ ?_ ?_) [(1000000, 1000000)] rfl ⟨lr, trivial⟩ ⟨rr, trivial⟩ rfl rfl ?_; rotate_right; rintro x rout ⟨⟨t1, t2, rfl⟩, ⟨c3, c4, c5, rfl⟩⟩; refine ⟨rfl, ?_⟩; conv => whnf) | (refine br_intro ?_ ?_ <;> intro hb <;> (try simp only [brs] at hb) <;> conv => whnf) | (refine RegX.rule (id := 15) hT rfl [] oTHiF70_15 (by decide +kernel) ?_; conv => whnf) | (refine RegX.rule (id := 18) hT rfl [] oTHiF70_18 (by decide +kernel) ?_; conv => whnf) | (refine RegX.rule (id := 6) hT rfl [] oTHiF70_6 (by decide +kernel) ?_; conv => whnf) | omega | (refine And.intro ?_ ?_; ((try dsimp only); first | omega | (refine szA rfl ?_; omega) | (refine szB rfl ?_; omega) | (unfold inI64; omega) | (simp only [lns] at *; omega) | decide | (unfold inI64; decide)); conv => whnf) | decide | assumption)
   refine .freeze _ 30 162 9 _ _ rfl (.ent _ _ (Entails.froCell 2 30 9 _ 4 _ rfl rfl rfl) (.weak _ ?_))
   conv => whnf
   exact ⟨_, [(1000000, strm n L _)], lr, ⟨⟨⟨h.key, h.drv, t1, t2, h.legs⟩, ⟨hh.1, hh.2.1, hl3, hh.2.2.2⟩, rfl⟩, _, by omega, by omega, rfl⟩, rr, trivial⟩
 · refine .weak _ ?_
   conv => whnf
   exact ⟨.agg ((hiF ⟨h.key, h.drv, h.frm, h.to, []⟩).map .d), [(1000000, strm n L _)], SV.le_agg ⟨lr, lr, lr, lr, SV.le_nilS, trivial⟩, ⟨⟨⟨h.key, h.drv, h.frm, h.to, []⟩, ⟨hh.1, hh.2.1, by simp, fun x hx => by cases hx⟩, rfl⟩, _, by omega, by omega, rfl⟩, rr, trivial⟩
 · repeat' (first | (refine CallX.of (s86 n L hL _ ?_ ?_ _ ?_) [(1000000, 1000000)] rfl ⟨lr, lr, trivial⟩ ⟨rr, trivial⟩ rfl rfl ?_; rotate_right; rintro x rout ⟨⟨j, hj1, hj2, hj3, rfl⟩, ⟨c, c1, c2, rfl⟩⟩; refine ⟨rfl, ?_⟩; conv => whnf) | (refine CallX.of (s15 n L hL _ ?_ ?_ [[118, 49], [], [65]] (by simp) (by simp)) [(1000000, 1000000)] rfl ⟨lr, SV.le_lit rfl rfl, trivial⟩ ⟨rr, trivial⟩ rfl rfl ?_; rotate_right; rintro x rout ⟨⟨u2, hu2, rfl⟩, ⟨c, c1, c2, rfl⟩⟩; have hw2 := mem_len hu2 rfl; refine ⟨rfl, ?_⟩; conv => whnf) | (refine CallX.of (s104 n L hL _ ?_ ?_ 0 500 ?_ ?_ ?_) [(1000000, 1000000)] rfl ⟨lr, lr, lr, trivial⟩ ⟨rr, trivial⟩ rfl rfl ?_; rotate_right; rintro x rout ⟨⟨u3, hk1, hk2, rfl⟩, ⟨c, c1, c2, rfl⟩⟩; refine ⟨rfl, ?_⟩; conv => whnf) | (refine br_intro ?_ ?_ <;> intro hb <;> (try simp only [brs] at hb) <;> conv => whnf) | (refine RegX.rule (id := 15) hT rfl [] oTHiF70_15 (by decide +kernel) ?_; conv => whnf) | (refine RegX.rule (id := 18) hT rfl [] oTHiF70_18 (by decide +kernel) ?_; conv => whnf) | (refine RegX.rule (id := 6) hT rfl [] oTHiF70_6 (by decide +kernel) ?_; conv => whnf) | omega | (refine And.intro ?_ ?_; ((try dsimp only); first | omega | (refine szA rfl ?_; omega) | (refine szB rfl ?_; omega) | (unfold inI64; omega) | (simp only [lns] at *; omega) | decide | (unfold inI64; decide)); conv => whnf) | decide | assumption)
   refine .freeze _ 30 162 9 _ _ rfl (.ent _ _ (Entails.froCell 2 30 9 _ 4 _ rfl rfl rfl) (.weak _ ?_))
   conv => whnf
   exact ⟨.agg ((hiF ⟨h.key, h.drv, h.frm, h.to, updL (updL h.legs j.toNat lg0 (fun y => { y with veh := u2 })) j.toNat lg0 (fun y => { y with out := { y.out with tm := u3 } })⟩).map .d), [(1000000, strm n L _)],
    SV.le_agg ⟨lr, lr, lr, lr, SV.le_upd2 (f := lgF) (d := lg0) (fun y : Leg => { y with veh := u2 }) (fun y => { y with out := { y.out with tm := u3 } }) (fun _ => rfl) (fun _ => rfl), trivial⟩,
    ⟨⟨⟨h.key, h.drv, h.frm, h.to, updL (updL h.legs j.toNat lg0 (fun y => { y with veh := u2 })) j.toNat lg0 (fun y => { y with out := { y.out with tm := u3 } })⟩, ⟨hh.1, hh.2.1, (by simp; omega), (allK_upd (g := fun y : Leg => { y with out := { y.out with tm := u3 } }) (allK_upd (g := fun y : Leg => { y with veh := u2 }) (k := 3) ⟨hl3, hh.2.2.2⟩ (fun y hy => ⟨hw2, hy.2.1, hy.2.2⟩)) (fun y hy => ⟨hy.1, hy.2.1, hy.2.2⟩)).2⟩, rfl⟩, _, by omega, by omega, rfl⟩, rr, trivial⟩
 · repeat' (first | (refine CallX.of (s86 n L hL _ ?_ ?_ _ ?_) [(1000000, 1000000)] rfl ⟨lr, lr, trivial⟩ ⟨rr, trivial⟩ rfl rfl ?_; rotate_right; rintro x rout ⟨⟨j, hj1, hj2, hj3, rfl⟩, ⟨c, c1, c2, rfl⟩⟩; refine ⟨rfl, ?_⟩; conv => whnf) | (refine CallX.of (s33 n L hL _ ?_ ?_ [-1, 0, 100, 5000] ?_ ?_) [(1000000, 1000000)] rfl ⟨lr, SV.le_lit rfl rfl, trivial⟩ ⟨rr, trivial⟩ rfl rfl ?_; rotate_right; rintro x rout ⟨⟨u2, hu2, rfl⟩, ⟨c, c1, c2, rfl⟩⟩; have hw2 : -1 ≤ u2 ∧ u2 ≤ 5000 := (by simp at hu2; omega); refine ⟨rfl, ?_⟩; conv => whnf) | (refine CallX.of (sRdg n L hL _ ?_ ?_ u2 ?_ ?_) [(1000000, 1000000)] rfl ⟨lr, lr, trivial⟩ ⟨rr, trivial⟩ rfl rfl ?_; rotate_right; rintro x rout ⟨⟨ri, hri, rfl⟩, ⟨c3, c4, c5, rfl⟩⟩; refine ⟨rfl, ?_⟩; conv => whnf) | (refine br_intro ?_ ?_ <;> intro hb <;> (try simp only [brs] at hb) <;> conv => whnf) | (refine RegX.rule (id := 15) hT rfl [] oTHiF70_15 (by decide +kernel) ?_; conv => whnf) | (refine RegX.rule (id := 18) hT rfl [] oTHiF70_18 (by decide +kernel) ?_; conv => whnf) | (refine RegX.rule (id := 6) hT rfl [] oTHiF70_6 (by decide +kernel) ?_; conv => whnf) | omega | (refine And.intro ?_ ?_; ((try dsimp only); first | omega | (refine szA rfl ?_; omega) | (refine szB rfl ?_; omega) | (unfold inI64; omega) | (simp only [lns] at *; omega) | decide | (unfold inI64; decide)); conv => whnf) | decide | assumption)
   refine .freeze _ 30 162 9 _ _ rfl (.ent _ _ (Entails.froCell 2 30 9 _ 4 _ rfl rfl rfl) (.weak _ ?_))
   conv => whnf
   exact ⟨.agg ((hiF ⟨h.key, h.drv, h.frm, h.to, updL h.legs j.toNat lg0 (fun y => { y with inn := ri })⟩).map .d), [(1000000, strm n L _)],
    SV.le_agg ⟨lr, lr, lr, lr, SV.le_ro (by simp) (fun i hi => rows_updG (f := lgF) (d := lg0) (fun _ _ => rfl) (fun y : Leg => { y with inn := ri }) (fun _ => rfl) i (by simpa using hi)), trivial⟩,
    ⟨⟨⟨h.key, h.drv, h.frm, h.to, updL h.legs j.toNat lg0 (fun y => { y with inn := ri })⟩, ⟨hh.1, hh.2.1, (by simp; omega), (allK_upd (g := fun y : Leg => { y with inn := ri }) (k := 3) ⟨hl3, hh.2.2.2⟩ (fun y hy => ⟨hy.1, hy.2.1, hri⟩)).2⟩, rfl⟩, _, by omega, by omega, rfl⟩, rr, trivial⟩
 · repeat' (first | (refine CallX.of (s86 n L hL _ ?_ ?_ _ ?_) [(1000000, 1000000)] rfl ⟨lr, lr, trivial⟩ ⟨rr, trivial⟩ rfl rfl ?_; rotate_right; rintro x rout ⟨⟨j, hj1, hj2, hj3, rfl⟩, ⟨c, c1, c2, rfl⟩⟩; refine ⟨rfl, ?_⟩; conv => whnf) | (refine CallX.of (s33 n L hL _ ?_ ?_ [0, 0, 1] ?_ ?_) [(1000000, 1000000)] rfl ⟨lr, SV.le_lit rfl rfl, trivial⟩ ⟨rr, trivial⟩ rfl rfl ?_; rotate_right; rintro x rout ⟨⟨u2, hu2, rfl⟩, ⟨c, c1, c2, rfl⟩⟩; refine ⟨rfl, ?_⟩; conv => whnf) | (refine br_intro ?_ ?_ <;> intro hb <;> (try simp only [brs] at hb) <;> conv => whnf) | (refine RegX.rule (id := 15) hT rfl [] oTHiF70_15 (by decide +kernel) ?_; conv => whnf) | (refine RegX.rule (id := 18) hT rfl [] oTHiF70_18 (by decide +kernel) ?_; conv => whnf) | (refine RegX.rule (id := 6) hT rfl [] oTHiF70_6 (by decide +kernel) ?_; conv => whnf) | omega | (refine And.intro ?_ ?_; ((try dsimp only); first | omega | (refine szA rfl ?_; omega) | (refine szB rfl ?_; omega) | (unfold inI64; omega) | (simp only [lns] at *; omega) | decide | (unfold inI64; decide)); conv => whnf) | decide | assumption)
   refine .freeze _ 30 162 9 _ _ rfl (.ent _ _ (Entails.froCell 2 30 9 _ 4 _ rfl rfl rfl) (.weak _ ?_))
   conv => whnf
   exact ⟨.agg ((hiF ⟨h.key, h.drv, h.frm, h.to, updL h.legs j.toNat lg0 (fun y => { y with inn := ⟨-1, [], u2, 0⟩ })⟩).map .d), [(1000000, strm n L _)],
    SV.le_agg ⟨lr, lr, lr, lr, SV.le_ro (by simp) (fun i hi => rows_updG (f := lgF) (d := lg0) (fun _ _ => rfl) (fun y : Leg => { y with inn := ⟨-1, [], u2, 0⟩ }) (fun _ => rfl) i (by simpa using hi)), trivial⟩,
    ⟨⟨⟨h.key, h.drv, h.frm, h.to, updL h.legs j.toNat lg0 (fun y => { y with inn := ⟨-1, [], u2, 0⟩ })⟩, ⟨hh.1, hh.2.1, (by simp; omega), (allK_upd (g := fun y : Leg => { y with inn := ⟨-1, [], u2, 0⟩ }) (k := 3) ⟨hl3, hh.2.2.2⟩ (fun y hy => ⟨hy.1, hy.2.1, by simp [rgB]⟩)).2⟩, rfl⟩, _, by omega, by omega, rfl⟩, rr, trivial⟩
def k4 : List (List UInt8) := [[104, 49], [104, 50], [104, 51], [104, 52]]
set_option maxHeartbeats 4000000 in
theorem sHirs (n : Nat) (L : Nat → Int) (hL : Rok n L) (a : Int) (h0 : 0 ≤ a) (ha : a ≤ 2^35) (m : Int) (hm0 : 0 ≤ m) (hm : m ≤ 4) :
 FSpec Tryz.prog 11 [.ptr 1000000 0, .d (.int .i64 m)] [(1000000, strm n L a)] (fun y r => (∃ l : List Hir, allK (hiB 3) 5 l ∧ y = .d (hirs l)) ∧ Moved n L a 3000 r) := by
 refine spec_of hT (C := []) Tryz.func11 rfl Tryz.call11 rfl rfl rfl ?_
 conv => whnf
 repeat' (first | (refine And.intro (show (0 : Int) ≤ 0 ∧ 0 ≤ min m 4 ∧ min m 4 ≤ ((4 : Nat) : Int) from by omega) ?_; conv => whnf) | (refine br_intro ?_ ?_ <;> intro hb <;> (try simp only [brs] at hb) <;> conv => whnf) | omega | (refine And.intro ?_ ?_; ((try dsimp only); first | omega | (refine szA rfl ?_; omega) | (refine szB rfl ?_; omega) | (unfold inI64; omega) | (simp only [lns] at *; omega) | decide | (unfold inI64; decide)); conv => whnf) | decide | assumption)
 refine LoopX.rule hT (C := []) (ι := Int × List Hir × Nat) (fun (b, l, i) => (a ≤ b ∧ b ≤ a + 500 * i ∧ (i : Int) ≤ m) ∧ allK (hiB 3) i l)
  (fun (b, l, i) => mkSt [(0, .ptr 1000000 0), (5, .buf 5), (11, .d (strs (k4.take m.toNat))), (12, .d (.int .i64 m)), (13, .d (.int .i64 i))] [(1000000, strm n L b), (5, seqB 130 5 hiF hi0 l)])
  (fun (_, _, i) => (m - i).toNat) (a, [], 0) ⟨⟨by simp, by simp, by simpa using hm0⟩, ⟨by simp, by simp⟩⟩ ?_ ?_
 · refine (Entails.nil 5 5 130 5 (rowF hiF hi0 []) rfl rfl (by decide)).trans (Entails.mk' [(1000000, 1000000), (5, 5)] rfl rfl ⟨lr, lr, ?_, SV.le_int (by first | omega | (show (((min m 4 - 0).toNat : Nat) : Int) = m; omega) | (show ((min m 4).toNat : Int) = m; omega)), lr, trivial⟩ ⟨rr, rr, trivial⟩)
   have h4 : (k4.take m.toNat).length = m.toNat := by rw [List.length_take]; show min m.toNat 4 = _; omega
   have hm4 : (min m 4 - 0).toNat = m.toNat := by omega
   refine SV.le_ro (by rw [h4]; first | exact hm4 | omega) (fun i hi => ?_)
   have hi : i < m.toNat := by first | omega | (rw [← hm4]; exact hi)
   have hk : rowF sF [] (k4.take m.toNat) i = rowF sF [] k4 i := by
    simp only [rowF]
    rw [List.getD_eq_getElem?_getD, List.getElem?_take_of_lt hi, ← List.getD_eq_getElem?_getD]
   rw [hk]
   have : i = 0 ∨ i = 1 ∨ i = 2 ∨ i = 3 := by omega
   rcases this with rfl | rfl | rfl | rfl <;> rfl
 rintro ⟨b, l, i⟩ ⟨⟨p1, p2, p3⟩, p4⟩
 have p1 : a ≤ b := p1
 have p2 : b ≤ a + 500 * i := p2
 have p3 : (i : Int) ≤ m := p3
 have p4 : allK (hiB 3) i l := p4
 have hl1 := p4.1
 have h4 : (k4.take m.toNat).length = m.toNat := by rw [List.length_take]; show min m.toNat 4 = _; omega
 have hkl : ((k4.take m.toNat).getD (i : Int).toNat []).length ≤ 8 := by
  by_cases q : (i : Int).toNat < (k4.take m.toNat).length
  · have := List.mem_of_mem_take (getD_mem (x := []) q)
    exact mem_len this rfl
  · rw [List.getD_eq_getElem?_getD, List.getElem?_eq_none (by omega)]; simp
 conv => whnf
 repeat' (first | (refine CallX.of (s33 n L hL _ ?_ ?_ [0, 50, 100, 100, 300, 1000] ?_ ?_) [(1000000, 1000000)] rfl ⟨lr, SV.le_lit rfl rfl, trivial⟩ ⟨rr, trivial⟩ rfl rfl ?_; rotate_right; rintro x rout ⟨⟨u1, hu1, rfl⟩, ⟨c, c1, c2, rfl⟩⟩; have hw1 := pkD hu1 (by decide); refine ⟨rfl, ?_⟩; conv => whnf) | (refine CallX.of (sRh n L hL _ ?_ ?_ ((k4.take m.toNat).getD (i : Int).toNat []) hkl u1 hw1.1 ?_) [(1000000, 1000000)] rfl ⟨lr, lr, lr, trivial⟩ ⟨rr, trivial⟩ rfl rfl ?_; rotate_right; rintro x rout ⟨⟨h, hh, hhl, rfl⟩, ⟨c, c1, c2, rfl⟩⟩; refine ⟨rfl, ?_⟩; conv => whnf) | (refine br_intro ?_ ?_ <;> intro hb <;> (try simp only [brs] at hb) <;> conv => whnf) | omega | (refine And.intro ?_ ?_; ((try dsimp only); first | omega | (refine szA rfl ?_; omega) | (refine szB rfl ?_; omega) | (unfold inI64; omega) | (simp only [lns] at *; omega) | decide | (unfold inI64; decide)); conv => whnf) | decide | assumption)
 · refine ⟨(_, l ++ [h], i + 1), ⟨⟨by omega, ?_, by omega⟩, allK_snoc p4 (by omega) hh⟩, (show (m - ((i + 1 : Nat) : Int)).toNat < (m - (i : Int)).toNat by omega), Entails.mk' [(1000000, 1000000), (5, 25)] rfl rfl ⟨lr, lr, lr, lr, lr, trivial⟩ ⟨rr, Res.le_snocF rfl, trivial⟩⟩
   show _ ≤ a + 500 * ((i + 1 : Nat) : Int)
   omega
 repeat' (first | (refine CallX.of (s84 n L hL _ ?_ ?_ _ ?_) [(1000000, 1000000)] rfl ⟨lr, lr, trivial⟩ ⟨rr, trivial⟩ rfl rfl ?_; rotate_right; rintro x rout ⟨⟨w, rfl⟩, ⟨c, c1, c2, rfl⟩⟩; refine ⟨rfl, ?_⟩; conv => whnf) | (refine CallX.of (sHir n L hL _ ?_ ?_) [(1000000, 1000000)] rfl ⟨lr, trivial⟩ ⟨rr, trivial⟩ rfl rfl ?_; rotate_right; rintro x rout ⟨⟨h, hh, rfl⟩, ⟨c, c1, c2, rfl⟩⟩; refine ⟨rfl, ?_⟩; conv => whnf) | (refine br_intro ?_ ?_ <;> intro hb <;> (try simp only [brs] at hb) <;> conv => whnf) | omega | (refine And.intro ?_ ?_; ((try dsimp only); first | omega | (refine szA rfl ?_; omega) | (refine szB rfl ?_; omega) | (unfold inI64; omega) | (simp only [lns] at *; omega) | decide | (unfold inI64; decide)); conv => whnf) | decide | assumption)
 · refine .freeze _ 33 130 5 _ _ rfl (.weak _ ?_)
   conv => whnf
   exact ⟨_, [(1000000, strm n L _)], SV.le_snocF rfl, ⟨⟨l ++ [h], allK_snoc (allK_le p4 (by omega : i ≤ 4)) (by omega) hh, rfl⟩, _, by omega, by omega, rfl⟩, rr, trivial⟩
 · refine .freeze _ 5 130 5 _ _ rfl (.weak _ ?_)
   conv => whnf
   exact ⟨_, [(1000000, strm n L _)], lr, ⟨⟨l, allK_le p4 (by omega), rfl⟩, _, by omega, by omega, rfl⟩, rr, trivial⟩
def oTBlB33_1 : List (Nat × List Nat) := [(0, []), (4, [0]), (6, [0, 4]), (1, [4, 6]), (2, [4, 6]), (3, [4, 6]), (5, [6]), (7, []), (8, []), (9, []), (10, [])]
def oTBlB33_25 : List (Nat × List Nat) := [(0, []), (1, []), (2, [0, 1]), (3, [0, 1]), (4, [2, 3]), (5, [])]
abbrev shB (l : List Pair) : Res := seqB 74 2 pF ([], 0) l
def K0 (ps : List Pair) : List Pair := ([], 0) :: ps.map fun p => (p.1, 0)
def W0 (ps : List Pair) : List Int := 0 :: ps.map (·.2)
theorem K0_snoc (ps : List Pair) (k : List UInt8) (n : Int) : K0 (ps ++ [(k, n)]) = K0 ps ++ [(k, 0)] := by simp [K0]
theorem W0_snoc (ps : List Pair) (k : List UInt8) (n : Int) : W0 (ps ++ [(k, n)]) = W0 ps ++ [n] := by simp [W0]
theorem K0_len (ps : List Pair) : (K0 ps).length = ps.length + 1 := by simp [K0]
theorem W0_len (ps : List Pair) : (W0 ps).length = ps.length + 1 := by simp [W0]
theorem W0_sum (ps : List Pair) : (W0 ps).sum = (ps.map (·.2)).sum := by simp [W0]
theorem prts_mem {v : List UInt8} {a b : Int} {l : List Hir} {p : Pair} (h : p ∈ prts v a b l) : 0 < p.2 ∧ ∃ g ∈ l, p.1 = g.key := by
 unfold prts at h
 obtain ⟨h1, h2⟩ := List.mem_filter.1 h
 obtain ⟨g, hg, rfl⟩ := List.mem_map.1 h1
 exact ⟨by simpa using h2, g, hg, rfl⟩
theorem prts_len (v : List UInt8) (a b : Int) (l : List Hir) : (prts v a b l).length ≤ l.length := by
 unfold prts
 refine Nat.le_trans (List.length_filter_le _ _) ?_
 simp
theorem hadA_len {v : List UInt8} {a b : Int} {l : List Hir} (hl : ∀ h ∈ l, h.legs.length ≤ 3) : ∀ i, i ≤ l.length → (hadA v a b l i).length ≤ 3 * i := by
 intro i
 induction i with
 | zero => intro _; simp [hadA]
 | succ i ih =>
   intro hi
   rw [hadA_succ (by omega), List.length_append]
   have := ih (by omega)
   have h2 := (hadN_ok v a b (l.getD i hi0).legs (l.getD i hi0).legs.length).1
   have h3 := hl (l.getD i hi0) (getD_mem (by omega))
   unfold hadH
   omega
theorem hadA_in (v : List UInt8) (a b : Int) (l : List Hir) (i : Nat) : inW a b (hadA v a b l i) := fun x hx => by
 unfold hadA at hx
 obtain ⟨h, _, hh⟩ := List.mem_flatMap.1 hx
 exact (hadN_ok v a b h.legs h.legs.length).2 x hh
theorem hadA_sum (v : List UInt8) (a b : Int) (l : List Hir) (i : Nat) : wlen (hadA v a b l i) = (W0 (prts v a b (l.take i))).sum := by
 unfold hadA
 rw [hadA_wlen, W0_sum, prts_sum]
theorem mkS_eq {c : Int} {ws Q : List Pair} (h1 : Q.length = ws.length) (hl : (splitG c (ws.map (·.2))).length = ws.length) (h2 : ∀ j, j < ws.length → (Q.getD j ([], 0)).1 = (ws.getD j ([], 0)).1)
 (h3 : ∀ j, j < ws.length → (Q.getD j ([], 0)).2 = (splitG c (ws.map (·.2))).getD j 0) : Q = mkS c ws := by
 unfold mkS
 refine eq_of_getD ([], 0) (by simp [h1, hl]) (fun j hj => ?_)
 have hj' : j < ws.length := by omega
 have e : (List.zipWith (fun (p : Pair) (x : Int) => ((p.1, x) : Pair)) ws (splitG c (ws.map (·.2)))).getD j ([], 0) = ((ws.getD j ([], 0)).1, (splitG c (ws.map (·.2))).getD j 0) := by
  rw [List.getD_eq_getElem?_getD, List.getElem?_zipWith, List.getElem?_eq_getElem hj', List.getElem?_eq_getElem (by omega : j < (splitG c (ws.map (·.2))).length), List.getD_eq_getElem?_getD, List.getD_eq_getElem?_getD, List.getElem?_eq_getElem hj', List.getElem?_eq_getElem (by omega : j < (splitG c (ws.map (·.2))).length)]
  rfl
 rw [e, ← h2 j hj', ← h3 j hj']
theorem K0_get (P : List Pair) (j : Nat) (x : Int) : ((K0 P).getD j ([], 0)).1 = ((([], x) :: P : List Pair).getD j ([], 0)).1 := by
 unfold K0
 cases j with
 | zero => rfl
 | succ j =>
   rw [List.getD_cons_succ, List.getD_cons_succ, List.getD_eq_getElem?_getD, List.getElem?_map, List.getD_eq_getElem?_getD]
   cases P[j]? <;> rfl
theorem drop1_get (Q : List Pair) (j : Nat) : (Q.drop 1).getD j ([], 0) = Q.getD (1 + j) ([], 0) := by
 rw [List.getD_eq_getElem?_getD, List.getElem?_drop, ← List.getD_eq_getElem?_getD]
def blE0 (v : List UInt8) (a b : Int) (l : List Hir) : Int := firstE [if (!isKeyB v) = true then 5 else 0, winE a b, hirsE l]
open Classical in
noncomputable def blmF (v : List UInt8) (a b : Int) (l : List Hir) (c : Int) : List Pair × Int := if blE0 v a b l = 0 then blmE v a b l c else ([], blE0 v a b l)
def blPost (q : List Pair × Int) (y : SV) : Prop := y = .tup [.d (pairs q.1), .d (.int .i64 q.2)]
theorem firstE2_0 (x : Int) : firstE [x, 0] = x := by simp only [firstE]; grind
theorem firstE2_ne (x : Int) : firstE [x, 1] ≠ 0 := by simp only [firstE]; grind
theorem rows_drop1 {W : List Int} {o : Int} : ∀ i, i < (W.drop 1).length → (bif Nat.beq (1 + i) 0 then setAtD (rowF iF 0 W (1 + i)) 0 [.int .i64 o] else rowF iF 0 W (1 + i)) = rowF iF 0 (W.drop 1) i := by
 intro i hi
 rw [nbeq_ne (by omega : 1 + i ≠ 0)]
 simp only [cond_false, rowF]
 congr 1
 rw [List.getD_eq_getElem?_getD, List.getD_eq_getElem?_getD, List.getElem?_drop]
theorem getD_set_ne {α : Type} {l : List α} {i j : Nat} {x d : α} (h : i ≠ j) : (l.set i x).getD j d = l.getD j d := by
 rw [List.getD_eq_getElem?_getD, List.getElem?_set, if_neg h, List.getD_eq_getElem?_getD]
theorem getD_set_eq {α : Type} {l : List α} {i : Nat} {x d : α} (h : i < l.length) : (l.set i x).getD i d = x := by
 rw [List.getD_eq_getElem?_getD, List.getElem?_set]; simp [h]
theorem getD_set_fst {Q : List Pair} {j k : Nat} {x : Int} : ((Q.set j ((Q.getD j ([], 0)).1, x)).getD k ([], 0)).1 = (Q.getD k ([], 0)).1 := by
 by_cases h : j = k
 · subst h
   by_cases hj : j < Q.length
   · rw [getD_set_eq hj]
   · rw [List.set_eq_of_length_le (by omega)]
 · rw [getD_set_ne h]
theorem le_sum {l : List Int} (h : ∀ x ∈ l, 0 ≤ x) : ∀ x ∈ l, x ≤ l.sum := by
 induction l with
 | nil => intro x hx; cases hx
 | cons y l ih =>
   intro x hx
   have h1 := sum_nonneg fun z hz => h z (List.mem_cons_of_mem _ hz)
   rw [List.sum_cons]
   rcases List.mem_cons.1 hx with rfl | q
   · omega
   · have := ih (fun z hz => h z (List.mem_cons_of_mem _ hz)) x q
     have := h y (by simp)
     omega
theorem hirs_seq {l : List Hir} (h : hirsE l = 0) : (∀ g ∈ l, hirE g = 0) ∧ ∀ i, 0 < i → i < l.length → strLe (l.getD i hi0).key (l.getD (i - 1) hi0).key = false := by
 unfold hirsE at h
 split at h
 · omega
 have hall := firstAt_all h
 refine ⟨fun g hg => ?_, fun i h0 hi => ?_⟩
 · obtain ⟨i, hi, rfl⟩ := mem_getD (d := hi0) hg
   have := hall i hi
   unfold hirsE1 at this
   split at this
   · omega
   · rename_i q; exact Classical.not_not.1 q
 · have := hall i hi
   unfold hirsE1 at this
   split at this
   · omega
   · split at this
     · omega
     · rename_i q
       cases e : strLe (l.getD i hi0).key (l.getD (i - 1) hi0).key with
       | false => rfl
       | true => exact absurd ⟨h0, e⟩ q
set_option maxHeartbeats 8000000 in
theorem z33 (v : List UInt8) (hv : v.length ≤ 2^40) (a b : Int) (l : List Hir) (hl : allK (hiB 3) 5 l) (c : Int) :
 FSpec Tryz.prog 33 [.d (.str v), .agg [.d (.int .i64 a), .d (.int .i64 b)], .d (hirs l), .d (.int .i64 c)] []
  (fun y r => blPost (blmF v a b l c) y ∧ r = []) := by
 have hl5 := hl.1
 have hok : hiOk l := ⟨by omega, fun h hh => hiB_K (hl.2 h hh) (by omega)⟩
 have c1 := s108 v hv
 have c2 := z123 a b
 have c3 := z124 l hok
 obtain ⟨E, hE⟩ : ∃ E : Int, E = blE0 v a b l := ⟨_, rfl⟩
 have c4 := s105 [if (!isKeyB v) = true then 5 else 0, winE a b, hirsE l] (by simp)
 rw [show firstE [if (!isKeyB v) = true then 5 else 0, winE a b, hirsE l] = E from hE.symm] at c4
 refine spec_of hT (C := [42, 43]) Tryz.func33 rfl Tryz.call33 rfl rfl rfl ?_
 conv => whnf
 repeat' (first | (refine CallX.exact (c1) rfl rfl ?_; rotate_right; conv => whnf) | (refine CallX.exact (s107 _ _) rfl rfl ?_; rotate_right; conv => whnf) | (refine CallX.exact (c2) rfl rfl ?_; rotate_right; conv => whnf) | (refine CallX.exact (c3) rfl rfl ?_; rotate_right; conv => whnf) | (refine CallX.pure c4 ⟨SV.le_lit (by rfl) (by rfl), trivial⟩ rfl ?_; conv => whnf) | (refine br_intro ?_ ?_ <;> intro hb <;> (try simp only [brs] at hb) <;> conv => whnf) | (refine RegX.rule (id := 1) hT rfl [] oTBlB33_1 (by decide +kernel) ?_; conv => whnf) | (refine RegX.rule (id := 25) hT rfl [] oTBlB33_25 (by decide +kernel) ?_; conv => whnf) | omega | (refine And.intro ?_ ?_; ((try dsimp only); first | omega | (refine szA rfl ?_; omega) | (refine szB rfl ?_; omega) | (unfold inI64; omega) | (simp only [lns] at *; omega) | decide | (unfold inI64; decide)); conv => whnf) | decide | assumption)
 · refine .weak _ ?_
   conv => whnf
   refine ⟨.tup [.d (pairs []), .d (.int .i64 E)], [], SV.le_tup ⟨SV.le_nilS, lr, trivial⟩, ⟨?_, rfl⟩, trivial⟩
   unfold blPost blmF
   rw [if_neg (by rw [← hE]; omega), ← hE]
 have hE0 : blE0 v a b l = 0 := by omega
 have hF : blmF v a b l c = blmE v a b l c := by unfold blmF; rw [if_pos hE0]
 have hw : winE a b = 0 := by
  unfold blE0 at hE0
  simp only [firstE] at hE0
  grind
 have hh0 : hirsE l = 0 := by
  unfold blE0 at hE0
  simp only [firstE] at hE0
  grind
 have hseq : ∀ g ∈ l, lgSeq g.legs := fun g hg => lgSeq_of ((hirs_seq hh0).1 g hg)
 have hab : (0 ≤ a ∧ a ≤ b) ∧ b ≤ 5761440 := by unfold winE at hw; grind
 obtain ⟨⟨ha0, hab⟩, hb0⟩ := hab
 have hl3 : ∀ h ∈ l, h.legs.length ≤ 3 := fun h hh => (hl.2 h hh).2.2.1
 rw [hF]
 repeat' (first | (refine br_intro ?_ ?_ <;> intro hb <;> (try simp only [brs] at hb) <;> conv => whnf) | (refine RegX.rule (id := 1) hT rfl [] oTBlB33_1 (by decide +kernel) ?_; conv => whnf) | (refine RegX.rule (id := 25) hT rfl [] oTBlB33_25 (by decide +kernel) ?_; conv => whnf) | omega | (refine And.intro ?_ ?_; ((try dsimp only); first | omega | (refine szA rfl ?_; omega) | (refine szB rfl ?_; omega) | (unfold inI64; omega) | (simp only [lns] at *; omega) | decide | (unfold inI64; decide)); conv => whnf) | decide | assumption)
 refine LoopX.rule hT (C := [42, 43]) (ι := Nat) (fun i => (i ≤ l.length ∧ disjW (hadA v a b l i)) ∧ ∀ i', i' < i → ∀ j, j < (hadH v a b (l.getD i' hi0)).length → hitW (hadA v a b l i' ++ (hadH v a b (l.getD i' hi0)).take j) ((hadH v a b (l.getD i' hi0)).getD j vw0) = false)
  (fun i => mkSt [(0, .d (.str v)), (3, .d (.int .i64 c)), (5, .ptr 5 0), (11, .d (.int .i64 (b - a - (W0 (prts v a b (l.take i))).sum))), (12, .buf 12), (13, .buf 13), (14, .buf 14), (44, .d (hirs l)), (45, .d (.int .i64 l.length)), (46, .d (.int .i64 i))] [(5, vwC (a, b)), (12, vwB (hadA v a b l i)), (13, shB (K0 (prts v a b (l.take i)))), (14, seqB 3 1 iF 0 (W0 (prts v a b (l.take i))))])
  (fun i => l.length - i) 0 ⟨⟨by simp, List.Pairwise.nil⟩, fun i' h => by omega⟩ ?_ ?_
 · exact (Entails.nil 12 12 65 2 (rowF vwF vw0 []) rfl rfl (by decide)).trans (by (refine Entails.mk' [(5, 5), (12, 12), (13, 42), (14, 43)] rfl rfl ?_ ?_ <;> repeat' (first | exact True.intro | exact lr | exact rr | (exact SV.le_int (by simp [W0, prts])) | (exact Res.le_lit rfl rfl) | exact SV.le_int (by omega) | exact SV.le_any _ | refine And.intro ?_ ?_)); done)
 rintro i ⟨⟨p1, d1⟩, nh⟩
 have hsum := hadA_sum v a b l i
 have hin := hadA_in v a b l i
 have hm := disj_sum _ (hadA v a b l i) a b (Nat.le_refl _) d1 hin hab
 have hAl := hadA_len (v := v) (a := a) (b := b) hl3 i p1
 have hPl := prts_len v a b (l.take i)
 have hPl : (prts v a b (l.take i)).length ≤ i := by simp at hPl; omega
 have hs0 : 0 ≤ (W0 (prts v a b (l.take i))).sum := by
  rw [W0_sum, prts_sum]
  exact sum_nonneg fun x hx => by obtain ⟨h, _, rfl⟩ := List.mem_map.1 hx; exact hadS_nonneg v a b h
 have e1 : (i : Int).toNat = i := Int.toNat_natCast i
 by_cases hi : i < l.length
 · have hH : hiB 3 (l.getD (i : Int).toNat hi0) := hl.2 _ (getD_mem (by omega))
   have hHl := hH.2.2.1
   have c5 := z125 (l.getD (i : Int).toNat hi0) v a b (by omega)
   have hD0 := hadN_ok v a b (l.getD (i : Int).toNat hi0).legs (l.getD (i : Int).toNat hi0).legs.length
   have hA1 := hadA_succ (v := v) (a := a) (b := b) hi
   have hP1 := prts_take (v := v) (a := a) (b := b) hi
   have hcl := fun j hj hh => clash_of (v := v) (a := a) (b := b) hi (hseq _ (getD_mem hi)) (j := j) hj hh
   rw [← e1] at hA1 hP1 hcl
   simp only [Int.toNat_natCast] at hA1 hP1
   obtain ⟨D, hD⟩ : ∃ D, D = hadN v a b (l.getD (i : Int).toNat hi0).legs (l.getD (i : Int).toNat hi0).legs.length := ⟨_, rfl⟩
   have hDH : hadH v a b (l.getD i hi0) = D := by rw [hD, e1]; rfl
   have hDS : hadS v a b (l.getD i hi0) = wlen D := by unfold hadS; rw [hDH]
   rw [← hD] at c5 hD0
   obtain ⟨hD1, hD2⟩ := hD0
   have hD3 : D.length ≤ 3 := by omega
   conv => whnf
   repeat' (first | (refine CallX.exact (c5) rfl rfl ?_; rotate_right; conv => whnf) | (refine br_intro ?_ ?_ <;> intro hb <;> (try simp only [brs] at hb) <;> conv => whnf) | (refine RegX.rule (id := 1) hT rfl [] oTBlB33_1 (by decide +kernel) ?_; conv => whnf) | (refine RegX.rule (id := 25) hT rfl [] oTBlB33_25 (by decide +kernel) ?_; conv => whnf) | omega | (refine And.intro ?_ ?_; ((try dsimp only); first | omega | (refine szA rfl ?_; omega) | (refine szB rfl ?_; omega) | (unfold inI64; omega) | (simp only [lns] at *; omega) | decide | (unfold inI64; decide)); conv => whnf) | decide | assumption)
   · refine LoopX.rule hT (C := [42, 43]) (ι := Nat) (fun j => (j ≤ D.length ∧ disjW (hadA v a b l i ++ D.take j)) ∧ ∀ j', j' < j → hitW (hadA v a b l i ++ D.take j') (D.getD j' vw0) = false)
      (fun j => mkSt [(0, .d (.str v)), (3, .d (.int .i64 c)), (5, .ptr 5 0), (11, .d (.int .i64 (b - a - (W0 (prts v a b (l.take i))).sum))), (12, .buf 12), (13, .buf 13), (14, .buf 14), (16, .ptr 16 0), (17, .d (.int .i64 (wlen (D.take j)))), (44, .d (hirs l)), (45, .d (.int .i64 l.length)), (46, .d (.int .i64 i)), (53, .d (wins D)), (54, .d (.int .i64 D.length)), (55, .d (.int .i64 j))] [(5, vwC (a, b)), (12, vwB (hadA v a b l i ++ D.take j)), (13, shB (K0 (prts v a b (l.take i)))), (14, seqB 3 1 iF 0 (W0 (prts v a b (l.take i)))), (16, hcell (l.getD (i : Int).toNat hi0))])
      (fun j => D.length - j) 0 ⟨⟨by omega, by simpa using d1⟩, fun j' h => by omega⟩ (by (refine Entails.mk' [(5, 5), (12, 12), (13, 13), (14, 14), (16, 16)] rfl rfl ?_ ?_ <;> repeat' (first | exact True.intro | exact lr | exact rr | (exact SV.le_int (by simp [wlen])) | (exact Res.le_buf (by simp) (fun i hi => by simp)) | exact SV.le_int (by omega) | exact SV.le_any _ | refine And.intro ?_ ?_)); done) ?_
     rintro j ⟨⟨q1, q3⟩, nj⟩
     have f1 : (j : Int).toNat = j := Int.toNat_natCast j
     have q4 : inW a b (hadA v a b l i ++ D.take j) := fun y hy => by
      rcases List.mem_append.1 hy with q | q
      · exact hin y q
      · exact hD2 y (List.mem_of_mem_take q)
     have hm' := disj_sum _ (hadA v a b l i ++ D.take j) a b (Nat.le_refl _) q3 q4 hab
     have hwa : wlen (hadA v a b l i ++ D.take j) = (W0 (prts v a b (l.take i))).sum + wlen (D.take j) := by rw [wlen_app, hsum]
     have hw0 : 0 ≤ wlen (D.take j) := by
      unfold wlen
      exact sum_nonneg fun x hx => by
       obtain ⟨y, hy, rfl⟩ := List.mem_map.1 hx
       have := hD2 y (List.mem_of_mem_take hy)
       omega
     have hlen0 : (hadA v a b l i ++ D.take j).length ≤ 20 := by rw [List.length_append, List.length_take]; omega
     have hlen : (hadA v a b l i ++ D.take j).length ≤ 2^40 := by omega
     by_cases hj : j < D.length
     · have hx := hD2 (D.getD (j : Int).toNat vw0) (getD_mem (by omega))
       obtain ⟨x1, x2, x3⟩ := hx
       have ht : D.take (j + 1) = D.take j ++ [D.getD (j : Int).toNat vw0] := by rw [f1]; exact take_snocD hj
       have c6 := z126 (D.getD (j : Int).toNat vw0) (hadA v a b l i ++ D.take j) hlen
       have hI1 : inI64 ((D.getD (j : Int).toNat vw0).2 - (D.getD (j : Int).toNat vw0).1) := by unfold inI64; omega
       have hI2 : inI64 (wlen (D.take j) + ((D.getD (j : Int).toNat vw0).2 - (D.getD (j : Int).toNat vw0).1)) := by unfold inI64; omega
       conv => whnf
       repeat' (first | (refine CallX.of c6 [(1000001, 12), (1000002, 19)] rfl ⟨lr, lr, trivial⟩ ⟨rr, rr, trivial⟩ rfl rfl ?_; rintro y rout ⟨rfl, rfl⟩; refine ⟨rfl, ?_⟩; conv => whnf) | (refine And.intro hI1 ?_; conv => whnf) | (refine And.intro hI2 ?_; conv => whnf) | (refine br_intro ?_ ?_ <;> intro hb <;> (try simp only [brs] at hb) <;> conv => whnf) | (refine RegX.rule (id := 1) hT rfl [] oTBlB33_1 (by decide +kernel) ?_; conv => whnf) | (refine RegX.rule (id := 25) hT rfl [] oTBlB33_25 (by decide +kernel) ?_; conv => whnf) | omega | (refine And.intro ?_ ?_; ((try dsimp only); first | omega | (refine szA rfl ?_; omega) | (refine szB rfl ?_; omega) | (unfold inI64; omega) | (simp only [lns] at *; omega) | decide | (unfold inI64; decide)); conv => whnf) | decide | assumption)
       · refine .weak _ ?_
         conv => whnf
         refine ⟨.tup [.d (pairs []), .d (.int .i64 13)], [], SV.le_tup ⟨SV.le_nilS, lr, trivial⟩, ⟨?_, rfl⟩, trivial⟩
         have hc : clash v a b l := by
          refine clash_of (i := i) hi (hseq _ (getD_mem hi)) (j := j) (by rw [hDH]; exact hj) ?_
          rw [hDH]
          simpa [f1] using hb
         unfold blPost blmE
         rw [if_pos hc]
       · have hno : hitW (hadA v a b l i ++ D.take j) (D.getD (j : Int).toNat vw0) = false := by simpa using hb
         have hd := disj_snoc q3 (hitW_no hno)
         rw [List.append_assoc, ← ht] at hd
         refine ⟨j + 1, ⟨⟨by omega, hd⟩, fun j' hj' => ?_⟩, (show D.length - (j + 1) < D.length - j by omega), Entails.mk' [(5, 5), (12, 65), (13, 13), (14, 14), (16, 16)] rfl rfl ⟨lr, lr, lr, lr, lr, lr, lr, lr, SV.le_int ?_, lr, lr, lr, lr, lr, SV.le_int (by omega), trivial⟩ ⟨rr, ?_, rr, rr, rr, trivial⟩⟩
         · rcases Nat.lt_or_ge j' j with q | q
           · exact nj j' q
           · have : j' = j := by omega
             subst this
             rw [f1] at hno; exact hno
         · rw [ht, wlen_app, wlen_cons]; simp [wlen]
         · rw [ht, ← List.append_assoc]
           exact Res.le_snocF rfl
     · have hjD : j = D.length := by omega
       have hall : D.take j = D := by rw [hjD, List.take_length]
       have hnh : ∀ i', i' < i + 1 → ∀ j, j < (hadH v a b (l.getD i' hi0)).length → hitW (hadA v a b l i' ++ (hadH v a b (l.getD i' hi0)).take j) ((hadH v a b (l.getD i' hi0)).getD j vw0) = false := fun i' hi' k hk => by
        rcases Nat.lt_or_ge i' i with q | q
        · exact nh i' q k hk
        · have : i' = i := by omega
          subst this
          rw [hDH] at hk ⊢
          exact nj k (by omega)
       have hA2 : hadA v a b l (i + 1) = hadA v a b l i ++ D := by rw [hadA_succ hi, hDH]
       rw [hall] at q3 hwa hw0 hm' ⊢
       have hKl := K0_len (prts v a b (l.take i))
       have hWl := W0_len (prts v a b (l.take i))
       conv => whnf
       repeat' (first | (refine br_intro ?_ ?_ <;> intro hb <;> (try simp only [brs] at hb) <;> conv => whnf) | (refine RegX.rule (id := 1) hT rfl [] oTBlB33_1 (by decide +kernel) ?_; conv => whnf) | (refine RegX.rule (id := 25) hT rfl [] oTBlB33_25 (by decide +kernel) ?_; conv => whnf) | omega | (refine And.intro ?_ ?_; ((try dsimp only); first | omega | (refine szA rfl ?_; omega) | (refine szB rfl ?_; omega) | (unfold inI64; omega) | (simp only [lns] at *; omega) | decide | (unfold inI64; decide)); conv => whnf) | decide | assumption)
       all_goals try (exfalso; omega)
       · have hP2 : prts v a b (l.take (i + 1)) = prts v a b (l.take i) ++ [((l.getD (i : Int).toNat hi0).key, wlen D)] := by
          rw [prts_take hi, hDS, if_pos (by omega), e1]
         refine ⟨i + 1, ⟨⟨by omega, by rw [hA2]; exact q3⟩, hnh⟩, (show l.length - (i + 1) < l.length - i by omega), ?_⟩
         rw [hA2, hP2, K0_snoc, W0_snoc]
         exact Entails.mk' [(5, 5), (12, 12), (13, 81), (14, 85)] rfl rfl ⟨lr, lr, lr, SV.le_int (by simp; omega), lr, lr, lr, lr, lr, SV.le_int (by omega), trivial⟩ ⟨rr, rr, Res.le_snocF rfl, Res.le_snocF rfl, trivial⟩
       · have hP2 : prts v a b (l.take (i + 1)) = prts v a b (l.take i) := by
          rw [prts_take hi, hDS, if_neg (by omega), List.append_nil]
         refine ⟨i + 1, ⟨⟨by omega, by rw [hA2]; exact q3⟩, hnh⟩, (show l.length - (i + 1) < l.length - i by omega), ?_⟩
         rw [hA2, hP2]
         exact (by (refine Entails.mk' [(5, 5), (12, 12), (13, 13), (14, 14)] rfl rfl ?_ ?_ <;> repeat' (first | exact True.intro | exact lr | exact rr | exact SV.le_int (by omega) | exact SV.le_any _ | refine And.intro ?_ ?_)); done)
 · have hil : i = l.length := by omega
   have hnc : ¬ clash v a b l := no_clash fun i' hi' => nh i' (by omega)
   have htk : l.take i = l := by rw [hil, List.take_length]
   rw [htk] at hsum hPl hs0 ⊢
   obtain ⟨P, hP⟩ : ∃ P, P = prts v a b l := ⟨_, rfl⟩
   have hPk : ∀ p ∈ P, p.1.length ≤ 8 ∧ 0 < p.2 := fun p hp => by
    rw [hP] at hp
    obtain ⟨q1, g, hg, q2⟩ := prts_mem hp
    rw [q2]; exact ⟨(hl.2 g hg).1, q1⟩
   have hoff : offi v a b l = b - a - (W0 P).sum := by unfold offi; rw [hP, W0_sum, prts_sum]
   rw [← hP] at hsum hPl hs0 ⊢
   have hWl := W0_len P
   have hKl := K0_len P
   have hWs := W0_sum P
   have hw1 : ∀ x ∈ W0 P, 0 ≤ x := fun x hx => by
    unfold W0 at hx
    rcases List.mem_cons.1 hx with q | q
    · omega
    · obtain ⟨p, hp, rfl⟩ := List.mem_map.1 q
      have := (hPk p hp).2; omega
   have hset : (W0 P).set 0 (b - a - (W0 P).sum) = (b - a - (W0 P).sum) :: P.map (·.2) := rfl
   have hW0s : ((W0 P).set 0 (b - a - (W0 P).sum)).sum = b - a := by rw [hset, List.sum_cons]; omega
   have hW0b : ∀ x ∈ (W0 P).set 0 (b - a - (W0 P).sum), 0 ≤ x ∧ x ≤ 5761440 := fun x hx => by
    have h0 : ∀ x ∈ (W0 P).set 0 (b - a - (W0 P).sum), 0 ≤ x := fun x hx => by
     rcases List.mem_or_eq_of_mem_set hx with q | q
     · exact hw1 x q
     · omega
    have := le_sum h0 x hx
    have := h0 x hx
    omega
   have hdrop : (W0 P).drop 1 = P.map (·.2) := rfl
   have hW1b : ∀ x ∈ P.map (·.2), 0 ≤ x ∧ x ≤ 5761440 := fun x hx => hW0b x (by rw [hset]; exact List.mem_cons_of_mem _ hx)
   have hOl : (K0 P).length ≤ 6 := by omega
   have hsub : SV.le (SV.sub 13 2 (1 : Int).toNat ((((K0 P).length : Nat) : Int) - 1).toNat) (SV.sub 13 2 1 ((K0 P).length - 1)) := by
    rw [show (1 : Int).toNat = 1 from rfl, show ((((K0 P).length : Nat) : Int) - 1).toNat = (K0 P).length - 1 by omega]; exact lr
   have hpos : b - a - (W0 P).sum = 0 → (K0 P).length ≤ 1 → a = b := fun q1 q2 => by
    have : P = [] := List.eq_nil_of_length_eq_zero (by omega)
    rw [this] at hWs q1
    simp at hWs
    rw [hWs] at q1; omega
   by_cases hc : 0 ≤ c ∧ c ≤ 1000000000
   · have c6 := s119 c 0 1000000000
     rw [decide_eq_true hc] at c6
     have s1 : a < b → FSpec Tryz.prog 98 [.d (.int .i64 c), .d (ints ((W0 P).set 0 (b - a - (W0 P).sum)))] [] (fun y r => y = .d (ints (splitG c ((W0 P).set 0 (b - a - (W0 P).sum)))) ∧ r = []) := fun q => s120 c _ hc hW0b (by simp; omega) (by omega) (left_bound c _ hc.1 (fun x hx => (hW0b x hx).1) (by omega))
     have hl1 : a < b → (splitG c ((W0 P).set 0 (b - a - (W0 P).sum))).length = P.length + 1 := fun q => by rw [splitG_eq c _ (left_bound c _ hc.1 (fun x hx => (hW0b x hx).1) (by omega)), rngL_length]; simp; omega
     have s2 : b - a - (W0 P).sum = 0 → a < b → FSpec Tryz.prog 98 [.d (.int .i64 c), .d (ints (P.map (·.2)))] [] (fun y r => y = .d (ints (splitG c (P.map (·.2)))) ∧ r = []) := fun p q =>
      s120 c (P.map (·.2)) hc hW1b (by simp; omega) (by omega) (left_bound c _ hc.1 (fun x hx => (hW1b x hx).1) (by omega))
     have hl2 : b - a - (W0 P).sum = 0 → a < b → (splitG c (P.map (·.2))).length = P.length := fun p q => by
      rw [splitG_eq c _ (left_bound c _ hc.1 (fun x hx => (hW1b x hx).1) (by omega)), rngL_length]; simp
     have hB : a < b → blmE v a b l c = (mkS c (wtsP v a b l), 0) := fun q => by
      unfold blmE
      rw [if_neg hnc, if_neg (by omega), if_neg (by omega)]
     have hw2 : b - a - (W0 P).sum = 0 → wtsP v a b l = P := fun q => by unfold wtsP; rw [hoff, if_neg (by omega), hP]
     have hw3 : 0 < b - a - (W0 P).sum → wtsP v a b l = ([], b - a - (W0 P).sum) :: P := fun q => by unfold wtsP; rw [hoff, if_pos q, hP]
     rw [hset] at s1 hl1
     generalize hG1 : splitG c ((b - a - (W0 P).sum) :: P.map (·.2)) = P1 at s1 hl1
     generalize hG2 : splitG c (P.map (·.2)) = P2 at s2 hl2
     conv => whnf
     repeat' (first | (refine CallX.exact (c6) rfl rfl ?_; rotate_right; conv => whnf) | (refine CallX.exact (s107 _ _) rfl rfl ?_; rotate_right; conv => whnf) | (refine CallX.pure (s105 [_, 0] (by simp)) ⟨SV.le_lit (by rfl) (by rfl), trivial⟩ rfl ?_; conv => whnf) | (refine CallX.freeze _ _ _ _ 14 3 1 _ _ rfl rfl ?_; (first | refine CallX.pure (s1 (by omega)) ⟨lr, SV.le_putF (fun _ _ => rfl), trivial⟩ rfl ?_ | refine CallX.pure (s2 (by omega) (by omega)) ⟨lr, SV.le_ro (by first | (simp; done) | (simp; omega)) (fun i hi => rows_drop1 (W := W0 P) i (by simp at hi ⊢; omega)), trivial⟩ rfl ?_); conv => whnf) | (refine br_intro ?_ ?_ <;> intro hb <;> (try simp only [brs] at hb) <;> conv => whnf) | (refine RegX.rule (id := 1) hT rfl [] oTBlB33_1 (by decide +kernel) ?_; conv => whnf) | (refine RegX.rule (id := 25) hT rfl [] oTBlB33_25 (by decide +kernel) ?_; conv => whnf) | omega | (refine And.intro ?_ ?_; ((try dsimp only); first | omega | (refine szA rfl ?_; omega) | (refine szB rfl ?_; omega) | (unfold inI64; omega) | (simp only [lns] at *; omega) | decide | (unfold inI64; decide)); conv => whnf) | decide | assumption)
     all_goals try (exfalso; rw [firstE2_0] at *; simp at *; omega)
     all_goals first
      | (refine .weak _ ?_
         conv => whnf
         refine ⟨.tup [.d (pairs [([], c)]), .d (.int .i64 0)], [], SV.le_tup ⟨SV.le_lit rfl rfl, lr, trivial⟩, ⟨?_, rfl⟩, trivial⟩
         unfold blPost blmE
         rw [if_neg hnc, if_neg (by omega), if_pos (by omega)])
      | skip
     · have hlt : a < b := by omega
       have ho0 : b - a - (W0 P).sum = 0 := by omega
       have hlP := hl2 ho0 hlt
       refine LoopX.rule hT (C := [42, 43]) (ι := List Pair × Nat) (fun (Q, i) => (i ≤ P2.length ∧ Q.length = P.length + 1) ∧ (∀ j, j < i → (Q.getD (1 + j) ([], 0)).2 = P2.getD j 0) ∧ ∀ j, (Q.getD j ([], 0)).1 = ((K0 P).getD j ([], 0)).1)
        (fun (Q, i) => mkSt [(13, .sub 13 2 1 ((K0 P).length - 1)), (127, .d (ints P2)), (128, .d (.int .i64 P2.length)), (129, .d (.int .i64 i))] [(13, shB Q)]) (fun (_, i) => P2.length - i) (K0 P, 0) ⟨⟨by simp, hKl⟩, by simp, fun _ => rfl⟩ (by (refine Entails.mk' [(13, 13)] rfl rfl ?_ ?_ <;> repeat' (first | exact True.intro | exact lr | exact rr | (exact hsub) | exact SV.le_int (by omega) | exact SV.le_any _ | refine And.intro ?_ ?_)); done) ?_
       rintro ⟨Q, i⟩ ⟨⟨g1, g2⟩, g3, g4⟩
       have g1 : i ≤ P2.length := g1
       have g2 : Q.length = P.length + 1 := g2
       have e1 : (i : Int).toNat = i := Int.toNat_natCast i
       conv => whnf
       repeat' (first | (refine br_intro ?_ ?_ <;> intro hb <;> (try simp only [brs] at hb) <;> conv => whnf) | (refine RegX.rule (id := 1) hT rfl [] oTBlB33_1 (by decide +kernel) ?_; conv => whnf) | (refine RegX.rule (id := 25) hT rfl [] oTBlB33_25 (by decide +kernel) ?_; conv => whnf) | omega | (refine And.intro ?_ ?_; ((try dsimp only); first | omega | (refine szA rfl ?_; omega) | (refine szB rfl ?_; omega) | (unfold inI64; omega) | (simp only [lns] at *; omega) | decide | (unfold inI64; decide)); conv => whnf) | decide | assumption)
       · refine ⟨(Q.set (1 + (i : Int).toNat) ((Q.getD (1 + (i : Int).toNat) ([], 0)).1, P2.getD (i : Int).toNat 0), i + 1), ⟨⟨by omega, by simpa using g2⟩, fun j hj => ?_, fun j => ?_⟩, (show P2.length - (i + 1) < P2.length - i by omega), Entails.mk' [(13, 13)] rfl rfl ⟨lr, lr, lr, lr, trivial⟩ ⟨Res.le_upd (f := pF) (fun p : Pair => (p.1, P2.getD (i : Int).toNat 0)) (fun _ => rfl), trivial⟩⟩
         · show ((Q.set (1 + (i : Int).toNat) _).getD (1 + j) ([], 0)).2 = _
           rw [e1]
           by_cases q : j = i
           · subst q; rw [getD_set_eq (by omega)]
           · rw [getD_set_ne (by omega)]; exact g3 j (by have : j < i + 1 := hj; omega)
         · exact getD_set_fst.trans (g4 j)
       · have hi : i = P2.length := by omega
         refine .freeze _ 13 74 2 _ _ rfl ?_
         refine .ent _ _ (Entails.froSub 8 13 2 1 ((K0 P).length - 1) _ _ rfl rfl) ?_
         refine .weak _ ?_
         conv => whnf
         refine ⟨.tup [.d (pairs (Q.drop 1)), .d (.int .i64 0)], [], SV.le_tup ⟨SV.le_drop (by simp [g2, hKl]), lr, trivial⟩, ⟨?_, rfl⟩, trivial⟩
         unfold blPost
         rw [hB hlt, hw2 ho0]
         have : Q.drop 1 = mkS c P := by
          refine mkS_eq (by simp; omega) (by rw [hG2]; exact hlP) (fun j hj => ?_) (fun j hj => ?_)
          · rw [drop1_get, g4, K0_get P _ 0, Nat.add_comm 1 j, List.getD_cons_succ]
          · rw [drop1_get, hG2]; exact g3 j (by omega)
         rw [this]
     all_goals
      have hlt : a < b := by omega
      have ho1 : 0 < b - a - (W0 P).sum := by
       have := hpos
       omega
      have hlP := hl1 hlt
      refine LoopX.rule hT (C := [42, 43]) (ι := List Pair × Nat) (fun (Q, i) => (i ≤ P1.length ∧ Q.length = P.length + 1) ∧ (∀ j, j < i → (Q.getD j ([], 0)).2 = P1.getD j 0) ∧ ∀ j, (Q.getD j ([], 0)).1 = ((K0 P).getD j ([], 0)).1)
       (fun (Q, i) => mkSt [(13, .buf 13), (127, .d (ints P1)), (128, .d (.int .i64 P1.length)), (129, .d (.int .i64 i))] [(13, shB Q)]) (fun (_, i) => P1.length - i) (K0 P, 0) ⟨⟨by simp, hKl⟩, by simp, fun _ => rfl⟩ (by (refine Entails.mk' [(13, 13)] rfl rfl ?_ ?_ <;> repeat' (first | exact True.intro | exact lr | exact rr | exact SV.le_int (by omega) | exact SV.le_any _ | refine And.intro ?_ ?_)); done) ?_
      rintro ⟨Q, i⟩ ⟨⟨g1, g2⟩, g3, g4⟩
      have g1 : i ≤ P1.length := g1
      have g2 : Q.length = P.length + 1 := g2
      have e1 : (i : Int).toNat = i := Int.toNat_natCast i
      conv => whnf
      repeat' (first | (refine br_intro ?_ ?_ <;> intro hb <;> (try simp only [brs] at hb) <;> conv => whnf) | (refine RegX.rule (id := 1) hT rfl [] oTBlB33_1 (by decide +kernel) ?_; conv => whnf) | (refine RegX.rule (id := 25) hT rfl [] oTBlB33_25 (by decide +kernel) ?_; conv => whnf) | omega | (refine And.intro ?_ ?_; ((try dsimp only); first | omega | (refine szA rfl ?_; omega) | (refine szB rfl ?_; omega) | (unfold inI64; omega) | (simp only [lns] at *; omega) | decide | (unfold inI64; decide)); conv => whnf) | decide | assumption)
      · refine ⟨(Q.set (i : Int).toNat ((Q.getD (i : Int).toNat ([], 0)).1, P1.getD (i : Int).toNat 0), i + 1), ⟨⟨by omega, by simpa using g2⟩, fun j hj => ?_, fun j => ?_⟩, (show P1.length - (i + 1) < P1.length - i by omega), Entails.mk' [(13, 13)] rfl rfl ⟨lr, lr, lr, lr, trivial⟩ ⟨Res.le_upd (f := pF) (fun p : Pair => (p.1, P1.getD (i : Int).toNat 0)) (fun _ => rfl), trivial⟩⟩
        · show ((Q.set (i : Int).toNat _).getD j ([], 0)).2 = _
          rw [e1]
          by_cases q : j = i
          · subst q; rw [getD_set_eq (by omega)]
          · rw [getD_set_ne (by omega)]; exact g3 j (by have : j < i + 1 := hj; omega)
        · exact getD_set_fst.trans (g4 j)
      · have hi : i = P1.length := by omega
        refine .freeze _ 13 74 2 _ _ rfl (.weak _ ?_)
        conv => whnf
        refine ⟨.tup [.d (pairs Q), .d (.int .i64 0)], [], SV.le_tup ⟨lr, lr, trivial⟩, ⟨?_, rfl⟩, trivial⟩
        unfold blPost
        rw [hB hlt, hw3 ho1]
        have : Q = mkS c (([], b - a - (W0 P).sum) :: P) := by
         refine mkS_eq (by simpa using g2) (by rw [List.map_cons, hG1]; simpa using hlP) (fun j hj => ?_) (fun j hj => ?_)
         · rw [g4, K0_get P j (b - a - (W0 P).sum)]
         · rw [List.map_cons, hG1]; exact g3 j (by simp at hj; omega)
        rw [← this]
   · have c6 := s119 c 0 1000000000
     rw [decide_eq_false hc] at c6
     have hB : blmE v a b l c = ([], 1) := by
      unfold blmE
      rw [if_neg hnc, if_pos hc]
     conv => whnf
     repeat' (first | (refine CallX.exact (c6) rfl rfl ?_; rotate_right; conv => whnf) | (refine CallX.exact (s107 _ _) rfl rfl ?_; rotate_right; conv => whnf) | (refine CallX.pure (s105 [_, 1] (by simp)) ⟨SV.le_lit (by rfl) (by rfl), trivial⟩ rfl ?_; conv => whnf) | (refine br_intro ?_ ?_ <;> intro hb <;> (try simp only [brs] at hb) <;> conv => whnf) | (refine RegX.rule (id := 1) hT rfl [] oTBlB33_1 (by decide +kernel) ?_; conv => whnf) | (refine RegX.rule (id := 25) hT rfl [] oTBlB33_25 (by decide +kernel) ?_; conv => whnf) | omega | (refine And.intro ?_ ?_; ((try dsimp only); first | omega | (refine szA rfl ?_; omega) | (refine szB rfl ?_; omega) | (unfold inI64; omega) | (simp only [lns] at *; omega) | decide | (unfold inI64; decide)); conv => whnf) | decide | assumption)
     all_goals first
      | (exfalso; exact firstE2_ne _ (by assumption))
      | (refine .weak _ ?_
         conv => whnf
         refine ⟨.tup [.d (pairs []), .d (.int .i64 _)], [], SV.le_tup ⟨SV.le_nilS, lr, trivial⟩, ⟨?_, rfl⟩, trivial⟩
         unfold blPost
         rw [hB]
         congr 4
         simp only [firstE]; grind)
end Go.Proofs.YtcjfniddeibbhaaGreatDoor
namespace Go.Proofs
open Go.Shelf
def Tryz.lays106_ren : Go.Shelf.Ren := ⟨fun | 106 => 106 | 213 => 171 | 265 => 238 | n => n, fun | 9 => 9 | 3 => 3 | n => n, fun | n => n⟩
theorem Tryz.lays106 : Go.Proofs.Lays.n106 Tryz.prog Tryz.lays106_ren := {
 mixed := by kernel_rfl
 f106 := Tryz.func106.trans (congrArg some (by kernel_rfl))
 f213 := Tryz.func171.trans (congrArg some (by kernel_rfl))
 f265 := Tryz.func238.trans (congrArg some (by kernel_rfl))
 t3 := Tryz.underlying3
 a3 := Tryz.isAgg3
 z3 := Tryz.sizeOf3
 v3 := Tryz.zeroValue3
 t9 := Tryz.underlying9
 a9 := Tryz.isAgg9
 z9 := Tryz.sizeOf9
 v9 := Tryz.zeroValue9 }
end Go.Proofs
set_option maxRecDepth 20000
namespace Go.Proofs.YtcjfniddeibbhaaGreatDoor
open Go Go.Eng Go.RowKit
theorem cmpB_S : ∀ (a b : List UInt8), Lib.compareBytes a b = cmpS a b := by
 intro a
 induction a with
 | nil => intro b; cases b <;> simp [Lib.compareBytes, cmpS, Op.bytesLess]
 | cons x a ih =>
   intro b
   cases b with
   | nil => simp [Lib.compareBytes, cmpS, Op.bytesLess]
   | cons y b =>
     have := ih b
     unfold cmpS at this ⊢
     simp only [Lib.compareBytes, Op.bytesLess]
     grind
theorem s190 (a b : List UInt8) : FSpec Tryz.prog 106 [.d (.str a), .d (.str b)] [] (fun x r => x = .d (.int .i64 (cmpS a b)) ∧ r = []) := by
 refine FSpec.ofBelow Tryz.call106 (fun G β w vs _ hl hd => ?_)
 match vs, hl with
 | [u, v], _ =>
   have hu := hd 0 _ _ rfl rfl
   have hv := hd 1 _ _ rfl rfl
   cases hu with | d _ _ hu => cases hu with | str _ =>
   cases hv with | d _ _ hv => cases hv with | str _ =>
   refine ⟨.int .i64 (Lib.compareBytes a b), fun G β => ?_, (Go.Proofs.Any.strings_Compare Go.Proofs.Tryz.lays106 ⟨a.toArray⟩ ⟨b.toArray⟩ w).mono ?_⟩
   · rw [← cmpB_S]; exact .d _ _ (.int _ _)
   · rintro e w' ⟨he, rfl⟩
     exact ⟨he, Below.refl _ _⟩
theorem z101 (x : Leg) : FSpec Tryz.prog 101 [.agg ((lgF x).map .d)] [] (fun y r => y = .agg [.d (.int .i64 x.out.tm), .d (.int .i64 (lastE x))] ∧ r = []) := by
 refine spec_of hT (C := []) Tryz.func101 rfl Tryz.call101 rfl rfl rfl ?_
 conv => whnf
 repeat' (first | (refine br_intro ?_ ?_ <;> intro hb <;> (try simp only [brs] at hb) <;> conv => whnf) | omega | (refine And.intro ?_ ?_; ((try dsimp only); first | omega | (refine szA rfl ?_; omega) | (refine szB rfl ?_; omega) | (unfold inI64; omega) | (simp only [lns] at *; omega) | decide | (unfold inI64; decide)); conv => whnf) | decide | assumption)
 all_goals
  refine .ret _ ?_
  conv => whnf
  refine ⟨[], ⟨?_, rfl⟩, trivial⟩
  conv => lhs; whnf
  unfold lastE
  first
   | (rw [if_pos hb]; rfl)
   | (rw [if_neg hb]; rfl)
def withK (v : List UInt8) (l : List Hir) (t : Int) : List UInt8 × Bool := match l.find? (fun h => occ v h t) with | some h => (h.key, true) | none => ([], false)
theorem withK_no {v : List UInt8} {l : List Hir} {t : Int} (h : ∀ j, j < l.length → occ v (l.getD j hi0) t = false) : withK v l t = ([], false) := by
 unfold withK
 have : l.find? (fun h => occ v h t) = none := by
  rw [List.find?_eq_none]
  intro x hx
  obtain ⟨j, hj, rfl⟩ := mem_getD (d := hi0) hx
  rw [h j hj]; simp
 rw [this]
theorem withK_yes {v : List UInt8} {l : List Hir} {t : Int} : ∀ {i : Nat}, i < l.length → (∀ j, j < i → occ v (l.getD j hi0) t = false) → occ v (l.getD i hi0) t = true → withK v l t = ((l.getD i hi0).key, true) := by
 induction l with
 | nil => intro i hi; simp at hi
 | cons x l ih =>
   intro i hi h ho
   cases i with
   | zero =>
     rw [List.getD_cons_zero] at ho ⊢
     unfold withK
     rw [List.find?_cons_of_pos (by simpa using ho)]
   | succ i =>
     have h0 := h 0 (by omega)
     rw [List.getD_cons_zero] at h0
     have := ih (i := i) (by simpa using hi) (fun j hj => by have := h (j + 1) (by omega); rwa [List.getD_cons_succ] at this) (by simpa using ho)
     unfold withK at this ⊢
     rw [List.find?_cons_of_neg (by simp [h0])]
     simpa using this
theorem occK_mono {v : List UInt8} {ls : List Leg} {k : Nat} {t : Int} (hk : k < ls.length) (h : onL v (ls.getD k lg0) t = true) : (ls.any fun x => onL v x t) = true := by
 rw [List.any_eq_true]; exact ⟨_, getD_mem hk, h⟩
set_option maxHeartbeats 2000000 in
theorem z103 (l : List Hir) (hl : l.length ≤ 2^40) (hs : ∀ h ∈ l, lgSeq h.legs) (hk : ∀ h ∈ l, h.legs.length ≤ 2^40) (v : List UInt8) (t : Int) :
 FSpec Tryz.prog 103 [.d (hirs l), .d (.str v), .d (.int .i64 t)] [] (fun y r => y = .tup [.d (.str (withK v l t).1), .d (.bool (withK v l t).2)] ∧ r = []) := by
 refine spec_of hT (C := []) Tryz.func103 rfl Tryz.call103 rfl rfl rfl ?_
 conv => whnf
 repeat' (first | (refine br_intro ?_ ?_ <;> intro hb <;> (try simp only [brs] at hb) <;> conv => whnf) | omega | (refine And.intro ?_ ?_; ((try dsimp only); first | omega | (refine szA rfl ?_; omega) | (refine szB rfl ?_; omega) | (unfold inI64; omega) | (simp only [lns] at *; omega) | decide | (unfold inI64; decide)); conv => whnf) | decide | assumption)
 refine LoopX.rule hT (C := []) (ι := Nat) (fun i => i ≤ l.length ∧ ∀ j, j < i → occ v (l.getD j hi0) t = false) (fun i => mkSt [(1, .d (.str v)), (2, .d (.int .i64 t)), (13, .d (hirs l)), (14, .d (.int .i64 l.length)), (15, .d (.int .i64 i))] []) (fun i => l.length - i) 0 ⟨by omega, by omega⟩ (by (refine Entails.mk' [] rfl rfl ?_ ?_ <;> repeat' (first | exact True.intro | exact lr | exact rr | exact SV.le_int (by omega) | exact SV.le_any _ | refine And.intro ?_ ?_)); done) ?_
 rintro i ⟨p1, p2⟩
 have e1 : (i : Int).toNat = i := Int.toNat_natCast i
 by_cases hi : i < l.length
 · have hh : l.getD (i : Int).toNat hi0 ∈ l := getD_mem (by omega)
   have hsq := hs _ hh
   have hlk := hk _ hh
   conv => whnf
   repeat' (first | (refine br_intro ?_ ?_ <;> intro hb <;> (try simp only [brs] at hb) <;> conv => whnf) | omega | (refine And.intro ?_ ?_; ((try dsimp only); first | omega | (refine szA rfl ?_; omega) | (refine szB rfl ?_; omega) | (unfold inI64; omega) | (simp only [lns] at *; omega) | decide | (unfold inI64; decide)); conv => whnf) | decide | assumption)
   · refine LoopX.rule hT (C := []) (ι := Nat) (fun k => k ≤ (l.getD (i : Int).toNat hi0).legs.length ∧ occK v (l.getD (i : Int).toNat hi0).legs k t = false)
      (fun k => mkSt [(1, .d (.str v)), (2, .d (.int .i64 t)), (9, .ptr 9 0), (13, .d (hirs l)), (14, .d (.int .i64 l.length)), (15, .d (.int .i64 i)), (20, .d (legs (l.getD (i : Int).toNat hi0).legs)), (21, .d (.int .i64 (l.getD (i : Int).toNat hi0).legs.length)), (22, .d (.int .i64 k))] [(9, hcell (l.getD (i : Int).toNat hi0))])
      (fun k => (l.getD (i : Int).toNat hi0).legs.length - k) 0 ⟨by omega, by simp [occK]⟩ (by (refine Entails.mk' [(9, 9)] rfl rfl ?_ ?_ <;> repeat' (first | exact True.intro | exact lr | exact rr | exact SV.le_int (by omega) | exact SV.le_any _ | refine And.intro ?_ ?_)); done) ?_
     rintro k ⟨q1, q2⟩
     have f1 : (k : Int).toNat = k := Int.toNat_natCast k
     by_cases hkk : k < (l.getD (i : Int).toNat hi0).legs.length
     all_goals have hkk' := hkk
     all_goals rw [e1] at hkk'
     · have hx := hsq.1 _ (getD_mem (x := lg0) (show (k : Int).toNat < (l.getD (i : Int).toNat hi0).legs.length by omega))
       have hon : onL v ((l.getD (i : Int).toNat hi0).legs.getD (k : Int).toNat lg0) t = (decide (((l.getD (i : Int).toNat hi0).legs.getD (k : Int).toNat lg0).veh = v) && (decide (((l.getD (i : Int).toNat hi0).legs.getD (k : Int).toNat lg0).out.tm ≤ t) && decide (t < lastE ((l.getD (i : Int).toNat hi0).legs.getD (k : Int).toNat lg0)))) := rfl
       have hsu := occK_succ (v := v) hkk t
       rw [q2, Bool.false_or, ← f1] at hsu
       conv => whnf
       repeat' (first | (refine CallX.exact (z101 ((l.getD (i : Int).toNat hi0).legs.getD (k : Int).toNat lg0)) rfl rfl ?_; rotate_right; conv => whnf) | (refine CallX.exact (s110 _ _ _) rfl rfl ?_; rotate_right; conv => whnf) | (refine br_intro ?_ ?_ <;> intro hb <;> (try simp only [brs] at hb) <;> conv => whnf) | omega | (refine And.intro ?_ ?_; ((try dsimp only); first | omega | (refine szA rfl ?_; omega) | (refine szB rfl ?_; omega) | (unfold inI64; omega) | (simp only [lns] at *; omega) | decide | (unfold inI64; decide)); conv => whnf) | decide | assumption)
       all_goals try (exfalso; omega)
       · have ho : onL v ((l.getD (i : Int).toNat hi0).legs.getD (k : Int).toNat lg0) t = true := by
          rw [hon]; simp only [e1, f1, Bool.and_eq_true, decide_eq_true_eq] at *
          exact ⟨by assumption, by omega, by omega⟩
         have hoc : occ v (l.getD i hi0) t = true := by rw [← e1]; exact occK_mono (by omega) ho
         refine .ret _ ?_
         conv => whnf
         refine ⟨[], ⟨congrArg SV.tup ?_, rfl⟩, trivial⟩
         repeat' (refine cons_eq ?_ ?_)
         all_goals (conv => lhs; whnf)
         all_goals try (with_reducible rfl)
         all_goals (rw [withK_yes hi p2 hoc]; try rw [e1])
       · have ho : onL v ((l.getD (i : Int).toNat hi0).legs.getD (k : Int).toNat lg0) t = false := by
          rw [hon, ← Bool.not_eq_true]; simp only [e1, f1, Bool.and_eq_true, decide_eq_true_eq] at *; omega
         rw [ho, f1] at hsu
         exact ⟨k + 1, ⟨by omega, hsu⟩, by omega, (by (refine Entails.mk' [(9, 9)] rfl rfl ?_ ?_ <;> repeat' (first | exact True.intro | exact lr | exact rr | exact SV.le_int (by omega) | exact SV.le_any _ | refine And.intro ?_ ?_)); done)⟩
       · have ho : onL v ((l.getD (i : Int).toNat hi0).legs.getD (k : Int).toNat lg0) t = false := by
          rw [hon, ← Bool.not_eq_true]; simp only [e1, f1, Bool.and_eq_true, decide_eq_true_eq] at *
          exact fun q => hb q.1
         rw [ho, f1] at hsu
         exact ⟨k + 1, ⟨by omega, hsu⟩, by omega, (by (refine Entails.mk' [(9, 9)] rfl rfl ?_ ?_ <;> repeat' (first | exact True.intro | exact lr | exact rr | exact SV.le_int (by omega) | exact SV.le_any _ | refine And.intro ?_ ?_)); done)⟩
     · have hkl : k = (l.getD (i : Int).toNat hi0).legs.length := by omega
       rw [hkl, occK_all, e1] at q2
       conv => whnf
       repeat' (first | (refine CallX.exact (z101 ((l.getD (i : Int).toNat hi0).legs.getD (k : Int).toNat lg0)) rfl rfl ?_; rotate_right; conv => whnf) | (refine CallX.exact (s110 _ _ _) rfl rfl ?_; rotate_right; conv => whnf) | (refine br_intro ?_ ?_ <;> intro hb <;> (try simp only [brs] at hb) <;> conv => whnf) | omega | (refine And.intro ?_ ?_; ((try dsimp only); first | omega | (refine szA rfl ?_; omega) | (refine szB rfl ?_; omega) | (unfold inI64; omega) | (simp only [lns] at *; omega) | decide | (unfold inI64; decide)); conv => whnf) | decide | assumption)
       all_goals try (exfalso; omega)
       exact ⟨i + 1, ⟨by omega, all_step p2 q2⟩, by omega, (by (refine Entails.mk' [] rfl rfl ?_ ?_ <;> repeat' (first | exact True.intro | exact lr | exact rr | exact SV.le_int (by omega) | exact SV.le_any _ | refine And.intro ?_ ?_)); done)⟩
 · conv => whnf
   repeat' (first | (refine br_intro ?_ ?_ <;> intro hb <;> (try simp only [brs] at hb) <;> conv => whnf) | omega | (refine And.intro ?_ ?_; ((try dsimp only); first | omega | (refine szA rfl ?_; omega) | (refine szB rfl ?_; omega) | (unfold inI64; omega) | (simp only [lns] at *; omega) | decide | (unfold inI64; decide)); conv => whnf) | decide | assumption)
   refine .ret _ ?_
   conv => whnf
   refine ⟨[], ⟨congrArg SV.tup ?_, rfl⟩, trivial⟩
   repeat' (refine cons_eq ?_ ?_)
   all_goals (conv => lhs; whnf)
   all_goals try (with_reducible rfl)
   all_goals
    rw [withK_no (fun j hj => p2 j (by omega))]
theorem z105 (p q : Pair) : FSpec Tryz.prog 105 [.agg ((pF p).map .d), .agg ((pF q).map .d)] [] (fun y r => y = .d (.int .i64 (cmpS p.1 q.1)) ∧ r = []) := by
 refine spec_of hT (C := []) Tryz.func105 rfl Tryz.call105 rfl rfl rfl ?_
 conv => whnf
 repeat' (first | (refine CallX.exact (s190 _ _) rfl rfl ?_; rotate_right; conv => whnf) | (refine br_intro ?_ ?_ <;> intro hb <;> (try simp only [brs] at hb) <;> conv => whnf) | omega | (refine And.intro ?_ ?_; ((try dsimp only); first | omega | (refine szA rfl ?_; omega) | (refine szB rfl ?_; omega) | (unfold inI64; omega) | (simp only [lns] at *; omega) | decide | (unfold inI64; decide)); conv => whnf) | decide | assumption)
 refine .ret _ ?_
 conv => whnf
 refine ⟨[], ⟨?_, rfl⟩, trivial⟩
 conv => lhs; whnf
def mV (H : List UInt8 → Bool) (v : List UInt8 → DV) : Res := .map false false [.str] [.nilsl] (fun k => H (strK k)) (fun k => [v (strK k)])
def vF (l : List Hld) : DV := if l = [] then .nilsl else seqD 3 hldF hld0 l
abbrev mF (o : List UInt8 → List Hld) : Res := mV (fun p => !(o p).isEmpty) (fun p => vF (o p))
theorem vF_or (l : List Hld) : (vF l = .nilsl ∧ l = []) ∨ vF l = seqD 3 hldF hld0 l := by
 unfold vF
 by_cases h : l = []
 · rw [if_pos h]; exact .inl ⟨rfl, h⟩
 · rw [if_neg h]; exact .inr rfl
theorem le_froR (o : List UInt8 → List Hld) : Res.le (.map false false [.str] [.nilsl] (fun k => !(o (strK k)).isEmpty) (fun q => bif !(o (strK q)).isEmpty then [.ro 3 (o (strK q)).length (fun i => rowF hldF hld0 (o (strK q)) i)] else [.nilsl])) (mF o) :=
 Res.le_map fun k hk => ⟨rfl, by
  unfold vF
  cases h : o (strK k) with
  | nil => simp [h]
  | cons x l => simp [h]⟩
theorem z73 (f : Flt) (hl : f.plt.length ≤ 1000) (hs : srtP f.plt) (h : List Hir) : FSpec Tryz.prog 73 [flt f, .d (hirs h)] [] (fun y r => y = .agg [.mp 6, .d (hirs h)] ∧ r = [(6, mF (hend f.plt).out)]) := by
 refine spec_of hT (C := []) Tryz.func73 rfl Tryz.call73 rfl rfl rfl ?_
 conv => whnf
 refine CallX.of (z151 f hl hs) [(14, 6)] rfl ⟨lr, trivial⟩ trivial rfl rfl ?_
 rintro x rout ⟨rfl, rfl⟩
 refine ⟨rfl, ?_⟩
 conv => whnf
 repeat' (first | (refine br_intro ?_ ?_ <;> intro hb <;> (try simp only [brs] at hb) <;> conv => whnf) | omega | (refine And.intro ?_ ?_; ((try dsimp only); first | omega | (refine szA rfl ?_; omega) | (refine szB rfl ?_; omega) | (unfold inI64; omega) | exact rfl | (simp only [lns] at *; omega) | decide | (unfold inI64; decide)); conv => whnf) | decide | assumption)
 refine .ent _ _ (Entails.froR 6 rfl) (.weak _ ?_)
 conv => whnf
 exact ⟨.agg [.mp 6, .d (hirs h)], [(6, mF (hend f.plt).out)], lr, ⟨rfl, rfl⟩, le_froR _, trivial⟩
theorem find_none {α : Type} {l : List α} {d : α} {p : α → Bool} (h : ∀ j, j < l.length → p (l.getD j d) = false) : l.find? p = none := by
 rw [List.find?_eq_none]
 intro x hx
 obtain ⟨j, hj, rfl⟩ := mem_getD (d := d) hx
 rw [h j hj]; simp
theorem find_hit {α : Type} {d : α} {p : α → Bool} : ∀ {l : List α} {i : Nat}, i < l.length → (∀ j, j < i → p (l.getD j d) = false) → p (l.getD i d) = true → l.find? p = some (l.getD i d) := by
 intro l
 induction l with
 | nil => intro i hi; simp at hi
 | cons x l ih =>
   intro i hi h ho
   cases i with
   | zero =>
     rw [List.getD_cons_zero] at ho ⊢
     rw [List.find?_cons_of_pos ho]
   | succ i =>
     have h0 := h 0 (by omega)
     rw [List.getD_cons_zero] at h0
     rw [List.find?_cons_of_neg (by simp [h0])]
     rw [List.getD_cons_succ] at ho ⊢
     exact ih (by simpa using hi) (fun j hj => by have := h (j + 1) (by omega); rwa [List.getD_cons_succ] at this) ho
def lookV (o : List Hld) (t : Int) : List UInt8 := (findH o t).getD []
theorem lookV_no {o : List Hld} {t : Int} (h : ∀ j, j < o.length → inH t (o.getD j hld0) = false) : lookV o t = [] := by
 unfold lookV findH; rw [find_none h]; rfl
theorem lookV_hit {o : List Hld} {t : Int} {i : Nat} (hi : i < o.length) (h : ∀ j, j < i → inH t (o.getD j hld0) = false) (q : inH t (o.getD i hld0) = true) : lookV o t = (o.getD i hld0).veh := by
 unfold lookV findH; rw [find_hit hi h q]; rfl
theorem z116 (H : List UInt8 → Bool) (v : List UInt8 → DV) (o : List Hld) (h : List Hir) (p : List UInt8) (t : Int) (hl : o.length ≤ 2^40) (hv : (v p = .nilsl ∧ o = []) ∨ v p = seqD 3 hldF hld0 o) :
 FSpec Tryz.prog 116 [.agg [.mp 1000001, .d (hirs h)], .d (.str p), .d (.int .i64 t)] [(1000001, mV H v)] (fun y r => y = .d (.str (lookV o t)) ∧ r = [(1000001, mV H v)]) := by
 have hv' : (v (strK [.str p]) = .nilsl ∧ o = []) ∨ v (strK [.str p]) = seqD 3 hldF hld0 o := hv
 refine spec_of hT (C := []) Tryz.func116 rfl Tryz.call116 rfl rfl rfl ?_
 conv => whnf
 rcases hv' with ⟨e, ho⟩ | e
 · have hle : SV.le (.d .nilsl) (.d (seqD 3 hldF hld0 o)) := by rw [ho]; exact SV.le_nilS
   repeat' (first | (rw [e]; conv => whnf) | (refine br_intro ?_ ?_ <;> intro hb <;> (try simp only [brs] at hb) <;> conv => whnf) | omega | (refine And.intro ?_ ?_; ((try dsimp only); first | omega | (refine szA rfl ?_; omega) | (refine szB rfl ?_; omega) | (unfold inI64; omega) | exact rfl | (simp only [lns] at *; omega) | decide | (unfold inI64; decide)); conv => whnf) | decide | assumption)
   refine LoopX.rule hT (C := []) (ι := Nat) (fun i => i ≤ o.length ∧ ∀ j, j < i → inH t (o.getD j hld0) = false) (fun i => mkSt [(2, .d (.int .i64 t)), (12, .d (seqD 3 hldF hld0 o)), (13, .d (.int .i64 o.length)), (14, .d (.int .i64 i))] [(1000001, mV H v)]) (fun i => o.length - i) 0 ⟨by omega, by omega⟩ ?_ ?_
   · exact Entails.mk' [(1000001, 1000001)] rfl rfl ⟨lr, hle, SV.le_int (by first | rfl | (rw [ho]; rfl)), lr, trivial⟩ ⟨rr, trivial⟩
   rintro i ⟨p1, p2⟩
   have e1 : (i : Int).toNat = i := Int.toNat_natCast i
   rcases Nat.lt_or_ge i o.length with hi | hi
   · conv => whnf
     repeat' (first | (refine br_intro ?_ ?_ <;> intro hb <;> (try simp only [brs] at hb) <;> conv => whnf) | omega | (refine And.intro ?_ ?_; ((try dsimp only); first | omega | (refine szA rfl ?_; omega) | (refine szB rfl ?_; omega) | (unfold inI64; omega) | exact rfl | (simp only [lns] at *; omega) | decide | (unfold inI64; decide)); conv => whnf) | decide | assumption)
     all_goals try (exfalso; omega)
     all_goals first
      | exact ⟨i + 1, ⟨by omega, all_step p2 (by unfold inH; simp only [e1] at *; grind)⟩, by omega, (by (refine Entails.mk' [(1000001, 1000001)] rfl rfl ?_ ?_ <;> repeat' (first | exact True.intro | exact lr | exact rr | exact SV.le_int (by omega) | exact SV.le_any _ | refine And.intro ?_ ?_)); done)⟩
      | (refine .ret _ ?_
         (conv => whnf)
         refine ⟨[(1000001, mV H v)], ⟨?_, rfl⟩, rr, trivial⟩
         conv => lhs; whnf
         exact congrArg (fun z => SV.d (.str z)) (lookV_hit (i := i) (by omega) p2 (by unfold inH; simp only [e1] at *; grind)).symm)
   · conv => whnf
     repeat' (first | (refine br_intro ?_ ?_ <;> intro hb <;> (try simp only [brs] at hb) <;> conv => whnf) | omega | (refine And.intro ?_ ?_; ((try dsimp only); first | omega | (refine szA rfl ?_; omega) | (refine szB rfl ?_; omega) | (unfold inI64; omega) | exact rfl | (simp only [lns] at *; omega) | decide | (unfold inI64; decide)); conv => whnf) | decide | assumption)
     all_goals try (exfalso; omega)
     refine .ret _ ?_
     (conv => whnf)
     refine ⟨[(1000001, mV H v)], ⟨?_, rfl⟩, rr, trivial⟩
     conv => lhs; whnf
     rw [lookV_no (fun j hj => p2 j (by omega))]
 · have ho : True := trivial
   have hle : SV.le (.d (seqD 3 hldF hld0 o)) (.d (seqD 3 hldF hld0 o)) := lr
   repeat' (first | (rw [e]; conv => whnf) | (refine br_intro ?_ ?_ <;> intro hb <;> (try simp only [brs] at hb) <;> conv => whnf) | omega | (refine And.intro ?_ ?_; ((try dsimp only); first | omega | (refine szA rfl ?_; omega) | (refine szB rfl ?_; omega) | (unfold inI64; omega) | exact rfl | (simp only [lns] at *; omega) | decide | (unfold inI64; decide)); conv => whnf) | decide | assumption)
   refine LoopX.rule hT (C := []) (ι := Nat) (fun i => i ≤ o.length ∧ ∀ j, j < i → inH t (o.getD j hld0) = false) (fun i => mkSt [(2, .d (.int .i64 t)), (12, .d (seqD 3 hldF hld0 o)), (13, .d (.int .i64 o.length)), (14, .d (.int .i64 i))] [(1000001, mV H v)]) (fun i => o.length - i) 0 ⟨by omega, by omega⟩ ?_ ?_
   · exact Entails.mk' [(1000001, 1000001)] rfl rfl ⟨lr, hle, SV.le_int (by first | rfl | (rw [ho]; rfl)), lr, trivial⟩ ⟨rr, trivial⟩
   rintro i ⟨p1, p2⟩
   have e1 : (i : Int).toNat = i := Int.toNat_natCast i
   rcases Nat.lt_or_ge i o.length with hi | hi
   · conv => whnf
     repeat' (first | (refine br_intro ?_ ?_ <;> intro hb <;> (try simp only [brs] at hb) <;> conv => whnf) | omega | (refine And.intro ?_ ?_; ((try dsimp only); first | omega | (refine szA rfl ?_; omega) | (refine szB rfl ?_; omega) | (unfold inI64; omega) | exact rfl | (simp only [lns] at *; omega) | decide | (unfold inI64; decide)); conv => whnf) | decide | assumption)
     all_goals try (exfalso; omega)
     all_goals first
      | exact ⟨i + 1, ⟨by omega, all_step p2 (by unfold inH; simp only [e1] at *; grind)⟩, by omega, (by (refine Entails.mk' [(1000001, 1000001)] rfl rfl ?_ ?_ <;> repeat' (first | exact True.intro | exact lr | exact rr | exact SV.le_int (by omega) | exact SV.le_any _ | refine And.intro ?_ ?_)); done)⟩
      | (refine .ret _ ?_
         (conv => whnf)
         refine ⟨[(1000001, mV H v)], ⟨?_, rfl⟩, rr, trivial⟩
         conv => lhs; whnf
         exact congrArg (fun z => SV.d (.str z)) (lookV_hit (i := i) (by omega) p2 (by unfold inH; simp only [e1] at *; grind)).symm)
   · conv => whnf
     repeat' (first | (refine br_intro ?_ ?_ <;> intro hb <;> (try simp only [brs] at hb) <;> conv => whnf) | omega | (refine And.intro ?_ ?_; ((try dsimp only); first | omega | (refine szA rfl ?_; omega) | (refine szB rfl ?_; omega) | (unfold inI64; omega) | exact rfl | (simp only [lns] at *; omega) | decide | (unfold inI64; decide)); conv => whnf) | decide | assumption)
     all_goals try (exfalso; omega)
     refine .ret _ ?_
     (conv => whnf)
     refine ⟨[(1000001, mV H v)], ⟨?_, rfl⟩, rr, trivial⟩
     conv => lhs; whnf
     rw [lookV_no (fun j hj => p2 j (by omega))]
def icC (t : Int) : Res := .cells 3 [.d (.int .i64 t)]
theorem z181 (x : Leg) : FSpec Tryz.prog 181 [.agg ((lgF x).map .d)] [] (fun y r => y = .agg [.d (.int .i64 x.out.tm), .d (.int .i64 (lastE x))] ∧ r = []) := by
 refine spec_of hT (C := []) Tryz.func181 rfl Tryz.call181 rfl rfl rfl ?_
 conv => whnf
 repeat' (first | (refine br_intro ?_ ?_ <;> intro hb <;> (try simp only [brs] at hb) <;> conv => whnf) | omega | (refine And.intro ?_ ?_; ((try dsimp only); first | omega | (refine szA rfl ?_; omega) | (refine szB rfl ?_; omega) | (unfold inI64; omega) | exact rfl | (simp only [lns] at *; omega) | decide | (unfold inI64; decide)); conv => whnf) | decide | assumption)
 all_goals
  refine .ret _ ?_
  conv => whnf
  refine ⟨[], ⟨?_, rfl⟩, trivial⟩
  conv => lhs; whnf
  unfold lastE
  first
   | (rw [if_pos hb]; rfl)
   | (rw [if_neg hb]; rfl)
theorem z207 (x : Leg) (v : List UInt8) (t : Int) : FSpec Tryz.prog 207 [.agg ((lgF x).map .d), .ptr 1000001 0, .ptr 1000002 0] [(1000001, kyC v), (1000002, icC t)] (fun y r => y = .d (.bool (onL v x t)) ∧ r = [(1000001, kyC v), (1000002, icC t)]) := by
 refine spec_of hT (C := []) Tryz.func207 rfl Tryz.call207 rfl rfl rfl ?_
 conv => whnf
 repeat' (first | (refine CallX.exact (z181 x) rfl rfl ?_; rotate_right; conv => whnf) | (refine br_intro ?_ ?_ <;> intro hb <;> (try simp only [brs] at hb) <;> conv => whnf) | omega | (refine And.intro ?_ ?_; ((try dsimp only); first | omega | (refine szA rfl ?_; omega) | (refine szB rfl ?_; omega) | (unfold inI64; omega) | exact rfl | (simp only [lns] at *; omega) | decide | (unfold inI64; decide)); conv => whnf) | decide | assumption)
 all_goals
  refine .ret _ ?_
  conv => whnf
  refine ⟨[(1000001, kyC v), (1000002, icC t)], ⟨?_, rfl⟩, rr, rr, trivial⟩
  conv => lhs; whnf
  unfold onL
  congr 2
  first | grind | simp_all
theorem z270 (l : List Leg) (hl : l.length ≤ 2^40)  (v : List UInt8) (t : Int) : FSpec Tryz.prog 270 [.d (Go.Proofs.YtcjfniddeibbhaaGreatDoor.legs l), .fn 207 [.ptr 1000001 0, .ptr 1000002 0]] [(1000001, kyC v), (1000002, icC t)] (fun x r => x = .d (.int .i64 (ixF (fun i => onL v (l.getD i lg0) t) l.length)) ∧ r = [(1000001, kyC v), (1000002, icC t)]) := by
 refine spec_of hT (C := []) Tryz.func270 rfl Tryz.call270 rfl rfl rfl ?_
 conv => whnf
 refine LoopX.rule hT (C := []) (ι := Nat) (fun i => i ≤ l.length ∧ ∀ j, j < i → onL v (l.getD j lg0) t = false) (fun i => mkSt [(0, .d (Go.Proofs.YtcjfniddeibbhaaGreatDoor.legs l)), (1, .fn 207 [.ptr 1000001 0, .ptr 1000002 0]), (7, .d (.int .i64 l.length)), (8, .d (.int .i64 i))] [(1000001, kyC v), (1000002, icC t)]) (fun i => l.length - i) 0 ⟨by omega, by omega⟩ (by (refine Entails.mk' [(1000001, 1000001), (1000002, 1000002)] rfl rfl ?_ ?_ <;> repeat' (first | exact True.intro | exact lr | exact rr | exact SV.le_int (by omega) | exact SV.le_any _ | refine And.intro ?_ ?_)); done) ?_
 rintro i ⟨p1, p2⟩
 have e1 : (i : Int).toNat = i := Int.toNat_natCast i
 conv => whnf
 repeat' (first | (refine CallX.of (z207 (l.getD (i : Int).toNat lg0) v t) [(1000001, 1000001), (1000002, 1000002)] rfl ⟨lr, lr, lr, trivial⟩ ⟨rr, rr, trivial⟩ rfl rfl ?_; rintro x rout ⟨rfl, rfl⟩; refine ⟨rfl, ?_⟩; conv => whnf) | (refine br_intro ?_ ?_ <;> intro hb <;> (try simp only [brs] at hb) <;> conv => whnf) | omega | (refine And.intro ?_ ?_; ((try dsimp only); first | omega | (refine szA rfl ?_; omega) | (refine szB rfl ?_; omega) | (unfold inI64; omega) | exact rfl | (simp only [lns] at *; omega) | decide | (unfold inI64; decide)); conv => whnf) | decide | assumption)
 · refine .ret _ ?_
   conv => whnf
   refine ⟨[(1000001, kyC v), (1000002, icC t)], ⟨?_, rfl⟩, rr, rr, trivial⟩
   conv => lhs; whnf
   congr 2
   exact (ixF_hit (by omega) p2 (by simpa using hb)).symm
 · exact ⟨i + 1, ⟨by omega, all_step p2 (by simpa using hb)⟩, by omega, (by (refine Entails.mk' [(1000001, 1000001), (1000002, 1000002)] rfl rfl ?_ ?_ <;> repeat' (first | exact True.intro | exact lr | exact rr | exact SV.le_int (by omega) | exact SV.le_any _ | refine And.intro ?_ ?_)); done)⟩
 · refine .ret _ ?_
   conv => whnf
   refine ⟨[(1000001, kyC v), (1000002, icC t)], ⟨?_, rfl⟩, rr, rr, trivial⟩
   conv => lhs; whnf
   congr 2
   have : i = l.length := by omega
   subst this
   exact (ixF_none p2).symm
theorem z206 (l : List Leg) (hl : l.length ≤ 2^40) (v : List UInt8) (t : Int) : FSpec Tryz.prog 206 [.d (Go.Proofs.YtcjfniddeibbhaaGreatDoor.legs l), .fn 207 [.ptr 1000001 0, .ptr 1000002 0]] [(1000001, kyC v), (1000002, icC t)] (fun x r => x = .d (.bool (l.any fun x => onL v x t)) ∧ r = [(1000001, kyC v), (1000002, icC t)]) := by
 refine spec_of hT (C := []) Tryz.func206 rfl Tryz.call206 rfl rfl rfl ?_
 conv => whnf
 repeat' (first | (refine CallX.of (z270 l hl v t) [(1000001, 1000001), (1000002, 1000002)] rfl ⟨lr, lr, trivial⟩ ⟨rr, rr, trivial⟩ rfl rfl ?_; rintro x rout ⟨rfl, rfl⟩; refine ⟨rfl, ?_⟩; conv => whnf) | (refine br_intro ?_ ?_ <;> intro hb <;> (try simp only [brs] at hb) <;> conv => whnf) | omega | (refine And.intro ?_ ?_; ((try dsimp only); first | omega | (refine szA rfl ?_; omega) | (refine szB rfl ?_; omega) | (unfold inI64; omega) | exact rfl | (simp only [lns] at *; omega) | decide | (unfold inI64; decide)); conv => whnf) | decide | assumption)
 refine .ret _ ?_
 conv => whnf
 refine ⟨[(1000001, kyC v), (1000002, icC t)], ⟨?_, rfl⟩, rr, rr, trivial⟩
 conv => lhs; whnf
 rw [← ix_any l lg0 (fun x => onL v x t)]
theorem z205 (h : Hir) (hh : h.legs.length ≤ 2^40) (v : List UInt8) (t : Int) : FSpec Tryz.prog 205 [.agg ((hiF h).map .d), .ptr 1000001 0, .ptr 1000002 0] [(1000001, kyC v), (1000002, icC t)] (fun y r => y = .d (.bool (occ v h t)) ∧ r = [(1000001, kyC v), (1000002, icC t)]) := by
 refine spec_of hT (C := []) Tryz.func205 rfl Tryz.call205 rfl rfl rfl ?_
 conv => whnf
 repeat' (first | (refine CallX.of (z206 h.legs hh v t) [(1000001, 1000001), (1000002, 1000002)] rfl ⟨lr, lr, trivial⟩ ⟨rr, rr, trivial⟩ rfl rfl ?_; rintro x rout ⟨rfl, rfl⟩; refine ⟨rfl, ?_⟩; conv => whnf) | (refine br_intro ?_ ?_ <;> intro hb <;> (try simp only [brs] at hb) <;> conv => whnf) | omega | (refine And.intro ?_ ?_; ((try dsimp only); first | omega | (refine szA rfl ?_; omega) | (refine szB rfl ?_; omega) | (unfold inI64; omega) | exact rfl | (simp only [lns] at *; omega) | decide | (unfold inI64; decide)); conv => whnf) | decide | assumption)
 refine .ret _ ?_
 conv => whnf
 exact ⟨[(1000001, kyC v), (1000002, icC t)], ⟨rfl, rfl⟩, rr, rr, trivial⟩
theorem z90 (l : List Hir) (hl : l.length ≤ 2^40) (hk : ∀ h ∈ l, h.legs.length ≤ 2^40) (v : List UInt8) (t : Int) : FSpec Tryz.prog 90 [.d (hirs l), .fn 205 [.ptr 1000001 0, .ptr 1000002 0]] [(1000001, kyC v), (1000002, icC t)] (fun x r => x = .d (.int .i64 (ixF (fun i => occ v (l.getD i hi0) t) l.length)) ∧ r = [(1000001, kyC v), (1000002, icC t)]) := by
 refine spec_of hT (C := []) Tryz.func90 rfl Tryz.call90 rfl rfl rfl ?_
 conv => whnf
 refine LoopX.rule hT (C := []) (ι := Nat) (fun i => i ≤ l.length ∧ ∀ j, j < i → occ v (l.getD j hi0) t = false) (fun i => mkSt [(0, .d (hirs l)), (1, .fn 205 [.ptr 1000001 0, .ptr 1000002 0]), (7, .d (.int .i64 l.length)), (8, .d (.int .i64 i))] [(1000001, kyC v), (1000002, icC t)]) (fun i => l.length - i) 0 ⟨by omega, by omega⟩ (by (refine Entails.mk' [(1000001, 1000001), (1000002, 1000002)] rfl rfl ?_ ?_ <;> repeat' (first | exact True.intro | exact lr | exact rr | exact SV.le_int (by omega) | exact SV.le_any _ | refine And.intro ?_ ?_)); done) ?_
 rintro i ⟨p1, p2⟩
 have e1 : (i : Int).toNat = i := Int.toNat_natCast i
 conv => whnf
 repeat' (first | (refine CallX.of (z205 (l.getD (i : Int).toNat hi0) (hk _ (getD_mem (by omega))) v t) [(1000001, 1000001), (1000002, 1000002)] rfl ⟨lr, lr, lr, trivial⟩ ⟨rr, rr, trivial⟩ rfl rfl ?_; rintro x rout ⟨rfl, rfl⟩; refine ⟨rfl, ?_⟩; conv => whnf) | (refine br_intro ?_ ?_ <;> intro hb <;> (try simp only [brs] at hb) <;> conv => whnf) | omega | (refine And.intro ?_ ?_; ((try dsimp only); first | omega | (refine szA rfl ?_; omega) | (refine szB rfl ?_; omega) | (unfold inI64; omega) | exact rfl | (simp only [lns] at *; omega) | decide | (unfold inI64; decide)); conv => whnf) | decide | assumption)
 · refine .ret _ ?_
   conv => whnf
   refine ⟨[(1000001, kyC v), (1000002, icC t)], ⟨?_, rfl⟩, rr, rr, trivial⟩
   conv => lhs; whnf
   congr 2
   exact (ixF_hit (by omega) p2 (by simpa using hb)).symm
 · exact ⟨i + 1, ⟨by omega, all_step p2 (by simpa using hb)⟩, by omega, (by (refine Entails.mk' [(1000001, 1000001), (1000002, 1000002)] rfl rfl ?_ ?_ <;> repeat' (first | exact True.intro | exact lr | exact rr | exact SV.le_int (by omega) | exact SV.le_any _ | refine And.intro ?_ ?_)); done)⟩
 · refine .ret _ ?_
   conv => whnf
   refine ⟨[(1000001, kyC v), (1000002, icC t)], ⟨?_, rfl⟩, rr, rr, trivial⟩
   conv => lhs; whnf
   congr 2
   have : i = l.length := by omega
   subst this
   exact (ixF_none p2).symm
def hirIx (l : List Hir) (v : List UInt8) (t : Int) : Int := ixF (fun i => occ v (l.getD i hi0) t) l.length
theorem z152 (H : List UInt8 → Bool) (w : List UInt8 → DV) (l : List Hir) (hl : l.length ≤ 2^40) (hk : ∀ h ∈ l, h.legs.length ≤ 2^40) (v : List UInt8) (t : Int) :
 FSpec Tryz.prog 152 [.agg [.mp 1000001, .d (hirs l)], .d (.str v), .d (.int .i64 t)] [(1000001, mV H w)] (fun y r => y = .d (.int .i64 (hirIx l v t)) ∧ r = [(1000001, mV H w)]) := by
 refine spec_of hT (C := []) Tryz.func152 rfl Tryz.call152 rfl rfl rfl ?_
 conv => whnf
 repeat' (first | (refine CallX.of (z90 l hl hk v t) [(1000001, 4), (1000002, 5)] rfl ⟨lr, lr, trivial⟩ ⟨rr, rr, trivial⟩ rfl rfl ?_; rintro x rout ⟨rfl, rfl⟩; refine ⟨rfl, ?_⟩; conv => whnf) | (refine br_intro ?_ ?_ <;> intro hb <;> (try simp only [brs] at hb) <;> conv => whnf) | omega | (refine And.intro ?_ ?_; ((try dsimp only); first | omega | (refine szA rfl ?_; omega) | (refine szB rfl ?_; omega) | (unfold inI64; omega) | exact rfl | (simp only [lns] at *; omega) | decide | (unfold inI64; decide)); conv => whnf) | decide | assumption)
 refine .ret _ ?_
 conv => whnf
 exact ⟨[(1000001, mV H w)], ⟨rfl, rfl⟩, rr, trivial⟩
def ownK (o : List Hld) (l : List Hir) (t : Int) : Int := if lookV o t = [] then -1 else hirIx l (lookV o t) t
theorem z74 (H : List UInt8 → Bool) (w : List UInt8 → DV) (o : List Hld) (l : List Hir) (hl : l.length ≤ 2^40) (hk : ∀ h ∈ l, h.legs.length ≤ 2^40) (p : List UInt8) (t : Int) (ho : o.length ≤ 2^40) (hv : (w p = .nilsl ∧ o = []) ∨ w p = seqD 3 hldF hld0 o) :
 FSpec Tryz.prog 74 [.agg [.mp 1000001, .d (hirs l)], .d (.str p), .d (.int .i64 t)] [(1000001, mV H w)] (fun y r => y = .tup [.d (.str (lookV o t)), .d (.int .i64 (ownK o l t))] ∧ r = [(1000001, mV H w)]) := by
 refine spec_of hT (C := []) Tryz.func74 rfl Tryz.call74 rfl rfl rfl ?_
 conv => whnf
 repeat' (first | (refine CallX.of (z116 H w o l p t ho hv) [(1000001, 1000001)] rfl ⟨lr, lr, lr, trivial⟩ ⟨rr, trivial⟩ rfl rfl ?_; rintro x rout ⟨rfl, rfl⟩; refine ⟨rfl, ?_⟩; conv => whnf) | (refine CallX.of (z152 H w l hl hk (lookV o t) t) [(1000001, 1000001)] rfl ⟨lr, lr, lr, trivial⟩ ⟨rr, trivial⟩ rfl rfl ?_; rintro x rout ⟨rfl, rfl⟩; refine ⟨rfl, ?_⟩; conv => whnf) | (refine br_intro ?_ ?_ <;> intro hb <;> (try simp only [brs] at hb) <;> conv => whnf) | omega | (refine And.intro ?_ ?_; ((try dsimp only); first | omega | (refine szA rfl ?_; omega) | (refine szB rfl ?_; omega) | (unfold inI64; omega) | exact rfl | (simp only [lns] at *; omega) | decide | (unfold inI64; decide)); conv => whnf) | decide | assumption)
 · refine .ret _ ?_
   conv => whnf
   refine ⟨[(1000001, mV H w)], ⟨?_, rfl⟩, rr, trivial⟩
   unfold ownK
   rw [if_pos hb, hb]
   rfl
 · refine .ret _ ?_
   conv => whnf
   refine ⟨[(1000001, mV H w)], ⟨?_, rfl⟩, rr, trivial⟩
   unfold ownK
   rw [if_neg hb]
   rfl
def oTFlM114_1 : List (Nat × List Nat) := [(0, []), (1, []), (3, [0, 1]), (4, [0, 1]), (6, [0, 1, 3, 4]), (7, [0, 1, 3, 4]), (8, [0, 1, 3, 4]), (9, [0, 1, 3, 4]), (2, [3, 4, 6, 7, 8, 9]), (5, [6, 7, 8, 9]), (10, []), (11, []), (12, []), (13, [])]
def oTFlM114_9 : List (Nat × List Nat) := [(0, []), (1, []), (2, []), (3, []), (4, []), (5, [3, 4]), (6, [3, 4]), (7, [3, 4, 5, 6]), (8, [3, 4, 5, 6]), (9, [3, 4]), (10, [3, 4]), (11, [3, 4]), (12, []), (13, []), (14, [])]
set_option maxHeartbeats 4000000 in
theorem z114 (f : Flt) (hk : fltOk f) : FSpec Tryz.prog 114 [flt f] [] (fun x r => x = .d (.int .i64 (fltE f)) ∧ r = []) := by
 have hlv := hk.veh.1
 have hlp := hk.plt.1
 have H : (if decide ((500 : Int) < f.veh.length) = true then (2 : Int) else 0) = if 500 < f.veh.length then 2 else 0 := by
  simp only [decide_eq_true_eq]; congr 1; rw [eq_iff_iff]; omega
 have h3 := s105 [stasE f.sta, clssE f.cls, if decide ((500 : Int) < f.veh.length) = true then 2 else 0] (by simp)
 rw [show firstE [stasE f.sta, clssE f.cls, if decide ((500 : Int) < f.veh.length) = true then 2 else 0] = fltE0 f from by rw [H]; rfl] at h3
 refine spec_of hT (C := []) Tryz.func114 rfl Tryz.call114 rfl rfl rfl ?_
 conv => whnf
 repeat' (first | (refine CallX.exact (z174 f.sta hk.sta) rfl rfl ?_; rotate_right; conv => whnf) | (refine CallX.exact (z175 f.cls hk.cls) rfl rfl ?_; rotate_right; conv => whnf) | (refine CallX.exact (s107 _ _) rfl rfl ?_; rotate_right; conv => whnf) | (refine CallX.pure h3 ⟨SV.le_lit (by rfl) (by rfl), trivial⟩ rfl ?_; conv => whnf) | (refine br_intro ?_ ?_ <;> intro hb <;> (try simp only [brs] at hb) <;> conv => whnf) | (refine RegX.rule (id := 1) hT rfl [] oTFlM114_1 (by decide +kernel) ?_; conv => whnf) | (refine RegX.rule (id := 9) hT rfl [] oTFlM114_9 (by decide +kernel) ?_; conv => whnf) | omega | (refine And.intro ?_ ?_; ((try dsimp only); first | omega | (refine szA rfl ?_; omega) | (refine szB rfl ?_; omega) | (unfold inI64; omega) | (simp only [lns] at *; omega) | decide | (unfold inI64; decide)); conv => whnf) | decide | assumption)
 · refine .ret _ ?_
   conv => whnf
   refine ⟨[], ⟨?_, rfl⟩, trivial⟩
   conv => lhs; whnf
   congr 2
   unfold fltE; rw [if_pos hb]
 have F0 : fltE0 f = 0 := hb
 refine LoopX.rule hT (C := []) (ι := Nat) (fun i => i ≤ f.veh.length ∧ ∀ j, j < i → vehE1 f j = 0) (fun i => mkSt [(1, .ptr 1 0), (23, .d (vehs f.veh)), (24, .d (.int .i64 f.veh.length)), (25, .d (.int .i64 i))] [(1, fltC f)]) (fun i => f.veh.length - i) 0 ⟨by omega, by omega⟩ (by (refine Entails.mk' [(1, 1)] rfl rfl ?_ ?_ <;> repeat' (first | exact True.intro | exact lr | exact rr | exact SV.le_int (by omega) | exact SV.le_any _ | refine And.intro ?_ ?_)); done) ?_
 rintro i ⟨p1, p2⟩
 have hx : (i : Int) < f.veh.length → (f.veh.getD (i : Int).toNat veh0).key.length ≤ 2^40 ∧ (f.veh.getD (i : Int).toNat veh0).cls.length ≤ 2^40 := fun hi => hk.veh.2 _ (getD_mem (by omega))
 have e1 : (i : Int).toNat = i := Int.toNat_natCast i
 have hbad : ∀ e : Int, i < f.veh.length → e ≠ 0 → vehE1 f i = e → fltE f = e := fun e h h1 h2 => by
  unfold fltE; rw [if_neg (by omega), firstAt_eq h p2 h1 h2, if_pos h1]
 rcases Nat.lt_or_ge i f.veh.length with hi | hi
 · conv => whnf
   repeat' (first | (refine CallX.exact (s108 _ (hx (by omega)).1) rfl rfl ?_; rotate_right; conv => whnf) | (refine CallX.exact (z176 f.cls (Nat.le_trans hk.cls.1 (by decide)) _) rfl rfl ?_; rotate_right; conv => whnf) | (refine br_intro ?_ ?_ <;> intro hb <;> (try simp only [brs] at hb) <;> conv => whnf) | (refine RegX.rule (id := 1) hT rfl [] oTFlM114_1 (by decide +kernel) ?_; conv => whnf) | (refine RegX.rule (id := 9) hT rfl [] oTFlM114_9 (by decide +kernel) ?_; conv => whnf) | omega | (refine And.intro ?_ ?_; ((try dsimp only); first | omega | (refine szA rfl ?_; omega) | (refine szB rfl ?_; omega) | (unfold inI64; omega) | (simp only [lns] at *; omega) | decide | (unfold inI64; decide)); conv => whnf) | decide | assumption)
   all_goals try (exfalso; omega)
   all_goals first
    | (refine ⟨i + 1, ⟨by omega, first_step p2 (by clear p2 hbad hk hx; simp only [e1, toNat_pred] at *; unfold vehE1 strLe; grind)⟩, by omega, (by (refine Entails.mk' [(1, 1)] rfl rfl ?_ ?_ <;> repeat' (first | exact True.intro | exact lr | exact rr | exact SV.le_int (by omega) | exact SV.le_any _ | refine And.intro ?_ ?_)); done)⟩)
    | (refine .ret _ ?_
       conv => whnf
       refine ⟨[], ⟨?_, rfl⟩, trivial⟩
       conv => lhs; whnf
       congr 2
       exact (hbad _ (by omega) (by decide) (by clear p2 hbad hk hx; simp only [e1, toNat_pred] at *; unfold vehE1 strLe; grind)).symm)
 have hil : i = f.veh.length := by omega
 subst hil
 have F1 := firstAt_zero p2
 clear hbad hx p2
 conv => whnf
 repeat' (first | (refine CallX.exact (z177 f hk (vehE_sorted F1)) rfl rfl ?_; rotate_right; conv => whnf) | (refine br_intro ?_ ?_ <;> intro hb <;> (try simp only [brs] at hb) <;> conv => whnf) | (refine RegX.rule (id := 1) hT rfl [] oTFlM114_1 (by decide +kernel) ?_; conv => whnf) | (refine RegX.rule (id := 9) hT rfl [] oTFlM114_9 (by decide +kernel) ?_; conv => whnf) | omega | (refine And.intro ?_ ?_; ((try dsimp only); first | omega | (refine szA rfl ?_; omega) | (refine szB rfl ?_; omega) | (unfold inI64; omega) | (simp only [lns] at *; omega) | decide | (unfold inI64; decide)); conv => whnf) | decide | assumption)
 all_goals try (exfalso; omega)
 refine .ret _ ?_
 conv => whnf
 refine ⟨[], ⟨?_, rfl⟩, trivial⟩
 conv => lhs; whnf
 congr 2
 unfold fltE pltsE
 simp [F0, F1]
def offE (f : Flt) (h : List Hir) : Int := firstE [fltE f, hirsE h]
theorem z72 (f : Flt) (hk : fltOk f) (h : List Hir) (hh : hiOk h) : FSpec Tryz.prog 72 [flt f, .d (hirs h)] [] (fun x r => x = .d (.int .i64 (offE f h)) ∧ r = []) := by
 have h3 := s105 [fltE f, hirsE h] (by simp)
 rw [show firstE [fltE f, hirsE h] = offE f h from rfl] at h3
 refine spec_of hT (C := []) Tryz.func72 rfl Tryz.call72 rfl rfl rfl ?_
 conv => whnf
 repeat' (first | (refine CallX.exact (z114 f hk) rfl rfl ?_; rotate_right; conv => whnf) | (refine CallX.exact (z124 h hh) rfl rfl ?_; rotate_right; conv => whnf) | (refine CallX.pure h3 ⟨SV.le_lit (by rfl) (by rfl), trivial⟩ rfl ?_; conv => whnf) | (refine br_intro ?_ ?_ <;> intro hb <;> (try simp only [brs] at hb) <;> conv => whnf) | omega | (refine And.intro ?_ ?_; ((try dsimp only); first | omega | (refine szA rfl ?_; omega) | (refine szB rfl ?_; omega) | (unfold inI64; omega) | (simp only [lns] at *; omega) | decide | (unfold inI64; decide)); conv => whnf) | decide | assumption)
 refine .ret _ ?_
 conv => whnf
 refine ⟨[], ⟨?_, rfl⟩, trivial⟩
 conv => lhs; whnf
theorem s221_0 : FSpec Tryz.prog 229 [.d (.int .u64 0)] [] (fun y r => (∃ m : Int, y = .d (.int .i64 m)) ∧ r = []) := by
 refine spec_of hT (C := []) Tryz.func229 rfl Tryz.call229 rfl rfl rfl ?_
 conv => whnf
 repeat' (first | (refine br_intro ?_ ?_ <;> intro hb <;> (try simp only [brs] at hb) <;> conv => whnf) | omega | (refine And.intro ?_ ?_; ((try dsimp only); first | omega | (refine szA rfl ?_; omega) | (refine szB rfl ?_; omega) | (unfold inI64; omega) | (simp only [lns] at *; omega) | decide | (unfold inI64; decide)); conv => whnf) | decide | assumption)
 refine .ret _ ?_
 conv => whnf
 exact ⟨[], ⟨⟨_, rfl⟩, rfl⟩, trivial⟩
theorem s221_1 : FSpec Tryz.prog 229 [.d (.int .u64 1)] [] (fun y r => (∃ m : Int, y = .d (.int .i64 m)) ∧ r = []) := by
 refine spec_of hT (C := []) Tryz.func229 rfl Tryz.call229 rfl rfl rfl ?_
 conv => whnf
 repeat' (first | (refine br_intro ?_ ?_ <;> intro hb <;> (try simp only [brs] at hb) <;> conv => whnf) | omega | (refine And.intro ?_ ?_; ((try dsimp only); first | omega | (refine szA rfl ?_; omega) | (refine szB rfl ?_; omega) | (unfold inI64; omega) | (simp only [lns] at *; omega) | decide | (unfold inI64; decide)); conv => whnf) | decide | assumption)
 refine .ret _ ?_
 conv => whnf
 exact ⟨[], ⟨⟨_, rfl⟩, rfl⟩, trivial⟩
theorem s221_2 : FSpec Tryz.prog 229 [.d (.int .u64 2)] [] (fun y r => (∃ m : Int, y = .d (.int .i64 m)) ∧ r = []) := by
 refine spec_of hT (C := []) Tryz.func229 rfl Tryz.call229 rfl rfl rfl ?_
 conv => whnf
 repeat' (first | (refine br_intro ?_ ?_ <;> intro hb <;> (try simp only [brs] at hb) <;> conv => whnf) | omega | (refine And.intro ?_ ?_; ((try dsimp only); first | omega | (refine szA rfl ?_; omega) | (refine szB rfl ?_; omega) | (unfold inI64; omega) | (simp only [lns] at *; omega) | decide | (unfold inI64; decide)); conv => whnf) | decide | assumption)
 refine .ret _ ?_
 conv => whnf
 exact ⟨[], ⟨⟨_, rfl⟩, rfl⟩, trivial⟩
theorem s221_3 : FSpec Tryz.prog 229 [.d (.int .u64 3)] [] (fun y r => (∃ m : Int, y = .d (.int .i64 m)) ∧ r = []) := by
 refine spec_of hT (C := []) Tryz.func229 rfl Tryz.call229 rfl rfl rfl ?_
 conv => whnf
 repeat' (first | (refine br_intro ?_ ?_ <;> intro hb <;> (try simp only [brs] at hb) <;> conv => whnf) | omega | (refine And.intro ?_ ?_; ((try dsimp only); first | omega | (refine szA rfl ?_; omega) | (refine szB rfl ?_; omega) | (unfold inI64; omega) | (simp only [lns] at *; omega) | decide | (unfold inI64; decide)); conv => whnf) | decide | assumption)
 refine .ret _ ?_
 conv => whnf
 exact ⟨[], ⟨⟨_, rfl⟩, rfl⟩, trivial⟩
theorem s221_4 : FSpec Tryz.prog 229 [.d (.int .u64 4)] [] (fun y r => (∃ m : Int, y = .d (.int .i64 m)) ∧ r = []) := by
 refine spec_of hT (C := []) Tryz.func229 rfl Tryz.call229 rfl rfl rfl ?_
 conv => whnf
 repeat' (first | (refine br_intro ?_ ?_ <;> intro hb <;> (try simp only [brs] at hb) <;> conv => whnf) | omega | (refine And.intro ?_ ?_; ((try dsimp only); first | omega | (refine szA rfl ?_; omega) | (refine szB rfl ?_; omega) | (unfold inI64; omega) | (simp only [lns] at *; omega) | decide | (unfold inI64; decide)); conv => whnf) | decide | assumption)
 refine .ret _ ?_
 conv => whnf
 exact ⟨[], ⟨⟨_, rfl⟩, rfl⟩, trivial⟩
theorem s221_5 : FSpec Tryz.prog 229 [.d (.int .u64 5)] [] (fun y r => (∃ m : Int, y = .d (.int .i64 m)) ∧ r = []) := by
 refine spec_of hT (C := []) Tryz.func229 rfl Tryz.call229 rfl rfl rfl ?_
 conv => whnf
 repeat' (first | (refine br_intro ?_ ?_ <;> intro hb <;> (try simp only [brs] at hb) <;> conv => whnf) | omega | (refine And.intro ?_ ?_; ((try dsimp only); first | omega | (refine szA rfl ?_; omega) | (refine szB rfl ?_; omega) | (unfold inI64; omega) | (simp only [lns] at *; omega) | decide | (unfold inI64; decide)); conv => whnf) | decide | assumption)
 refine .ret _ ?_
 conv => whnf
 exact ⟨[], ⟨⟨_, rfl⟩, rfl⟩, trivial⟩
theorem s221_6 : FSpec Tryz.prog 229 [.d (.int .u64 6)] [] (fun y r => (∃ m : Int, y = .d (.int .i64 m)) ∧ r = []) := by
 refine spec_of hT (C := []) Tryz.func229 rfl Tryz.call229 rfl rfl rfl ?_
 conv => whnf
 repeat' (first | (refine br_intro ?_ ?_ <;> intro hb <;> (try simp only [brs] at hb) <;> conv => whnf) | omega | (refine And.intro ?_ ?_; ((try dsimp only); first | omega | (refine szA rfl ?_; omega) | (refine szB rfl ?_; omega) | (unfold inI64; omega) | (simp only [lns] at *; omega) | decide | (unfold inI64; decide)); conv => whnf) | decide | assumption)
 refine .ret _ ?_
 conv => whnf
 exact ⟨[], ⟨⟨_, rfl⟩, rfl⟩, trivial⟩
theorem s221_7 : FSpec Tryz.prog 229 [.d (.int .u64 7)] [] (fun y r => (∃ m : Int, y = .d (.int .i64 m)) ∧ r = []) := by
 refine spec_of hT (C := []) Tryz.func229 rfl Tryz.call229 rfl rfl rfl ?_
 conv => whnf
 repeat' (first | (refine br_intro ?_ ?_ <;> intro hb <;> (try simp only [brs] at hb) <;> conv => whnf) | omega | (refine And.intro ?_ ?_; ((try dsimp only); first | omega | (refine szA rfl ?_; omega) | (refine szB rfl ?_; omega) | (unfold inI64; omega) | (simp only [lns] at *; omega) | decide | (unfold inI64; decide)); conv => whnf) | decide | assumption)
 refine .ret _ ?_
 conv => whnf
 exact ⟨[], ⟨⟨_, rfl⟩, rfl⟩, trivial⟩
theorem s221_8 : FSpec Tryz.prog 229 [.d (.int .u64 8)] [] (fun y r => (∃ m : Int, y = .d (.int .i64 m)) ∧ r = []) := by
 refine spec_of hT (C := []) Tryz.func229 rfl Tryz.call229 rfl rfl rfl ?_
 conv => whnf
 repeat' (first | (refine br_intro ?_ ?_ <;> intro hb <;> (try simp only [brs] at hb) <;> conv => whnf) | omega | (refine And.intro ?_ ?_; ((try dsimp only); first | omega | (refine szA rfl ?_; omega) | (refine szB rfl ?_; omega) | (unfold inI64; omega) | (simp only [lns] at *; omega) | decide | (unfold inI64; decide)); conv => whnf) | decide | assumption)
 refine .ret _ ?_
 conv => whnf
 exact ⟨[], ⟨⟨_, rfl⟩, rfl⟩, trivial⟩
theorem s221_9 : FSpec Tryz.prog 229 [.d (.int .u64 9)] [] (fun y r => (∃ m : Int, y = .d (.int .i64 m)) ∧ r = []) := by
 refine spec_of hT (C := []) Tryz.func229 rfl Tryz.call229 rfl rfl rfl ?_
 conv => whnf
 repeat' (first | (refine br_intro ?_ ?_ <;> intro hb <;> (try simp only [brs] at hb) <;> conv => whnf) | omega | (refine And.intro ?_ ?_; ((try dsimp only); first | omega | (refine szA rfl ?_; omega) | (refine szB rfl ?_; omega) | (unfold inI64; omega) | (simp only [lns] at *; omega) | decide | (unfold inI64; decide)); conv => whnf) | decide | assumption)
 refine .ret _ ?_
 conv => whnf
 exact ⟨[], ⟨⟨_, rfl⟩, rfl⟩, trivial⟩
theorem s221_10 : FSpec Tryz.prog 229 [.d (.int .u64 10)] [] (fun y r => (∃ m : Int, y = .d (.int .i64 m)) ∧ r = []) := by
 refine spec_of hT (C := []) Tryz.func229 rfl Tryz.call229 rfl rfl rfl ?_
 conv => whnf
 repeat' (first | (refine br_intro ?_ ?_ <;> intro hb <;> (try simp only [brs] at hb) <;> conv => whnf) | omega | (refine And.intro ?_ ?_; ((try dsimp only); first | omega | (refine szA rfl ?_; omega) | (refine szB rfl ?_; omega) | (unfold inI64; omega) | (simp only [lns] at *; omega) | decide | (unfold inI64; decide)); conv => whnf) | decide | assumption)
 refine .ret _ ?_
 conv => whnf
 exact ⟨[], ⟨⟨_, rfl⟩, rfl⟩, trivial⟩
theorem s221_11 : FSpec Tryz.prog 229 [.d (.int .u64 11)] [] (fun y r => (∃ m : Int, y = .d (.int .i64 m)) ∧ r = []) := by
 refine spec_of hT (C := []) Tryz.func229 rfl Tryz.call229 rfl rfl rfl ?_
 conv => whnf
 repeat' (first | (refine br_intro ?_ ?_ <;> intro hb <;> (try simp only [brs] at hb) <;> conv => whnf) | omega | (refine And.intro ?_ ?_; ((try dsimp only); first | omega | (refine szA rfl ?_; omega) | (refine szB rfl ?_; omega) | (unfold inI64; omega) | (simp only [lns] at *; omega) | decide | (unfold inI64; decide)); conv => whnf) | decide | assumption)
 refine .ret _ ?_
 conv => whnf
 exact ⟨[], ⟨⟨_, rfl⟩, rfl⟩, trivial⟩
theorem s221_12 : FSpec Tryz.prog 229 [.d (.int .u64 12)] [] (fun y r => (∃ m : Int, y = .d (.int .i64 m)) ∧ r = []) := by
 refine spec_of hT (C := []) Tryz.func229 rfl Tryz.call229 rfl rfl rfl ?_
 conv => whnf
 repeat' (first | (refine br_intro ?_ ?_ <;> intro hb <;> (try simp only [brs] at hb) <;> conv => whnf) | omega | (refine And.intro ?_ ?_; ((try dsimp only); first | omega | (refine szA rfl ?_; omega) | (refine szB rfl ?_; omega) | (unfold inI64; omega) | (simp only [lns] at *; omega) | decide | (unfold inI64; decide)); conv => whnf) | decide | assumption)
 refine .ret _ ?_
 conv => whnf
 exact ⟨[], ⟨⟨_, rfl⟩, rfl⟩, trivial⟩
theorem s221 (n : Nat) (hn : n ≤ 12) : FSpec Tryz.prog 229 [.d (.int .u64 n)] [] (fun y r => (∃ m : Int, y = .d (.int .i64 m)) ∧ r = []) := by
 match n, hn with
 | 0, _ => exact s221_0
 | 1, _ => exact s221_1
 | 2, _ => exact s221_2
 | 3, _ => exact s221_3
 | 4, _ => exact s221_4
 | 5, _ => exact s221_5
 | 6, _ => exact s221_6
 | 7, _ => exact s221_7
 | 8, _ => exact s221_8
 | 9, _ => exact s221_9
 | 10, _ => exact s221_10
 | 11, _ => exact s221_11
 | 12, _ => exact s221_12
 | n + 13, h => omega
theorem wrap_u64 (n : Nat) (hn : n ≤ 12) : IntKind.u64.wrap n = n := by
 match n, hn with
 | 0, _ | 1, _ | 2, _ | 3, _ | 4, _ | 5, _ | 6, _ | 7, _ | 8, _ | 9, _ | 10, _ | 11, _ | 12, _ => decide
 | n + 13, h => omega
theorem sBitsLen (n : Nat) (hn : n ≤ 12) : FSpec Tryz.prog 169 [.d (.int .u64 (IntKind.u64.wrap n))] [] (fun y r => (∃ m : Int, y = .d (.int .i64 m)) ∧ r = []) := by
 rw [wrap_u64 n hn]
 refine spec_of hT (C := []) Tryz.func169 rfl Tryz.call169 rfl rfl rfl ?_
 conv => whnf
 repeat' (first | (refine br_intro ?_ ?_ <;> intro hb <;> (try simp only [brs] at hb) <;> conv => whnf) | omega | (refine And.intro ?_ ?_; ((try dsimp only); first | omega | (refine szA rfl ?_; omega) | (refine szB rfl ?_; omega) | (unfold inI64; omega) | (simp only [lns] at *; omega) | decide | (unfold inI64; decide)); conv => whnf) | decide | assumption)
 refine CallX.of (s221 n hn) [] rfl ⟨lr, trivial⟩ trivial rfl rfl ?_
 rintro x rout ⟨⟨m, rfl⟩, rfl⟩
 refine ⟨rfl, ?_⟩
 conv => whnf
 refine .ret _ ?_
 conv => whnf
 exact ⟨[], ⟨⟨_, rfl⟩, rfl⟩, trivial⟩
end Go.Proofs.YtcjfniddeibbhaaGreatDoor
