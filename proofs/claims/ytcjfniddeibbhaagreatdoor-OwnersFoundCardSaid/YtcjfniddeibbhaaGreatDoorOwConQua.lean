/- OwnersFound is proved: for every input the law returns true, and its argument reads afterwards as it read before. Conditions: those of the given row alone. -/
import Derived.Test.YtcjfniddeibbhaaGreatDoorOwConOne
import Derived.Test.YtcjfniddeibbhaaGreatDoorOwConTri
set_option linter.unusedVariables false
set_option linter.unusedSimpArgs false
set_option maxRecDepth 20000
namespace Go.Proofs.YtcjfniddeibbhaaGreatDoor
open Go Go.Eng
theorem s130 (D C F : Int) (l : List Pas) (hl : l.length ≤ 1000) (hp : ∀ p ∈ l, 0 ≤ p.tm ∧ p.tm ≤ 5761439) :
 FSpec Tryz.prog 127 [.agg [.d (.int .i64 D), .d (.int .i64 C), .d (.int .i64 F)], .d (pass l)] [] (fun x r => x = .d (seqD 1 bF false (fillA false (dblB D l) l.length l.length)) ∧ r = []) := by
 refine spec_of hT (C := []) Tryz.func127 rfl Tryz.call127 rfl rfl rfl ?_
 conv => whnf
 repeat' (first | (refine br_intro ?_ ?_ <;> intro hb <;> (try simp only [brs] at hb) <;> conv => whnf) | omega | (refine And.intro ?_ ?_; ((try dsimp only); first | omega | (refine szA rfl ?_; omega) | (refine szB rfl ?_; omega) | (unfold inI64; omega) | (simp only [lns] at *; omega) | decide | (unfold inI64; decide)); conv => whnf) | decide | assumption)
 refine LoopX.rule hT (C := []) (ι := Nat) (fun i => i ≤ l.length) (fun i => mkSt [(2, .ptr 2 0), (5, .mp 5), (6, .buf 6), (16, .d (pass l)), (17, .d (.int .i64 l.length)), (18, .d (.int .i64 i))] [(2, .cells 95 [.d (.int .i64 D), .d (.int .i64 C), .d (.int .i64 F)]), (5, seenR (dblM D l i)), (6, seqB 4 1 bF false (fillA false (dblB D l) l.length i))]) (fun i => l.length - i) 0 (by omega) ?_ ?_
 · refine Entails.mk' [(2, 2), (5, 12), (6, 15)] rfl rfl ⟨lr, lr, lr, lr, lr, lr, trivial⟩ ⟨rr, Res.le_map (fun key hk => ?_), Res.le_buf (by rw [fillA_length]; rfl) (fun j hj => ?_), trivial⟩
   · obtain ⟨a, b, rfl⟩ := wk_ss hk
     exact ⟨rfl, rfl⟩
   · have hj : j < l.length := hj
     rw [rowF_lt (by rw [fillA_length]; exact hj)]
     simp [fillA, bF]
     rfl
 rintro i p1
 have e1 : (i : Int).toNat = i := Int.toNat_natCast i
 have hpi : (i : Int) < l.length → 0 ≤ (l.getD (i : Int).toNat pa0).tm ∧ (l.getD (i : Int).toNat pa0).tm ≤ 5761439 := fun hi => hp _ (getD_mem (by omega))
 have hlen : (fillA false (dblB D l) l.length i).length = l.length := fillA_length
 have hm : ∀ q, 0 ≤ (dblM D l i q).getD 0 ∧ (dblM D l i q).getD 0 ≤ 5761439 := fun q => by
  cases hq : dblM D l i q with
  | none => simp
  | some t => simpa using dblM_bd hp i p1 q t hq
 have hm0 := hm ((l.getD (i : Int).toNat pa0).plate, (l.getD (i : Int).toNat pa0).gate)
 conv => whnf
 repeat' (first | (refine And.intro (rfl : zrow _ = some [DV.int .i64 0]) ?_; conv => whnf) | (simp only [Nat.beq_refl, cond_true]; conv => whnf) | (refine br_intro ?_ ?_ <;> intro hb <;> (try simp only [brs] at hb) <;> conv => whnf) | omega | (refine And.intro ?_ ?_; ((try dsimp only); first | omega | (refine szA rfl ?_; omega) | (refine szB rfl ?_; omega) | (unfold inI64; omega) | (simp only [lns] at *; omega) | decide | (unfold inI64; decide)); conv => whnf) | decide | assumption)
 · rename_i hb1
   have hB : dblB D l i = false := by rw [dblB_eq, decide_eq_false (by omega), Bool.and_false]
   have hM : ∀ a b, dblM D l (i + 1) (a, b) = if a = (l.getD i pa0).plate ∧ b = (l.getD i pa0).gate then some (l.getD i pa0).tm else dblM D l i (a, b) := fun a b => by
    rw [dblM, if_neg (by show ¬ dblB D l i = true; rw [hB]; simp)]
    simp [Prod.ext_iff]
   refine ⟨i + 1, by omega, by omega, Entails.mk' [(2, 2), (5, 5), (6, 6)] rfl rfl ⟨lr, lr, lr, lr, lr, lr, trivial⟩ ⟨rr, Res.le_map (fun key hk => ?_), ?_, trivial⟩⟩
   · obtain ⟨a, b, rfl⟩ := wk_ss hk
     rw [e1]
     simp only [keyEq, keyEq1, Bool.and_true, mHas, mVal, hM]
     by_cases hab : a = (l.getD i pa0).plate ∧ b = (l.getD i pa0).gate
     · rw [if_pos hab, hab.1, hab.2]; simp
     · rw [if_neg hab]
       have : (a == (l.getD i pa0).plate && b == (l.getD i pa0).gate) = false := by
        cases hq : (a == (l.getD i pa0).plate && b == (l.getD i pa0).gate) with
        | false => rfl
        | true => simp at hq; exact absurd hq hab
       rw [this]; simp
   · rw [← fillA_set' (x := false) hB.symm]
     first
      | exact Res.le_putF (fun y _ => rfl)
      | (refine Res.le_putF (x := false) (fun y _ => ?_)
         show [DV.bool _] = [DV.bool _]
         rw [e1]; simpa using hb)
 · rename_i hb1
   have hB : dblB D l i = true := by rw [dblB_eq, decide_eq_true hb, Bool.and_true]; exact hb1
   refine ⟨i + 1, by omega, by omega, Entails.mk' [(2, 2), (5, 5), (6, 6)] rfl rfl ⟨lr, lr, lr, lr, lr, lr, trivial⟩ ⟨rr, ?_, ?_, trivial⟩⟩
   · have : dblM D l (i + 1) = dblM D l i := by rw [dblM]; exact if_pos hB
     rw [this]; exact rr
   · rw [← fillA_set' (x := decide ((l.getD (i : Int).toNat pa0).tm - (dblM D l i ((l.getD (i : Int).toNat pa0).plate, (l.getD (i : Int).toNat pa0).gate)).getD 0 < D)) (by rw [hB, e1]; simpa using hb)]
     exact Res.le_putF (fun y _ => rfl)
 · have hB : dblB D l i = false := by
    rw [dblB_eq, Bool.and_eq_false_iff]; exact .inl hb
   have hM : ∀ a b, dblM D l (i + 1) (a, b) = if a = (l.getD i pa0).plate ∧ b = (l.getD i pa0).gate then some (l.getD i pa0).tm else dblM D l i (a, b) := fun a b => by
    rw [dblM, if_neg (by show ¬ dblB D l i = true; rw [hB]; simp)]
    simp [Prod.ext_iff]
   refine ⟨i + 1, by omega, by omega, Entails.mk' [(2, 2), (5, 5), (6, 6)] rfl rfl ⟨lr, lr, lr, lr, lr, lr, trivial⟩ ⟨rr, Res.le_map (fun key hk => ?_), ?_, trivial⟩⟩
   · obtain ⟨a, b, rfl⟩ := wk_ss hk
     rw [e1]
     simp only [keyEq, keyEq1, Bool.and_true, mHas, mVal, hM]
     by_cases hab : a = (l.getD i pa0).plate ∧ b = (l.getD i pa0).gate
     · rw [if_pos hab, hab.1, hab.2]; simp
     · rw [if_neg hab]
       have : (a == (l.getD i pa0).plate && b == (l.getD i pa0).gate) = false := by
        cases hq : (a == (l.getD i pa0).plate && b == (l.getD i pa0).gate) with
        | false => rfl
        | true => simp at hq; exact absurd hq hab
       rw [this]; simp
   · rw [← fillA_set' (x := false) hB.symm]
     first
      | exact Res.le_putF (fun y _ => rfl)
      | (refine Res.le_putF (x := false) (fun y _ => ?_)
         show [DV.bool _] = [DV.bool _]
         rw [e1]; simpa using hb)
 · refine .freeze _ 6 4 1 _ _ rfl ?_
   have : i = l.length := by omega
   subst this
   refine .ret _ ?_
   conv => whnf
   refine ⟨[], ⟨?_, rfl⟩, trivial⟩
   conv => lhs; whnf
theorem s65 (g : List Gate) (D C F : Int) (l : List Pas) (hg : gOk g) (hl : pOk l) :
 FSpec Tryz.prog 59 [.d (gates g), .agg [.d (.int .i64 D), .d (.int .i64 C), .d (.int .i64 F)], .d (pass l)] [] (fun x r => x = .tup [.d (if dblsE D C F g l = 0 then ints (dblIx D l l.length) else .nilsl), .d (.int .i64 (dblsE D C F g l))] ∧ r = []) := by
 refine spec_of hT (C := []) Tryz.func59 rfl Tryz.call59 rfl rfl rfl ?_
 conv => whnf
 repeat' (first | (refine CallX.exact (s66 _ _ _) rfl rfl ?_; rotate_right; conv => whnf) | (refine CallX.exact (s90 g l hg hl) rfl rfl ?_; rotate_right; conv => whnf) | (refine CallX.pure (s105 [_, _] (by simp)) ⟨SV.le_lit (by rfl) (by rfl), trivial⟩ rfl ?_; conv => whnf) | (refine br_intro ?_ ?_ <;> intro hb <;> (try simp only [brs] at hb) <;> conv => whnf) | omega | (refine And.intro ?_ ?_; ((try dsimp only); first | omega | (refine szA rfl ?_; omega) | (refine szB rfl ?_; omega) | (unfold inI64; omega) | (simp only [lns] at *; omega) | decide | (unfold inI64; decide)); conv => whnf) | decide | assumption)
 · have hb : ¬ dblsE D C F g l = 0 := hb
   refine .ret _ ?_
   conv => whnf
   refine ⟨[], ⟨congrArg SV.tup ?_, rfl⟩, trivial⟩
   repeat' (refine cons_eq ?_ ?_)
   all_goals (conv => lhs; whnf)
   all_goals try (with_reducible rfl)
   · rw [if_neg hb]
   · rfl
 have hb : dblsE D C F g l = 0 := hb
 rw [hb]
 have hz : chkE g l = 0 := by simp only [dblsE, firstE] at hb; grind
 obtain ⟨⟨n1, n2⟩, n3, n4⟩ := chk_zero hz
 repeat' (first | (refine CallX.exact (s130 _ _ _ l n3 n4) rfl rfl ?_; rotate_right; conv => whnf) | (refine br_intro ?_ ?_ <;> intro hb <;> (try simp only [brs] at hb) <;> conv => whnf) | omega | (refine And.intro ?_ ?_; ((try dsimp only); first | omega | (refine szA rfl ?_; omega) | (refine szB rfl ?_; omega) | (unfold inI64; omega) | (simp only [lns] at *; omega) | decide | (unfold inI64; decide)); conv => whnf) | decide | assumption)
 refine LoopX.rule hT (C := []) (ι := Nat) (fun i => i ≤ l.length) (fun i => mkSt [(9, .buf 9), (24, .d (seqD 1 bF false (fillA false (dblB D l) l.length l.length))), (25, .d (.int .i64 l.length)), (26, .d (.int .i64 i))] [(9, seqB 3 1 iF 0 (dblIx D l i))]) (fun i => l.length - i) 0 (by omega) ?_ ?_
 · exact (Entails.nil 9 9 3 1 (rowF iF 0 []) rfl rfl (by decide)).trans (by (refine Entails.mk' [(9, 9)] rfl rfl ?_ ?_ <;> repeat' (first | exact True.intro | exact lr | exact rr | (refine SV.le_int ?_; rw [fillA_length]) | exact SV.le_int (by omega) | exact SV.le_any _ | refine And.intro ?_ ?_)); done)
 rintro i p1
 have e1 : (i : Int).toNat = i := Int.toNat_natCast i
 have hlen : (fillA false (dblB D l) l.length l.length).length = l.length := fillA_length
 have hdl := dblIx_len (D := D) (l := l) (n := i)
 conv => whnf
 repeat' (first | (refine br_intro ?_ ?_ <;> intro hb <;> (try simp only [brs] at hb) <;> conv => whnf) | omega | (refine And.intro ?_ ?_; ((try dsimp only); first | omega | (refine szA rfl ?_; omega) | (refine szB rfl ?_; omega) | (unfold inI64; omega) | (simp only [lns] at *; omega) | decide | (unfold inI64; decide)); conv => whnf) | decide | assumption)
 · rw [fillA_get (by omega)] at hb
   refine ⟨i + 1, by omega, by omega, Entails.mk' [(9, 35)] rfl rfl ⟨lr, lr, lr, lr, trivial⟩ ⟨?_, trivial⟩⟩
   rw [dblIx_succ, if_pos hb]; exact Res.le_snocF (by rfl)
 · rw [fillA_get (by omega)] at hb
   refine ⟨i + 1, by omega, by omega, Entails.mk' [(9, 9)] rfl rfl ⟨lr, lr, lr, lr, trivial⟩ ⟨?_, trivial⟩⟩
   rw [dblIx_succ, if_neg (by rw [hb]; simp), List.append_nil]; exact rr
 · have : i = l.length := by omega
   subst this
   refine .freeze _ 9 3 1 _ _ rfl ?_
   refine .ret _ ?_
   conv => whnf
   refine ⟨[], ⟨congrArg SV.tup ?_, rfl⟩, trivial⟩
   repeat' (refine cons_eq ?_ ?_)
   all_goals (conv => lhs; whnf)
   all_goals try (with_reducible rfl)
   rw [if_pos rfl]
theorem s24 : FSpec Tryz.prog 30 [] [] (fun x r => x = .d (.bool true) ∧ r = []) := by
 have h := s65 tolG 5 0 0 tolP ⟨by decide, by decide⟩ ⟨by decide, by decide⟩
 rw [tol_zero, if_pos rfl, tol_ix] at h
 refine spec_of hT (C := []) Tryz.func30 rfl Tryz.call30 rfl rfl rfl ?_
 conv => whnf
 repeat' (first | (refine CallX.pure h ⟨SV.le_lit (l := tolG) rfl rfl, lr, SV.le_lit (l := tolP) rfl rfl, trivial⟩ rfl ?_; conv => whnf) | (refine CallX.pure (s37 [1] [1] (by simp) (by simp)) ⟨lr, SV.le_lit rfl rfl, trivial⟩ rfl ?_; conv => whnf) | (refine br_intro ?_ ?_ <;> intro hb <;> (try simp only [brs] at hb) <;> conv => whnf) | omega | (refine And.intro ?_ ?_; ((try dsimp only); first | omega | (refine szA rfl ?_; omega) | (refine szB rfl ?_; omega) | (unfold inI64; omega) | (simp only [lns] at *; omega) | decide | (unfold inI64; decide)); conv => whnf) | decide | assumption)
 all_goals
  refine .ret _ ?_
  conv => whnf
  refine ⟨[], ⟨?_, rfl⟩, trivial⟩
  conv => lhs; whnf
  simp
def oTOwA43_9 : List (Nat × List Nat) := [(0, []), (1, [0]), (2, [0]), (3, [0, 1, 2]), (4, [0, 1, 2, 3]), (5, [0, 1, 2]), (6, []), (7, [])]
theorem chk_on {g : List Gate} {l : List Pas} (h : chkE g l = 0) : ∀ j, j < l.length → 0 ≤ gateIx g (l.getD j pa0).gate ∧ 0 ≤ trueT g (l.getD j pa0) ∧ trueT g (l.getD j pa0) ≤ 5761439 := by
 unfold chkE at h
 have h0 : firstAt (onG g l) l.length = 0 := by
  split at h
  · exact absurd h (by assumption)
  · split at h
    · exact absurd h (by assumption)
    · exact h
 intro j hj
 have := firstAt_all h0 j hj
 unfold onG at this
 grind
def unkB (f : Flt) (g : List Gate) (l : List Pas) (i : Nat) : Bool := decide (lookV ((hend f.plt).out (l.getD i pa0).plate) (trueT g (l.getD i pa0)) = [])
def unkL (f : Flt) (g : List Gate) (l : List Pas) (n : Nat) : List Int := ((List.range n).filter (unkB f g l)).map fun (j : Nat) => (j : Int)
theorem unkL_succ {f : Flt} {g : List Gate} {l : List Pas} {n : Nat} : unkL f g l (n + 1) = unkL f g l n ++ (if unkB f g l n = true then [(n : Int)] else []) := by
 unfold unkL
 rw [List.range_succ, List.filter_append, List.map_append]
 congr 1
 cases h : unkB f g l n <;> simp [h]
theorem unkL_len {f : Flt} {g : List Gate} {l : List Pas} {n : Nat} : (unkL f g l n).length ≤ n := by
 unfold unkL; rw [List.length_map]; exact Nat.le_trans (List.length_filter_le _ _) (by simp)
def unkE (f : Flt) (g : List Gate) (l : List Pas) : Int := firstE [fltE f, chkE g l]
theorem unkE_zero {f : Flt} {g : List Gate} {l : List Pas} (h : unkE f g l = 0) : fltE f = 0 ∧ chkE g l = 0 := by
 simp only [unkE, firstE] at h
 grind
theorem fltE_veh {f : Flt} (h : fltE f = 0) : ∀ j, j < f.veh.length → vehE1 f j = 0 := by
 unfold fltE at h
 have h0 : firstAt (vehE1 f) f.veh.length = 0 := by
  split at h
  · exact absurd h (by assumption)
  · split at h
    · exact absurd h (by assumption)
    · rename_i q; simpa using q
 exact firstAt_all h0
theorem plt_veh {f : Flt} (h : fltE f = 0) : ∀ e ∈ f.plt, e.veh ≠ [] := by
 intro e he q
 obtain ⟨j, hj, rfl⟩ := mem_getD (d := plt0) he
 have h1 := fltE_plt h j hj
 unfold pltE1 at h1
 have h2 : 0 ≤ veIx f.veh (f.plt.getD j plt0).veh := by grind
 have hb := ixF_bd (p := fun i => (f.veh.getD i veh0).key == (f.plt.getD j plt0).veh) (n := f.veh.length)
 have h3 := hb.2.2 h2
 have h4 := hb.2.1
 have h5 := fltE_veh h (ixF (fun i => (f.veh.getD i veh0).key == (f.plt.getD j plt0).veh) f.veh.length).toNat (by unfold veIx at h2; omega)
 unfold vehE1 at h5
 simp only [beq_iff_eq] at h3
 rw [h3, q] at h5
 rw [if_pos (by decide)] at h5
 cases h5
theorem wear_some {f : Flt} (h : fltE f = 0) (p : List UInt8) (t : Int) : (!(findP (worn f.plt t) p).isSome) = decide (wearV f.plt p t = []) := by
 unfold wearV
 cases hq : findP (worn f.plt t) p with
 | none => rfl
 | some e =>
   have he := (findP_some hq).1
   have hm : e ∈ f.plt := by
    unfold worn early at he
    exact (List.mem_filter.1 (List.mem_filter.1 he).1).1
   have := plt_veh h e hm
   show false = _
   exact (decide_eq_false this).symm
set_option maxHeartbeats 4000000 in
theorem z43 (f : Flt) (hk : fltOk f) (g : List Gate) (l : List Pas) (hg : gOk g) (hl : pOk l) :
 FSpec Tryz.prog 43 [flt f, .d (gates g), .d (pass l)] [] (fun y r => y = (if unkE f g l ≠ 0 then .tup [.d .nilsl, .d (.int .i64 (unkE f g l))] else .tup [.d (ints (unkL f g l l.length)), .d (.int .i64 0)]) ∧ r = []) := by
 have h3 := s105 [fltE f, chkE g l] (by simp)
 rw [show firstE [fltE f, chkE g l] = unkE f g l from rfl] at h3
 refine spec_of hT (C := []) Tryz.func43 rfl Tryz.call43 rfl rfl rfl ?_
 conv => whnf
 repeat' (first | (refine CallX.exact (z114 f hk) rfl rfl ?_; rotate_right; conv => whnf) | (refine CallX.exact (s90 g l hg hl) rfl rfl ?_; rotate_right; conv => whnf) | (refine CallX.pure h3 ⟨SV.le_lit (by rfl) (by rfl), trivial⟩ rfl ?_; conv => whnf) | (refine br_intro ?_ ?_ <;> intro hb <;> (try simp only [brs] at hb) <;> conv => whnf) | (refine RegX.rule (id := 9) hT rfl [] oTOwA43_9 (by decide +kernel) ?_; conv => whnf) | omega | (refine And.intro ?_ ?_; ((try dsimp only); first | omega | (refine szA rfl ?_; omega) | (refine szB rfl ?_; omega) | (unfold inI64; omega) | exact rfl | (simp only [lns] at *; omega) | decide | (unfold inI64; decide)); conv => whnf) | decide | assumption)
 · refine .ret _ ?_
   conv => whnf
   refine ⟨[], ⟨?_, rfl⟩, trivial⟩
   rw [if_pos hb]
   rfl
 have E0 : unkE f g l = 0 := hb
 obtain ⟨E1, E2⟩ := unkE_zero E0
 have hon := chk_on E2
 obtain ⟨⟨n1, n2⟩, n3, n4⟩ := chk_zero E2
 obtain ⟨hs, hpl⟩ := fltE_srt E1
 obtain ⟨O, hO⟩ : ∃ O, O = (hend f.plt).out := ⟨_, rfl⟩
 have hOl : ∀ q, (O q).length ≤ 1000 := fun q => by rw [hO]; exact Nat.le_trans (hend_len _ _) hpl
 refine CallX.of (z73 f hpl hs []) [(6, 30)] rfl ⟨lr, SV.le_nilS, trivial⟩ trivial rfl rfl ?_
 rintro x rout ⟨rfl, rfl⟩
 refine ⟨rfl, ?_⟩
 conv => whnf
 repeat' (first | (refine br_intro ?_ ?_ <;> intro hb <;> (try simp only [brs] at hb) <;> conv => whnf) | (refine RegX.rule (id := 9) hT rfl [] oTOwA43_9 (by decide +kernel) ?_; conv => whnf) | omega | (refine And.intro ?_ ?_; ((try dsimp only); first | omega | (refine szA rfl ?_; omega) | (refine szB rfl ?_; omega) | (unfold inI64; omega) | exact rfl | (simp only [lns] at *; omega) | decide | (unfold inI64; decide)); conv => whnf) | decide | assumption)
 rw [if_neg (by omega)]
 refine LoopX.rule hT (C := []) (ι := Nat) (fun i => i ≤ l.length) (fun i => mkSt [(1, .d (gates g)), (9, .ptr 9 0), (10, .buf 10), (25, .d (pass l)), (26, .d (.int .i64 l.length)), (27, .d (.int .i64 i))] [(9, .cells 137 [.mp 30, .d (hirs [])]), (30, mF O), (10, seqB 3 1 iF 0 (unkL f g l i))]) (fun i => l.length - i) 0 (by omega) ?_ ?_
 · refine (Entails.nil 10 10 3 1 (rowF iF 0 []) rfl rfl (by decide)).trans (Entails.mk' [(9, 9), (30, 30), (10, 10)] rfl rfl ⟨lr, lr, lr, lr, lr, lr, trivial⟩ ⟨rr, by rw [hO]; exact rr, rr, trivial⟩)
 intro i p1
 have e1 : (i : Int).toNat = i := Int.toNat_natCast i
 have hul := unkL_len (f := f) (g := g) (l := l) (n := i)
 rcases Nat.lt_or_ge i l.length with hi | hi
 · have hc2 := n4 (l.getD (i : Int).toNat pa0) (getD_mem (by omega))
   have ho2 := hon i hi
   rw [← e1] at ho2
   conv => whnf
   repeat' (first | (refine CallX.exact (s155 g (by omega) (l.getD (i : Int).toNat pa0) ⟨by omega, by omega⟩ (fun x hx => by have := n2 x hx; omega) ho2.1) rfl rfl ?_; rotate_right; conv => whnf) | (refine CallX.of (z116 (fun p => !(O p).isEmpty) (fun p => vF (O p)) (O (l.getD (i : Int).toNat pa0).plate) [] (l.getD (i : Int).toNat pa0).plate (trueT g (l.getD (i : Int).toNat pa0)) (Nat.le_trans (hOl _) (by decide)) (vF_or _)) [(1000001, 30)] rfl ⟨lr, lr, lr, trivial⟩ ⟨rr, trivial⟩ rfl rfl ?_; rintro x rout ⟨rfl, rfl⟩; refine ⟨rfl, ?_⟩; conv => whnf) | (refine br_intro ?_ ?_ <;> intro hb <;> (try simp only [brs] at hb) <;> conv => whnf) | (refine RegX.rule (id := 9) hT rfl [] oTOwA43_9 (by decide +kernel) ?_; conv => whnf) | omega | (refine And.intro ?_ ?_; ((try dsimp only); first | omega | (refine szA rfl ?_; omega) | (refine szB rfl ?_; omega) | (unfold inI64; omega) | exact rfl | (simp only [lns] at *; omega) | decide | (unfold inI64; decide)); conv => whnf) | decide | assumption)
   all_goals try (exfalso; omega)
   · have hB : unkB f g l i = true := by unfold unkB; rw [← hO]; simpa using hb
     refine ⟨i + 1, by omega, by omega, Entails.mk' [(9, 9), (30, 30), (10, 43)] rfl rfl ⟨lr, lr, lr, lr, lr, lr, trivial⟩ ⟨rr, rr, ?_, trivial⟩⟩
     rw [unkL_succ, if_pos hB]; exact Res.le_snocF (by rfl)
   · have hB : unkB f g l i = false := by unfold unkB; rw [← hO]; simpa using hb
     refine ⟨i + 1, by omega, by omega, Entails.mk' [(9, 9), (30, 30), (10, 10)] rfl rfl ⟨lr, lr, lr, lr, lr, lr, trivial⟩ ⟨rr, rr, ?_, trivial⟩⟩
     rw [unkL_succ, if_neg (by rw [hB]; simp), List.append_nil]; exact rr
 have hil : i = l.length := by omega
 subst hil
 conv => whnf
 repeat' (first | (refine br_intro ?_ ?_ <;> intro hb <;> (try simp only [brs] at hb) <;> conv => whnf) | (refine RegX.rule (id := 9) hT rfl [] oTOwA43_9 (by decide +kernel) ?_; conv => whnf) | omega | (refine And.intro ?_ ?_; ((try dsimp only); first | omega | (refine szA rfl ?_; omega) | (refine szB rfl ?_; omega) | (unfold inI64; omega) | exact rfl | (simp only [lns] at *; omega) | decide | (unfold inI64; decide)); conv => whnf) | decide | assumption)
 all_goals try (exfalso; omega)
 refine .freeze _ 10 3 1 _ _ rfl (.weak _ ?_)
 conv => whnf
 exact ⟨.tup [.d (ints (unkL f g l l.length)), .d (.int .i64 0)], [], SV.le_tup ⟨lr, lr, trivial⟩, ⟨rfl, rfl⟩, trivial⟩
section
variable {v : List UInt8} {a b : Int} {l : List Hir}
end
def oTOwB48_5 : List (Nat × List Nat) := [(0, []), (1, [0]), (2, [0]), (3, [0, 1, 2]), (4, [0, 1, 2, 3]), (5, [0, 1, 2]), (6, []), (7, []), (8, []), (9, [8]), (10, [9]), (11, [])]
def ownE (f : Flt) (h : List Hir) (p : List UInt8) (t : Int) : Int := firstE [fltE f, hirsE h, if (!isPlateB p) = true then 3 else 0, if 0 ≤ t ∧ t ≤ 5761439 then 0 else 1]
theorem ownE_eq (f : Flt) (h : List Hir) (p : List UInt8) (t : Int) : firstE [offE f h, if (!isPlateB p) = true then 3 else 0, if 0 ≤ t ∧ t ≤ 5761439 then 0 else 1] = ownE f h p t := by
 unfold ownE offE
 simp only [firstE]
 grind
theorem ownE_zero {f : Flt} {h : List Hir} {p : List UInt8} {t : Int} (q : ownE f h p t = 0) : fltE f = 0 ∧ hirsE h = 0 ∧ isPlateB p = true ∧ 0 ≤ t ∧ t ≤ 5761439 := by
 unfold ownE at q
 simp only [firstE] at q
 grind
set_option maxHeartbeats 4000000 in
theorem z42 (f : Flt) (hk : fltOk f) (h : List Hir) (hh : hiOk h) (hg : ∀ x ∈ h, x.legs.length ≤ 2^40) (p : List UInt8) (hp : p.length ≤ 2^40) (t : Int) :
 FSpec Tryz.prog 42 [flt f, .d (hirs h), .d (.str p), .d (.int .i64 t)] [] (fun y r => y = (if ownE f h p t ≠ 0 then .tup [.d (.str []), .d (.str []), .d (.int .i64 (ownE f h p t))] else .tup [.d (.str (wearV f.plt p t)), .d (.str (ownR f.plt h p t)), .d (.int .i64 0)]) ∧ r = []) := by
 have h3 := s105 [offE f h, if (!isPlateB p) = true then 3 else 0, if 0 ≤ t ∧ t ≤ 5761439 then 0 else 1] (by simp)
 rw [ownE_eq] at h3
 have hhl : h.length ≤ 2^40 := hh.1
 refine spec_of hT (C := []) Tryz.func42 rfl Tryz.call42 rfl rfl rfl ?_
 conv => whnf
 repeat' (first | (refine CallX.exact (z72 f hk h hh) rfl rfl ?_; rotate_right; conv => whnf) | (refine CallX.exact (s185 p hp) rfl rfl ?_; rotate_right; conv => whnf) | (refine CallX.exact (s107 _ _) rfl rfl ?_; rotate_right; conv => whnf) | (refine CallX.exact (sMoment t) rfl rfl ?_; rotate_right; conv => whnf) | (refine CallX.pure h3 ⟨SV.le_lit (by rfl) (by rfl), trivial⟩ rfl ?_; conv => whnf) | (refine br_intro ?_ ?_ <;> intro hb <;> (try simp only [brs] at hb) <;> conv => whnf) | omega | (refine And.intro ?_ ?_; ((try dsimp only); first | omega | (refine szA rfl ?_; omega) | (refine szB rfl ?_; omega) | (unfold inI64; omega) | exact rfl | (simp only [lns] at *; omega) | decide | (unfold inI64; decide)); conv => whnf) | decide | assumption)
 · refine .ret _ ?_
   conv => whnf
   refine ⟨[], ⟨?_, rfl⟩, trivial⟩
   rw [if_pos hb]
   rfl
 have E0 : ownE f h p t = 0 := hb
 obtain ⟨E1, E2, _, t1, t2⟩ := ownE_zero E0
 obtain ⟨hs, hpl⟩ := fltE_srt E1
 have hw := look_wear E1 (by omega : t < 5761440) p
 have hown := own_key E1 E2 (by omega : t < 5761440) p
 obtain ⟨O, hO⟩ : ∃ O, O = (hend f.plt).out := ⟨_, rfl⟩
 have hOl : ∀ q, (O q).length ≤ 1000 := fun q => by rw [hO]; exact Nat.le_trans (hend_len _ _) hpl
 have hbd := ownK_bd (O p) h t
 refine CallX.of (z73 f hpl hs h) [(6, 31)] rfl ⟨lr, lr, trivial⟩ trivial rfl rfl ?_
 rintro x rout ⟨rfl, rfl⟩
 refine ⟨rfl, ?_⟩
 rw [← hO]
 rw [← hO] at hw hown
 conv => whnf
 repeat' (first | (refine CallX.of (z74 (fun p => !(O p).isEmpty) (fun p => vF (O p)) (O p) h hhl hg p t (Nat.le_trans (hOl _) (by decide)) (vF_or _)) [(1000001, 31)] rfl ⟨lr, lr, lr, trivial⟩ ⟨rr, trivial⟩ rfl rfl ?_; rintro x rout ⟨rfl, rfl⟩; refine ⟨rfl, ?_⟩; conv => whnf) | (refine CallX.of (z113 (fun p => !(O p).isEmpty) (fun p => vF (O p)) h (ownK (O p) h t) hbd.2) [(1000001, 31)] rfl ⟨lr, lr, trivial⟩ ⟨rr, trivial⟩ rfl rfl ?_; rintro x rout ⟨rfl, rfl⟩; refine ⟨rfl, ?_⟩; conv => whnf) | (refine br_intro ?_ ?_ <;> intro hb <;> (try simp only [brs] at hb) <;> conv => whnf) | omega | (refine And.intro ?_ ?_; ((try dsimp only); first | omega | (refine szA rfl ?_; omega) | (refine szB rfl ?_; omega) | (unfold inI64; omega) | exact rfl | (simp only [lns] at *; omega) | decide | (unfold inI64; decide)); conv => whnf) | decide | assumption)
 rw [if_neg (by omega)]
 refine .ret _ ?_
 conv => whnf
 refine ⟨[], ⟨congrArg SV.tup ?_, rfl⟩, trivial⟩
 repeat' (refine cons_eq ?_ ?_)
 all_goals (conv => lhs; whnf)
 all_goals try (with_reducible rfl)
 · rw [hw]
 · rcases hown with ⟨q1, q2⟩ | ⟨q1, q2, _, _⟩
   · rw [if_pos q1, q2]
   · rw [if_neg (by omega), q2]
set_option maxHeartbeats 4000000 in
theorem z48 (f : Flt) (g : List Gate) (l : List Pas) (E0 : unkE f g l = 0) :
 FSpec Tryz.prog 48 [flt f, .d (gates g), .d (pass l)] [] (fun y r => y = .d (ints (unkL f g l l.length)) ∧ r = []) := by
 obtain ⟨E1, E2⟩ := unkE_zero E0
 have hon := chk_on E2
 obtain ⟨⟨n1, n2⟩, n3, n4⟩ := chk_zero E2
 obtain ⟨hs, hpl⟩ := fltE_srt E1
 refine spec_of hT (C := []) Tryz.func48 rfl Tryz.call48 rfl rfl rfl ?_
 conv => whnf
 repeat' (first | (refine br_intro ?_ ?_ <;> intro hb <;> (try simp only [brs] at hb) <;> conv => whnf) | (refine RegX.rule (id := 5) hT rfl [] oTOwB48_5 (by decide +kernel) ?_; conv => whnf) | omega | (refine And.intro ?_ ?_; ((try dsimp only); first | omega | (refine szA rfl ?_; omega) | (refine szB rfl ?_; omega) | (unfold inI64; omega) | exact rfl | (simp only [lns] at *; omega) | decide | (unfold inI64; decide)); conv => whnf) | decide | assumption)
 refine LoopX.rule hT (C := []) (ι := Nat) (fun i => i ≤ l.length) (fun i => mkSt [(1, .d (gates g)), (3, .ptr 3 0), (7, .buf 7), (12, .d (pass l)), (13, .d (.int .i64 l.length)), (14, .d (.int .i64 i))] [(3, fltC f), (7, seqB 3 1 iF 0 (unkL f g l i))]) (fun i => l.length - i) 0 (by omega) ?_ ?_
 · exact (Entails.nil 7 7 3 1 (rowF iF 0 []) rfl rfl (by decide)).trans (Entails.mk' [(3, 3), (7, 7)] rfl rfl ⟨lr, lr, lr, lr, lr, lr, trivial⟩ ⟨rr, rr, trivial⟩)
 intro i p1
 have e1 : (i : Int).toNat = i := Int.toNat_natCast i
 have hul := unkL_len (f := f) (g := g) (l := l) (n := i)
 rcases Nat.lt_or_ge i l.length with hi | hi
 · have hc2 := n4 (l.getD (i : Int).toNat pa0) (getD_mem (by omega))
   have ho2 := hon i hi
   have ht : trueT g (l.getD (i : Int).toNat pa0) = (l.getD (i : Int).toNat pa0).tm - (gateP g (l.getD (i : Int).toNat pa0)).clock := gateP_true (by rw [e1]; exact ho2.1)
   rw [← e1] at ho2
   have h94 := s94 g (by omega) (l.getD (i : Int).toNat pa0) ⟨by omega, by omega⟩ ⟨by omega, by omega⟩
   rw [← ht] at h94
   have hlw := look_wear E1 (by omega : trueT g (l.getD (i : Int).toNat pa0) < 5761440) (l.getD (i : Int).toNat pa0).plate
   have hws := wear_some E1 (l.getD (i : Int).toNat pa0).plate (trueT g (l.getD (i : Int).toNat pa0))
   rw [← hlw] at hws
   conv => whnf
   repeat' (first | (refine CallX.exact (h94) rfl rfl ?_; rotate_right; conv => whnf) | (refine CallX.exact (z121 f hpl (l.getD (i : Int).toNat pa0).plate (trueT g (l.getD (i : Int).toNat pa0))) rfl rfl ?_; rotate_right; conv => whnf) | (refine br_intro ?_ ?_ <;> intro hb <;> (try simp only [brs] at hb) <;> conv => whnf) | (refine RegX.rule (id := 5) hT rfl [] oTOwB48_5 (by decide +kernel) ?_; conv => whnf) | omega | (refine And.intro ?_ ?_; ((try dsimp only); first | omega | (refine szA rfl ?_; omega) | (refine szB rfl ?_; omega) | (unfold inI64; omega) | exact rfl | (simp only [lns] at *; omega) | decide | (unfold inI64; decide)); conv => whnf) | decide | assumption)
   all_goals try (exfalso; omega)
   · have hB : unkB f g l i = true := by unfold unkB; rw [e1] at hws; rw [← hws]; simpa using hb
     refine ⟨i + 1, by omega, by omega, Entails.mk' [(3, 3), (7, 34)] rfl rfl ⟨lr, lr, lr, lr, lr, lr, trivial⟩ ⟨rr, ?_, trivial⟩⟩
     rw [unkL_succ, if_pos hB]; exact Res.le_snocF (by rfl)
   · have hB : unkB f g l i = false := by unfold unkB; rw [e1] at hws; rw [← hws]; simpa using hb
     refine ⟨i + 1, by omega, by omega, Entails.mk' [(3, 3), (7, 7)] rfl rfl ⟨lr, lr, lr, lr, lr, lr, trivial⟩ ⟨rr, ?_, trivial⟩⟩
     rw [unkL_succ, if_neg (by rw [hB]; simp), List.append_nil]; exact rr
 have hil : i = l.length := by omega
 subst hil
 conv => whnf
 repeat' (first | (refine br_intro ?_ ?_ <;> intro hb <;> (try simp only [brs] at hb) <;> conv => whnf) | (refine RegX.rule (id := 5) hT rfl [] oTOwB48_5 (by decide +kernel) ?_; conv => whnf) | omega | (refine And.intro ?_ ?_; ((try dsimp only); first | omega | (refine szA rfl ?_; omega) | (refine szB rfl ?_; omega) | (unfold inI64; omega) | exact rfl | (simp only [lns] at *; omega) | decide | (unfold inI64; decide)); conv => whnf) | decide | assumption)
 all_goals try (exfalso; omega)
 refine .freeze _ 7 3 1 _ _ rfl (.weak _ ?_)
 conv => whnf
 exact ⟨.d (ints (unkL f g l l.length)), [], lr, ⟨rfl, rfl⟩, trivial⟩
theorem z27 (t : Int) : FSpec Tryz.prog 27 [.d (.int .i64 t)] [] (fun x r => x = .d (.int .i64 (if 0 ≤ t ∧ t ≤ 5761439 then 0 else 1)) ∧ r = []) := by
 refine spec_of hT (C := []) Tryz.func27 rfl Tryz.call27 rfl rfl rfl ?_
 conv => whnf
 repeat' (first | (refine CallX.exact (s133 _) rfl rfl ?_; rotate_right; conv => whnf) | (refine CallX.exact (s20 _ _) rfl rfl ?_; rotate_right; conv => whnf) | (refine br_intro ?_ ?_ <;> intro hb <;> (try simp only [brs] at hb) <;> conv => whnf) | omega | (refine And.intro ?_ ?_; ((try dsimp only); first | omega | (refine szA rfl ?_; omega) | (refine szB rfl ?_; omega) | (unfold inI64; omega) | exact rfl | (simp only [lns] at *; omega) | decide | (unfold inI64; decide)); conv => whnf) | decide | assumption)
 refine .ret _ ?_
 conv => whnf
 refine ⟨[], ⟨?_, rfl⟩, trivial⟩
 conv => lhs; whnf
 congr 2
 grind
theorem hirs_lgSeq {l : List Hir} (h : hirsE l = 0) : ∀ x ∈ l, lgSeq x.legs := fun x hx => lgSeq_of ((hirs_seq h).1 x hx)
set_option maxHeartbeats 8000000 in
theorem z5 (n : Nat) (L : Nat → Int) (hn : n ≤ maxLen) (hl : ∀ i, -2^63 ≤ L i ∧ L i < 2^63) : FSpec Tryz.prog 5 [.d (.ro 1 n fun i => [.int .i64 (L i)])] [] (fun x r => x = .d (.bool true) ∧ r = []) := by
 have hL : Rok n L := ⟨hn, hl⟩
 refine spec_of hT (C := []) Tryz.func5 rfl Tryz.call5 rfl rfl rfl ?_
 conv => whnf
 repeat' (first | (refine CallX.of (sFlt n L hL _ ?_ ?_) [(1000000, 21)] rfl ⟨lr, trivial⟩ ⟨rr, trivial⟩ rfl rfl ?_; rotate_right; rintro xx rout ⟨⟨f, hf, rfl⟩, ⟨c, c1, c2, rfl⟩⟩; refine ⟨rfl, ?_⟩; conv => whnf) | (refine CallX.of (s64 n L hL _ ?_ ?_ 0 3 ?_ ?_ ?_ ?_) [(1000000, 21)] rfl ⟨lr, lr, lr, trivial⟩ ⟨rr, trivial⟩ rfl rfl ?_; rotate_right; rintro x rout ⟨⟨m, hm0, hm1, rfl⟩, ⟨c, c1, c2, rfl⟩⟩; refine ⟨rfl, ?_⟩; conv => whnf) | (refine CallX.of (sHirs n L hL _ ?_ ?_ m ?_ ?_) [(1000000, 21)] rfl ⟨lr, lr, trivial⟩ ⟨rr, trivial⟩ rfl rfl ?_; rotate_right; rintro xx rout ⟨⟨h, hl5, rfl⟩, ⟨c, c5, c6, rfl⟩⟩; refine ⟨rfl, ?_⟩; conv => whnf) | (refine CallX.of (s62 n L hL _ ?_ ?_) [(1000000, 21)] rfl ⟨lr, trivial⟩ ⟨rr, trivial⟩ rfl rfl ?_; rotate_right; rintro xx rout ⟨⟨g, hg, rfl⟩, ⟨c, c7, c8, rfl⟩⟩; refine ⟨rfl, ?_⟩; conv => whnf) | (refine CallX.of (s64 n L hL _ ?_ ?_ 0 6 ?_ ?_ ?_ ?_) [(1000000, 21)] rfl ⟨lr, lr, lr, trivial⟩ ⟨rr, trivial⟩ rfl rfl ?_; rotate_right; rintro x rout ⟨⟨m2, hm3, hm4, rfl⟩, ⟨c, c1, c2, rfl⟩⟩; refine ⟨rfl, ?_⟩; conv => whnf) | (refine CallX.of (s63 n L hL _ ?_ ?_ m2 ?_ ?_) [(1000000, 21)] rfl ⟨lr, lr, trivial⟩ ⟨rr, trivial⟩ rfl rfl ?_; rotate_right; rintro xx rout ⟨⟨x, hx, rfl⟩, ⟨c, c9, c10, rfl⟩⟩; refine ⟨rfl, ?_⟩; conv => whnf) | (refine CallX.of (sPlText n L hL _ ?_ ?_) [(1000000, 21)] rfl ⟨lr, trivial⟩ ⟨rr, trivial⟩ rfl rfl ?_; rotate_right; rintro xx rout ⟨⟨p, hp8, rfl⟩, ⟨c, c11, c12, rfl⟩⟩; refine ⟨rfl, ?_⟩; conv => whnf) | (refine CallX.of (s33 n L hL _ ?_ ?_ [0, 50, 100, 160, 300, 1500, -1] ?_ ?_) [(1000000, 21)] rfl ⟨lr, SV.le_lit rfl rfl, trivial⟩ ⟨rr, trivial⟩ rfl rfl ?_; rotate_right; rintro x rout ⟨⟨t, ht, rfl⟩, ⟨c, c1, c2, rfl⟩⟩; refine ⟨rfl, ?_⟩; conv => whnf) | (refine br_intro ?_ ?_ <;> intro hb <;> (try simp only [brs] at hb) <;> conv => whnf) | omega | (refine And.intro ?_ ?_; ((try dsimp only); first | omega | (refine szA rfl ?_; omega) | (refine szB rfl ?_; omega) | (unfold inI64; omega) | exact rfl | (simp only [lns] at *; omega) | decide | (unfold inI64; decide)); conv => whnf) | decide | assumption)
 have hok : hiOk h := ⟨by have := hl5.1; omega, fun y hy => hiB_K (hl5.2 y hy) (by omega)⟩
 have hlg : ∀ y ∈ h, y.legs.length ≤ 2^40 := fun y hy => (hok.2 y hy).2.2.1
 have hgk : gOk g := ⟨by have := hg.1; omega, fun y hy => ⟨by have := (hg.2 y hy).1; omega, by have := (hg.2 y hy).2; omega⟩⟩
 have hxk : pOk x := ⟨by have := hx.1; omega, fun y hy => ⟨by have := (hx.2 y hy).1; omega, by have := (hx.2 y hy).2.1; omega⟩⟩
 have hpl : p.length ≤ 2^40 := by omega
 have C42 := z42 f hf.ok h hok hlg p hpl t
 have C43 := z43 f hf.ok g x hgk hxk
 have C21 := z21 f hf.ok
 have C22 := z81 h hok
 have C45 := s67 g x hgk hxk
 have CE1 := s17 [fltE f, hirsE h, if (!isPlateB p) = true then 3 else 0, if 0 ≤ t ∧ t ≤ 5761439 then 0 else 1] (by simp)
 rw [show firstE [fltE f, hirsE h, if (!isPlateB p) = true then 3 else 0, if 0 ≤ t ∧ t ≤ 5761439 then 0 else 1] = ownE f h p t from rfl] at CE1
 have CE2 := s17 [fltE f, chkE g x] (by simp)
 rw [show firstE [fltE f, chkE g x] = unkE f g x from rfl] at CE2
 have hul := unkL_len (f := f) (g := g) (l := x) (n := x.length)
 have C47 := s37 (unkL f g x x.length) (unkL f g x x.length) (by have := hxk.1; omega) (by have := hxk.1; omega)
 by_cases E : ownE f h p t = 0
 · obtain ⟨E1, E2, E3, _⟩ := ownE_zero E
   have C46 := z46 f (fltE_srt E1).2 h hok.1 (hirs_lgSeq E2) hlg p t
   rw [if_neg (by omega)] at C42
   rw [E] at CE1
   by_cases U : unkE f g x = 0
   · have C48 := z48 f g x U
     rw [if_neg (by omega)] at C43
     rw [U] at CE2
     repeat' (first | (refine CallX.exact (C42) rfl rfl ?_; rotate_right; conv => whnf) | (refine CallX.exact (C43) rfl rfl ?_; rotate_right; conv => whnf) | (refine CallX.exact (C21) rfl rfl ?_; rotate_right; conv => whnf) | (refine CallX.exact (C22) rfl rfl ?_; rotate_right; conv => whnf) | (refine CallX.exact (z44 p hpl) rfl rfl ?_; rotate_right; conv => whnf) | (refine CallX.exact (s20 _ _) rfl rfl ?_; rotate_right; conv => whnf) | (refine CallX.exact (z27 t) rfl rfl ?_; rotate_right; conv => whnf) | (refine CallX.pure CE1 ⟨SV.le_lit (by rfl) (by rfl), trivial⟩ rfl ?_; conv => whnf) | (refine CallX.exact (C45) rfl rfl ?_; rotate_right; conv => whnf) | (refine CallX.pure CE2 ⟨SV.le_lit (by rfl) (by rfl), trivial⟩ rfl ?_; conv => whnf) | (refine CallX.exact (C46) rfl rfl ?_; rotate_right; conv => whnf) | (refine CallX.exact (C48) rfl rfl ?_; rotate_right; conv => whnf) | (refine CallX.exact (C47) rfl rfl ?_; rotate_right; conv => whnf) | (refine CallX.exact (s24) rfl rfl ?_; rotate_right; conv => whnf) | (refine br_intro ?_ ?_ <;> intro hb <;> (try simp only [brs] at hb) <;> conv => whnf) | omega | (refine And.intro ?_ ?_; ((try dsimp only); first | omega | (refine szA rfl ?_; omega) | (refine szB rfl ?_; omega) | (unfold inI64; omega) | exact rfl | (simp only [lns] at *; omega) | decide | (unfold inI64; decide)); conv => whnf) | decide | assumption)
     refine .ret _ ?_
     conv => whnf
     refine ⟨[], ⟨?_, rfl⟩, trivial⟩
     conv => lhs; whnf
   · rw [if_pos U] at C43
     generalize unkE f g x = e at C43 CE2 U
     repeat' (first | (refine CallX.exact (C42) rfl rfl ?_; rotate_right; conv => whnf) | (refine CallX.exact (C43) rfl rfl ?_; rotate_right; conv => whnf) | (refine CallX.exact (C21) rfl rfl ?_; rotate_right; conv => whnf) | (refine CallX.exact (C22) rfl rfl ?_; rotate_right; conv => whnf) | (refine CallX.exact (z44 p hpl) rfl rfl ?_; rotate_right; conv => whnf) | (refine CallX.exact (s20 _ _) rfl rfl ?_; rotate_right; conv => whnf) | (refine CallX.exact (z27 t) rfl rfl ?_; rotate_right; conv => whnf) | (refine CallX.pure CE1 ⟨SV.le_lit (by rfl) (by rfl), trivial⟩ rfl ?_; conv => whnf) | (refine CallX.exact (C45) rfl rfl ?_; rotate_right; conv => whnf) | (refine CallX.pure CE2 ⟨SV.le_lit (by rfl) (by rfl), trivial⟩ rfl ?_; conv => whnf) | (refine CallX.exact (C46) rfl rfl ?_; rotate_right; conv => whnf) | (refine CallX.exact (s24) rfl rfl ?_; rotate_right; conv => whnf) | (refine br_intro ?_ ?_ <;> intro hb <;> (try simp only [brs] at hb) <;> conv => whnf) | omega | (refine And.intro ?_ ?_; ((try dsimp only); first | omega | (refine szA rfl ?_; omega) | (refine szB rfl ?_; omega) | (unfold inI64; omega) | exact rfl | (simp only [lns] at *; omega) | decide | (unfold inI64; decide)); conv => whnf) | decide | assumption)
     refine .ret _ ?_
     conv => whnf
     refine ⟨[], ⟨?_, rfl⟩, trivial⟩
     conv => lhs; whnf
 · rw [if_pos E] at C42
   generalize ownE f h p t = eo at C42 CE1 E
   by_cases U : unkE f g x = 0
   · have C48 := z48 f g x U
     rw [if_neg (by omega)] at C43
     rw [U] at CE2
     repeat' (first | (refine CallX.exact (C42) rfl rfl ?_; rotate_right; conv => whnf) | (refine CallX.exact (C43) rfl rfl ?_; rotate_right; conv => whnf) | (refine CallX.exact (C21) rfl rfl ?_; rotate_right; conv => whnf) | (refine CallX.exact (C22) rfl rfl ?_; rotate_right; conv => whnf) | (refine CallX.exact (z44 p hpl) rfl rfl ?_; rotate_right; conv => whnf) | (refine CallX.exact (s20 _ _) rfl rfl ?_; rotate_right; conv => whnf) | (refine CallX.exact (z27 t) rfl rfl ?_; rotate_right; conv => whnf) | (refine CallX.pure CE1 ⟨SV.le_lit (by rfl) (by rfl), trivial⟩ rfl ?_; conv => whnf) | (refine CallX.exact (C45) rfl rfl ?_; rotate_right; conv => whnf) | (refine CallX.pure CE2 ⟨SV.le_lit (by rfl) (by rfl), trivial⟩ rfl ?_; conv => whnf) | (refine CallX.exact (C48) rfl rfl ?_; rotate_right; conv => whnf) | (refine CallX.exact (C47) rfl rfl ?_; rotate_right; conv => whnf) | (refine CallX.exact (s24) rfl rfl ?_; rotate_right; conv => whnf) | (refine br_intro ?_ ?_ <;> intro hb <;> (try simp only [brs] at hb) <;> conv => whnf) | omega | (refine And.intro ?_ ?_; ((try dsimp only); first | omega | (refine szA rfl ?_; omega) | (refine szB rfl ?_; omega) | (unfold inI64; omega) | exact rfl | (simp only [lns] at *; omega) | decide | (unfold inI64; decide)); conv => whnf) | decide | assumption)
     refine .ret _ ?_
     conv => whnf
     refine ⟨[], ⟨?_, rfl⟩, trivial⟩
     conv => lhs; whnf
   · rw [if_pos U] at C43
     generalize unkE f g x = e at C43 CE2 U
     repeat' (first | (refine CallX.exact (C42) rfl rfl ?_; rotate_right; conv => whnf) | (refine CallX.exact (C43) rfl rfl ?_; rotate_right; conv => whnf) | (refine CallX.exact (C21) rfl rfl ?_; rotate_right; conv => whnf) | (refine CallX.exact (C22) rfl rfl ?_; rotate_right; conv => whnf) | (refine CallX.exact (z44 p hpl) rfl rfl ?_; rotate_right; conv => whnf) | (refine CallX.exact (s20 _ _) rfl rfl ?_; rotate_right; conv => whnf) | (refine CallX.exact (z27 t) rfl rfl ?_; rotate_right; conv => whnf) | (refine CallX.pure CE1 ⟨SV.le_lit (by rfl) (by rfl), trivial⟩ rfl ?_; conv => whnf) | (refine CallX.exact (C45) rfl rfl ?_; rotate_right; conv => whnf) | (refine CallX.pure CE2 ⟨SV.le_lit (by rfl) (by rfl), trivial⟩ rfl ?_; conv => whnf) | (refine CallX.exact (s24) rfl rfl ?_; rotate_right; conv => whnf) | (refine br_intro ?_ ?_ <;> intro hb <;> (try simp only [brs] at hb) <;> conv => whnf) | omega | (refine And.intro ?_ ?_; ((try dsimp only); first | omega | (refine szA rfl ?_; omega) | (refine szB rfl ?_; omega) | (unfold inI64; omega) | exact rfl | (simp only [lns] at *; omega) | decide | (unfold inI64; decide)); conv => whnf) | decide | assumption)
     refine .ret _ ?_
     conv => whnf
     refine ⟨[], ⟨?_, rfl⟩, trivial⟩
     conv => lhs; whnf
end Go.Proofs.YtcjfniddeibbhaaGreatDoor
