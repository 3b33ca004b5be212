/- PlansLeast is proved: for every input the law returns true, and its argument reads afterwards as it read before. Conditions: those of the given row alone. -/
import Derived.Test.YteehenjdddlnnaaDoorPlConTwo
import Derived.Test.YteehenjdddlnnaaDoorPlConOne
import Derived.Test.YteehenjdddlnnaaDoorPlEngTwo
set_option linter.unusedVariables false
set_option linter.unusedSimpArgs false
set_option maxRecDepth 20000
namespace Go.Proofs.YteehenjdddlnnaaDoor
open Go Go.Eng
theorem wanS_succ (n : List Ned) (i : Nat) : wanS n (i + 1) = wanS n i ++ (if manyP n i < 0 then [(n.getD i nd0).st] else []) := by
 unfold wanS
 rw [filK_succ, List.map_append]
 congr 1
 unfold dstP
 by_cases h : manyP n i < 0
 · rw [if_pos h, if_pos (decide_eq_true h)]; rfl
 · rw [if_neg h, if_neg (by simpa using h)]; rfl
theorem byS_succ (n : List Ned) (i : Nat) : byS n (i + 1) = byS n i ++ (if manyP n i < 0 then [UInt8.ofNat (0 - manyP n i).toNat] else []) := by
 unfold byS
 rw [filK_succ, List.map_append]
 congr 1
 unfold dstP
 by_cases h : manyP n i < 0
 · rw [if_pos h, if_pos (decide_eq_true h)]; rfl
 · rw [if_neg h, if_neg (by simpa using h)]; rfl
theorem byS_len (n : List Ned) (i : Nat) : (byS n i).length = (wanS n i).length := by unfold byS wanS; rw [List.length_map, List.length_map]
theorem wanS_len (n : List Ned) (i : Nat) : (wanS n i).length ≤ i := by unfold wanS; rw [List.length_map]; exact filK_len _ _
structure NowI (n : List Ned) (r : List Roa) (i : Nat) (M : PMap Mov) : Prop where
 min : MinOf mvC M (Full (wanS n n.length).length (byS n n.length) (firstL (stnN n r) (filK (srcP n) i).length))
 bnd : bndM (wanS n n.length).length (i * (wanS n n.length).length) ((i : Int) * 20000000) M
theorem nowI_init (n : List Ned) (r : List Roa) : NowI n r 0 (fun τ => if τ = byS n n.length then some ⟨[], 0⟩ else none) := by
 refine ⟨now_init mvC mvC_ord _ _, fun σ q h => ?_⟩
 split at h
 · rename_i e
   cases h
   refine ⟨⟨by simp, fun m hm => by cases hm⟩, ⟨Int.le_refl _, by simp⟩, by rw [e]; exact byS_len _ _⟩
 · cases h
theorem NowI.skip {n : List Ned} {r : List Roa} {i : Nat} {M : PMap Mov} (h : NowI n r i M) (hp : ¬ 0 < manyP n i) : NowI n r (i + 1) M := by
 have e : filK (srcP n) (i + 1) = filK (srcP n) i := by
  rw [filK_succ, if_neg (by unfold srcP; simpa using hp), List.append_nil]
 refine ⟨by rw [e]; exact h.min, fun σ q hq => ?_⟩
 obtain ⟨⟨h1, h2⟩, h3, h4⟩ := h.bnd σ q hq
 have e2 : (i + 1) * (wanS n n.length).length = i * (wanS n n.length).length + (wanS n n.length).length := Nat.succ_mul _ _
 exact ⟨⟨by omega, h2⟩, ⟨h3.1, by omega⟩, h4⟩
theorem NowI.next {n : List Ned} {r : List Roa} {i : Nat} {M : PMap Mov} (h : NowI n r i M) (hi : i < n.length) (hp : 0 < manyP n i) (hp2 : manyP n i ≤ 20) (hr : rdsE r = 0) {E : List (List UInt8 × Pla Mov)} (hE : ∀ σ p, (σ, p) ∈ E ↔ M σ = some p) :
 NowI n r (i + 1) (runPM mvC (stnN n r (filK (srcP n) i).length) (wanS n n.length).length E fun _ => none) := by
 have hs : srcP n i = true := decide_eq_true hp
 have hns := nsN_at hi hs
 have hlen : (filK (srcP n) (i + 1)).length = (filK (srcP n) i).length + 1 := by rw [filK_succ, if_pos hs, List.length_append]; rfl
 refine ⟨?_, ?_⟩
 · rw [hlen]
   exact now_step (num := fun m : Mov => m.many) mvC_ord (fun s hs k v => by obtain ⟨j, _, rfl⟩ := firstL_mem hs; rfl) _ h.min hE
 · have e2 : (i + 1) * (wanS n n.length).length = i * (wanS n n.length).length + (wanS n n.length).length := Nat.succ_mul _ _
   have hmany : (stnN n r (filK (srcP n) i).length).many = manyP n i := by show manyP n (nsN n _) = _; rw [hns]
   have key : ∀ E' : List (List UInt8 × Pla Mov), (∀ e ∈ E', M e.1 = some e.2) → ∀ N, bndM (wanS n n.length).length ((i + 1) * (wanS n n.length).length) (((i + 1 : Nat) : Int) * 20000000) N → bndM (wanS n n.length).length ((i + 1) * (wanS n n.length).length) (((i + 1 : Nat) : Int) * 20000000) (runPM mvC (stnN n r (filK (srcP n) i).length) (wanS n n.length).length E' N) := by
    intro E'
    induction E' with
    | nil => intro _ N hN; exact hN
    | cons e E' ih =>
      intro hE' N hN
      obtain ⟨⟨h1, h2⟩, h3, h4⟩ := h.bnd _ _ (hE' e (by simp))
      show bndM _ _ _ (runPM mvC _ _ E' (sendM mvC _ _ 0 e.1 _ e.2 N))
      refine ih (fun e' he' => hE' e' (by simp [he'])) _ ?_
      rw [hmany]
      exact sendM_c (sndO_at hi hs) hr _ 0 _ _ _ _ (Nat.zero_add _) h4 ⟨by omega, h2⟩ ⟨by omega, hp2⟩ h3.1 (by omega) hN
   exact key E (fun e he => (hE e.1 e.2).1 he) _ (fun σ q hq => by cases hq)
theorem Entails.froSlot {s : St} (i d kk n : Nat) (g : Nat → List DV) (hi : s.tmps i = .buf d) (hd : s.res d = some (.fro kk n g)) :
 Entails s (s.app ⟨some i, .d (.ro kk n g), [], []⟩) := by
 refine ⟨fun A a w => ?_⟩
 rintro ⟨h0, G, β, h⟩
 refine ⟨h0, G, β, h.sz, h.g0, h.e0, h.gw, h.gn, h.keep, fun j => ?_, h.rs, h.dj, h.og, h.sc⟩
 simp only [St.app, putT_apply]
 by_cases e : i = j
 · subst e
   simp only [if_true]
   have ht := h.tm i
   rw [hi] at ht
   generalize a.tmps.getD i Go.undef = v at ht
   obtain ⟨u, hu, hro⟩ := h.rs _ _ hd
   cases ht with | buf _ _ hb _ =>
   rw [hb] at hu; cases hu
   exact .d _ _ hro
 · rw [if_neg (by simp [e])]
   exact h.tm j
theorem bytes_zero (J : Nat) {g : Nat → List DV} (hg : ∀ i, g i = [.int .u8 0]) : bytesOf ((J : Int).toNat) g (List.replicate J 0) := by
 refine ⟨by simp, fun i hi => ?_⟩
 have hi : i < J := by simpa using hi
 rw [hg, List.getD_eq_getElem?_getD, List.getElem?_replicate, if_pos hi]; rfl
set_option maxHeartbeats 16000000 in
theorem p35 (n : List Ned) (r : List Roa) (hn : ndsE n = 0) (hr : rdsE r = 0) : FSpec Tryd.prog 11 [.d (neds n), .d (roas r)] []
 (fun y q => (∃ M, NowI n r n.length M ∧ y = pofV (M (List.replicate (wanS n n.length).length 0))) ∧ q = []) := by
 have hl := (nds_all hn).1
 have hrl := (rds_all hr).1
 have hmn := ned_many hn
 refine spec_of hT (C := [18]) Tryd.func11 rfl Tryd.call11 rfl rfl rfl ?_
 conv => whnf
 repeat' (first | (refine br_intro ?_ ?_ <;> intro hb <;> (try simp only [brs] at hb) <;> conv => whnf) | omega | (refine And.intro ?_ ?_; ((try dsimp only); first | omega | (refine szA rfl ?_; omega) | (refine szB rfl ?_; omega) | (unfold inI64; omega) | exact rfl | (simp only [lns] at *; omega) | decide | (unfold inI64; decide)); conv => whnf) | decide | assumption)
 refine LoopX.rule hT (C := [18]) (ι := Nat) (fun i => i ≤ n.length) (fun i => mkSt [(0, .d (neds n)), (1, .d (roas r)), (6, .buf 601), (7, .buf 602), (19, .d (neds n)), (20, .d (.int .i64 n.length)), (21, .d (.int .i64 i))] [(601, seqB 9 1 sF [] (wanS n i)), (602, seqB 5 1 byteD 0 (byS n i))]) (fun i => n.length - i) 0 (by show 0 ≤ _; omega) ?_ ?_
 · refine (Entails.nil 6 601 9 1 (rowF sF [] []) rfl rfl (by decide)).trans ?_
   exact Entails.mk' [(601, 601), (602, 18)] rfl rfl ⟨lr, lr, lr, lr, lr, lr, lr, trivial⟩ ⟨rr, Res.le_lit rfl rfl, trivial⟩
 rintro i hi
 have hi : i ≤ n.length := hi
 have e1 : (i : Int).toNat = i := Int.toNat_natCast i
 have hmi := hmn i
 unfold manyP at hmi
 rw [← e1] at hmi
 have hwl := wanS_len n i
 have hbl := byS_len n i
 rcases Nat.lt_or_ge i n.length with hin | hin
 · conv => whnf
   repeat' (first | (refine br_intro ?_ ?_ <;> intro hb <;> (try simp only [brs] at hb) <;> conv => whnf) | omega | (refine And.intro ?_ ?_; ((try dsimp only); first | omega | (refine szA rfl ?_; omega) | (refine szB rfl ?_; omega) | (unfold inI64; omega) | exact rfl | (simp only [lns] at *; omega) | decide | (unfold inI64; decide)); conv => whnf) | decide | assumption)
   all_goals try (exfalso; omega)
   · have hbm : manyP n i < 0 := hb
     refine ⟨i + 1, by omega, by omega, Entails.mk' [(601, 32), (602, 39)] rfl rfl ⟨lr, lr, lr, lr, lr, lr, lr, trivial⟩ ⟨?_, ?_, trivial⟩⟩
     · show Res.le _ (seqB 9 1 sF [] (wanS n (i + 1)))
       rw [wanS_succ, if_pos hbm]
       exact Res.le_snocF rfl
     · show Res.le _ (seqB 5 1 byteD 0 (byS n (i + 1)))
       rw [byS_succ, if_pos hbm]
       refine Res.le_snocF ?_
       have hv : IntKind.u8.wrap (0 - manyP n i) = ((UInt8.ofNat (0 - manyP n i).toNat).toNat : Int) := by
        have := hmn i
        rw [IntWalk.u8_in _ (by omega), UInt8.toNat_ofNat']; omega
       exact congrArg (fun z => [DV.int IntKind.u8 z]) hv
   · have hbm : ¬ manyP n i < 0 := by unfold manyP; omega
     refine ⟨i + 1, by omega, by omega, Entails.mk' [(601, 601), (602, 602)] rfl rfl ⟨lr, lr, lr, lr, lr, lr, lr, trivial⟩ ⟨?_, ?_, trivial⟩⟩
     · show Res.le _ (seqB 9 1 sF [] (wanS n (i + 1)))
       rw [wanS_succ, if_neg hbm, List.append_nil]; exact rr
     · show Res.le _ (seqB 5 1 byteD 0 (byS n (i + 1)))
       rw [byS_succ, if_neg hbm, List.append_nil]; exact rr
 · have hin : i = n.length := by omega
   rw [hin] at hwl hbl ⊢
   clear hmi
   conv => whnf
   repeat' (first | (refine ⟨byS n n.length, ⟨rfl, fun _ _ => rfl⟩, ?_⟩; conv => whnf) | (refine br_intro ?_ ?_ <;> intro hb <;> (try simp only [brs] at hb) <;> conv => whnf) | omega | (refine And.intro ?_ ?_; ((try dsimp only); first | omega | (refine szA rfl ?_; omega) | (refine szB rfl ?_; omega) | (unfold inI64; omega) | exact rfl | (simp only [lns] at *; omega) | decide | (unfold inI64; decide)); conv => whnf) | decide | assumption)
   all_goals try (exfalso; omega)
   refine LoopX.freeze 601 9 1 _ _ rfl ?_
   refine LoopX.rule hT (C := [18]) (ι := Nat × PMap Mov) (fun (i, M) => i ≤ n.length ∧ NowI n r i M) (fun (i, M) => mkSt [(1, .d (roas r)), (6, .d (strs (wanS n n.length))), (10, .mp 41), (46, .d (neds n)), (47, .d (.int .i64 n.length)), (48, .d (.int .i64 i))] [(41, pmR M)]) (fun (i, _) => n.length - i) (0, fun τ => if τ = byS n n.length then some ⟨[], 0⟩ else none) ⟨by show 0 ≤ _; omega, nowI_init n r⟩ ?_ ?_
   · refine (Entails.froSlot 6 601 1 _ _ rfl rfl).trans ?_
     exact Entails.mk' [(41, 41)] rfl rfl ⟨lr, lr, lr, lr, lr, lr, trivial⟩ ⟨pmR_one _, trivial⟩
   clear hin e1
   rintro ⟨i, M⟩ ⟨hi, hN⟩
   have hi : i ≤ n.length := hi
   have hN : NowI n r i M := hN
   have e1 : (i : Int).toNat = i := Int.toNat_natCast i
   have hmi := hmn i
   unfold manyP at hmi
   rw [← e1] at hmi
   rcases Nat.lt_or_ge i n.length with hin | hin
   · by_cases hpos : 0 < manyP n i
     · have hso := sndO_at (r := r) hin (decide_eq_true hpos)
       obtain ⟨s, hs⟩ : ∃ s, s = stnN n r (filK (srcP n) i).length := ⟨_, rfl⟩
       have hsm : s.many = (n.getD (i : Int).toNat nd0).many := by rw [hs, e1]; show manyP n (nsN n _) = _; rw [nsN_at hin (decide_eq_true hpos)]; rfl
       rw [← hs] at hso
       rw [← e1] at hso
       conv => whnf
       repeat' (first | (intro clock kb hkb; conv => whnf) | (refine br_intro ?_ ?_ <;> intro hb <;> (try simp only [brs] at hb) <;> conv => whnf) | omega | (refine And.intro ?_ ?_; ((try dsimp only); first | omega | (refine szA rfl ?_; omega) | (refine szB rfl ?_; omega) | (unfold inI64; omega) | exact rfl | (simp only [lns] at *; omega) | decide | (unfold inI64; decide)); conv => whnf) | decide | assumption)
       all_goals try (exfalso; unfold manyP at hpos; omega)
       refine LoopX.rule hT (C := [18]) (ι := List Nat × List (List UInt8 × Pla Mov)) (fun (seen, E) => (∀ e ∈ E, M e.1 = some e.2) ∧ (∀ σ b, ([DV.str σ], b) ∈ kb → b ∈ seen → ∃ p, (σ, p) ∈ E) ∧ mapB (runPM mvC s (wanS n n.length).length E fun _ => none))
        (fun (seen, E) => mkSt [(1, .d (roas r)), (6, .d (strs (wanS n n.length))), (12, .ptr 12 0), (13, .mp 55), (46, .d (neds n)), (47, .d (.int .i64 n.length)), (48, .d (.int .i64 i)), (57, .ptr 57 0)] [(41, .mapB false true [.str] [.nilsl, .int .i64 0] (pmH M) (pmV M) clock kb), (55, pmR (runPM mvC s (wanS n n.length).length E fun _ => none)), (57, .iter 41 clock seen), (12, .cells 55 ((ndF (n.getD (i : Int).toNat nd0)).map .d))])
        (fun (seen, _) => (kb.filter fun p => !seen.contains p.2).length) ([], []) ⟨(fun e he => by cases he), (fun σ b _ hb => by cases hb), (fun σ q hq => by cases hq)⟩ ?_ ?_
       · exact Entails.mk' [(41, 41), (55, 55), (57, 57), (12, 12)] rfl rfl ⟨lr, lr, lr, lr, lr, lr, lr, lr, trivial⟩ ⟨rr, Res.le_map (fun _ _ => ⟨rfl, rfl⟩), rr, rr, trivial⟩
       rintro ⟨seen, E⟩ ⟨g1, g2, g3⟩
       have g1 : ∀ e ∈ E, M e.1 = some e.2 := g1
       have g2 : ∀ σ b, ([DV.str σ], b) ∈ kb → b ∈ seen → ∃ p, (σ, p) ∈ E := g2
       have g3 : mapB (runPM mvC s (wanS n n.length).length E fun _ => none) := g3
       conv => whnf
       repeat' (first | (refine br_intro ?_ ?_ <;> intro hb <;> (try simp only [brs] at hb) <;> conv => whnf) | omega | (refine And.intro ?_ ?_; ((try dsimp only); first | omega | (refine szA rfl ?_; omega) | (refine szB rfl ?_; omega) | (unfold inI64; omega) | exact rfl | (simp only [lns] at *; omega) | decide | (unfold inI64; decide)); conv => whnf) | decide | assumption)
       refine ⟨rfl, fun key b hkb1 hseen => ?_, fun hall => ?_⟩
       · obtain ⟨σ, rfl⟩ := wk_str (hkb.kw _ hkb1)
         have hhas : pmH M [.str σ] = true := (hkb.kh _ (hkb.kw _ hkb1)).2 ⟨_, hkb1⟩
         obtain ⟨p, hMp⟩ : ∃ p, M σ = some p := by
          have : (M σ).isSome = true := hhas
          cases h : M σ with
          | none => rw [h] at this; cases this
          | some p => exact ⟨p, rfl⟩
         have hv : pmV M [.str σ] = pzF p := by unfold pmV; rw [show M (keyS [.str σ]) = some p from hMp]; rfl
         obtain ⟨⟨b1, b2⟩, b3, b4⟩ := hN.bnd σ p hMp
         have hij : i * (wanS n n.length).length ≤ 10 * 10 := Nat.mul_le_mul (by omega) (by omega)
         have hroom : roomP p (n.getD (i : Int).toNat nd0).many (wanS n n.length).length := ⟨⟨by omega, b2⟩, ⟨by have : 0 < (n.getD i nd0).many := hpos; rw [e1]; omega, by omega⟩, b3.1, by omega⟩
         have h69 := p69 hso hr (by omega) (wanS n n.length).length 0 σ (n.getD (i : Int).toNat nd0).many p (runPM mvC s (wanS n n.length).length E fun _ => none) (Nat.zero_add _) b4 hroom g3
         have hg3 : mapB (runPM mvC s (wanS n n.length).length (E ++ [(σ, p)]) fun _ => none) := by
          rw [runPM_snoc]
          refine sendM_b hso hr _ 0 _ _ _ _ (Nat.zero_add _) ?_ g3
          rw [hsm]; exact hroom
         conv => whnf
         repeat' (first | (rw [hv]; conv => whnf) | (refine ⟨rfl, _, hkb1, ?_⟩; conv => whnf) | (refine CallX.of h69 [(1000000, 55)] rfl ⟨lr, lr, lr, lr, lr, lr, lr, lr, trivial⟩ ⟨rr, trivial⟩ rfl rfl ?_; rintro x' rout ⟨rfl, rfl⟩; refine ⟨rfl, ?_⟩; conv => whnf) | (refine br_intro ?_ ?_ <;> intro hb <;> (try simp only [brs] at hb) <;> conv => whnf) | omega | (refine And.intro ?_ ?_; ((try dsimp only); first | omega | (refine szA rfl ?_; omega) | (refine szB rfl ?_; omega) | (unfold inI64; omega) | exact rfl | (simp only [lns] at *; omega) | decide | (unfold inI64; decide)); conv => whnf) | decide | assumption)
         all_goals try (exfalso; omega)
         refine ⟨(b :: seen, E ++ [(σ, p)]), ⟨fun e he => ?_, fun τ b2' hk2 hb2 => ?_, hg3⟩, ?_, Entails.mk' [(41, 41), (55, 55), (57, 57), (12, 12)] rfl rfl ⟨lr, lr, lr, lr, lr, lr, lr, lr, trivial⟩ ⟨rr, ?_, rr, rr, trivial⟩⟩
         · rcases List.mem_append.1 he with q | q
           · exact g1 e q
           · have : e = (σ, p) := by simpa using q
             rw [this]; exact hMp
         · rcases List.mem_cons.1 hb2 with q | q
           · have hst := KB_stamp hkb hk2 hkb1
             have : ([DV.str τ] : List DV) = [.str σ] := hst.1 q
             have : τ = σ := by simpa using this
             exact ⟨p, List.mem_append_right _ (by rw [this]; simp)⟩
           · obtain ⟨p', hp'⟩ := g2 τ b2' hk2 q
             exact ⟨p', List.mem_append_left _ hp'⟩
         · show (kb.filter fun p => !(b :: seen).contains p.2).length < (kb.filter fun p => !seen.contains p.2).length
           have e : kb.filter (fun p => !(b :: seen).contains p.2) = (kb.filter fun p => !seen.contains p.2).filter fun p => !(p.2 == b) := by
            rw [List.filter_filter]
            refine List.filter_congr fun p _ => ?_
            simp [List.contains_cons, Bool.and_comm]
            rfl
           rw [e]
           refine Nat.lt_of_le_of_ne (List.length_filter_le _ _) (fun q => ?_)
           have := (List.length_filter_eq_length_iff.1 q) ([.str σ], b) (List.mem_filter.2 ⟨hkb1, by simpa using hseen⟩)
           simp at this
         · show Res.le _ (pmR (runPM mvC s (wanS n n.length).length (E ++ [(σ, p)]) fun _ => none))
           refine pmR_eq fun s' => ?_
           rw [runPM_snoc, hsm]
       · have hE : ∀ σ p, (σ, p) ∈ E ↔ M σ = some p := fun σ p => ⟨fun h => g1 _ h, fun h => by
          have hhas : pmH M [.str σ] = true := by unfold pmH; rw [show M (keyS [.str σ]) = some p from h]; rfl
          obtain ⟨b, hb⟩ := (hkb.kh [.str σ] (by simp [wk, wk1])).1 hhas
          obtain ⟨p', hp'⟩ := g2 σ b hb (hall _ hb)
          have := g1 _ hp'
          have h3 : M σ = some p' := this
          rw [h] at h3; cases h3; exact hp'⟩
         have hnx := hN.next hin hpos (by have := hmn i; omega) hr hE
         rw [← hs] at hnx
         conv => whnf
         repeat' (first | (refine br_intro ?_ ?_ <;> intro hb <;> (try simp only [brs] at hb) <;> conv => whnf) | omega | (refine And.intro ?_ ?_; ((try dsimp only); first | omega | (refine szA rfl ?_; omega) | (refine szB rfl ?_; omega) | (unfold inI64; omega) | exact rfl | (simp only [lns] at *; omega) | decide | (unfold inI64; decide)); conv => whnf) | decide | assumption)
         all_goals try (exfalso; omega)
         exact ⟨(i + 1, runPM mvC s (wanS n n.length).length E fun _ => none), ⟨by show i + 1 ≤ n.length; omega, hnx⟩, by show n.length - (i + 1) < n.length - i; omega, Entails.mk' [(41, 55)] rfl rfl ⟨lr, lr, lr, lr, lr, lr, trivial⟩ ⟨rr, trivial⟩⟩
     · conv => whnf
       repeat' (first | (refine br_intro ?_ ?_ <;> intro hb <;> (try simp only [brs] at hb) <;> conv => whnf) | omega | (refine And.intro ?_ ?_; ((try dsimp only); first | omega | (refine szA rfl ?_; omega) | (refine szB rfl ?_; omega) | (unfold inI64; omega) | exact rfl | (simp only [lns] at *; omega) | decide | (unfold inI64; decide)); conv => whnf) | decide | assumption)
       all_goals try (exfalso; unfold manyP at hpos; omega)
       exact ⟨(i + 1, M), ⟨by show i + 1 ≤ n.length; omega, hN.skip hpos⟩, by show n.length - (i + 1) < n.length - i; omega, Entails.mk' [(41, 41)] rfl rfl ⟨lr, lr, lr, lr, lr, lr, trivial⟩ ⟨rr, trivial⟩⟩
   · have hin : i = n.length := by omega
     subst hin
     have hZ : ∀ o, M (List.replicate (wanS n n.length).length 0) = o → pmV M [.str (List.replicate (wanS n n.length).length 0)] = pzV o ∧ pmH M [.str (List.replicate (wanS n n.length).length 0)] = o.isSome := fun o h => by
      unfold pmV pmH
      rw [show M (keyS [.str (List.replicate (wanS n n.length).length 0)]) = o from h]
      exact ⟨rfl, rfl⟩
     cases hMo : M (List.replicate (wanS n n.length).length 0) with
     | none =>
       obtain ⟨hv, hh⟩ := hZ _ hMo
       have hv : pmV M [.str (List.replicate (wanS n n.length).length 0)] = [.nilsl, .int .i64 0] := hv
       have hh : pmH M [.str (List.replicate (wanS n n.length).length 0)] = false := hh
       conv => whnf
       repeat' (first | (refine And.intro (rfl : zrow _ = some [.nilsl, .int .i64 0]) ?_; conv => whnf) | (refine ⟨List.replicate (wanS n n.length).length 0, bytes_zero _ (fun _ => rfl), ?_⟩; conv => whnf) | (rw [hv, hh]; conv => whnf) | (refine br_intro ?_ ?_ <;> intro hb <;> (try simp only [brs] at hb) <;> conv => whnf) | omega | (refine And.intro ?_ ?_; ((try dsimp only); first | omega | (refine szA rfl ?_; omega) | (refine szB rfl ?_; omega) | (unfold inI64; omega) | exact rfl | (simp only [lns] at *; omega) | decide | (unfold inI64; decide)); conv => whnf) | decide | assumption)
       all_goals try (exfalso; omega)
       refine .weak _ ?_
       conv => whnf
       exact ⟨.tup [.d (movs []), .d (.bool false)], _, SV.le_tup ⟨SV.le_nilS, lr, trivial⟩, ⟨⟨M, hN, by rw [hMo]; rfl⟩, rfl⟩, trivial⟩
     | some q =>
       obtain ⟨hv, hh⟩ := hZ _ hMo
       have hv : pmV M [.str (List.replicate (wanS n n.length).length 0)] = pzF q := hv
       have hh : pmH M [.str (List.replicate (wanS n n.length).length 0)] = true := hh
       conv => whnf
       repeat' (first | (refine And.intro (rfl : zrow _ = some [.nilsl, .int .i64 0]) ?_; conv => whnf) | (refine ⟨List.replicate (wanS n n.length).length 0, bytes_zero _ (fun _ => rfl), ?_⟩; conv => whnf) | (rw [hv, hh]; conv => whnf) | (refine br_intro ?_ ?_ <;> intro hb <;> (try simp only [brs] at hb) <;> conv => whnf) | omega | (refine And.intro ?_ ?_; ((try dsimp only); first | omega | (refine szA rfl ?_; omega) | (refine szB rfl ?_; omega) | (unfold inI64; omega) | exact rfl | (simp only [lns] at *; omega) | decide | (unfold inI64; decide)); conv => whnf) | decide | assumption)
       all_goals try (exfalso; omega)
       refine .weak _ ?_
       conv => whnf
       exact ⟨.tup [.d (movs q.l), .d (.bool true)], _, SV.le_tup ⟨lr, lr, trivial⟩, ⟨⟨M, hN, by rw [hMo]; rfl⟩, rfl⟩, trivial⟩
theorem lsV_congr {μ : Type} (m : Nat → Int → μ) : ∀ (n a : Nat) (x y : Nat → Int), (∀ k, k < n → y k = x k) → lsV m n a y = lsV m n a x
 | 0, _, _, _, _ => rfl
 | n + 1, a, x, y, h => by
   rw [lsV, lsV, h 0 (by omega), lsV_congr m n (a + 1) (vtl x) (vtl y) (fun k hk => h (k + 1) (by omega))]
theorem pof_best {n : List Ned} {r : List Roa} {M : PMap Mov} (hn : ndsE n = 0) (hr : rdsE r = 0) (h : NowI n r n.length M) :
 match M (List.replicate (wanS n n.length).length 0) with
 | none => ∀ x, ¬ (nwG n r).Fl (kindB n) (getI (havL n)) (getI (wntL n)) x
 | some q => ∃ x, (nwG n r).Best (kindB n) (getI (havL n)) (getI (wntL n)) q.cost x ∧ q.l = lsV (mvN n r) (nwG n r).K 0 x := by
 have hJ : (wanS n n.length).length = (dstL n).length := by unfold wanS; rw [List.length_map]; rfl
 have hS : (filK (srcP n) n.length).length = (srcL n).length := rfl
 have hnow := h.min
 rw [hJ, hS] at hnow
 rw [hJ]
 have z1 : ∀ i, i < (srcL n).length → 0 ≤ (stnN n r i).many := fun i hi => by
  have := (srcL_at hi).2
  show 0 ≤ manyP n (nsN n i); omega
 have z2 : (byS n n.length).length = (dstL n).length := by
  rw [byS_len, hJ]
 have z3 : ∀ i, i < (srcL n).length → getI (havL n) (nsN n i) = (stnN n r i).many := fun i hi => by
  have := srcL_at hi
  rw [getI_hav this.1]
  show havF n (nsN n i) = manyP n (nsN n i)
  unfold havF; omega
 have z4 : ∀ v, v < (nwG n r).N → kindB n v = true → (∀ j, j < (srcL n).length → v ≠ nsN n j) → 0 ≤ getI (havL n) v := fun v hv _ _ => by
  rw [getI_hav hv]; exact (havF_bd hn v).1.1
 have z5 : ∀ k, k < (dstL n).length → getI (wntL n) (nwN n k) = (((byS n n.length).getD k 0).toNat : Int) := fun k hk => by
  have h1 := dstL_at hk
  rw [getI_wnt h1.1]
  have h2 := ned_many hn (nwN n k)
  have h3 : (byS n n.length).getD k 0 = UInt8.ofNat (0 - manyP n (nwN n k)).toNat := by
   have e2 : (dstL n).getD k 0 = (dstL n)[k] := by rw [List.getD_eq_getElem?_getD, List.getElem?_eq_getElem hk]; rfl
   unfold byS nwN
   rw [e2, List.getD_eq_getElem?_getD, List.getElem?_map, show filK (dstP n) n.length = dstL n from rfl, List.getElem?_eq_getElem hk]; rfl
  rw [h3, UInt8.toNat_ofNat']
  unfold wntF; omega
 have z6 : ∀ a b u v, a < b → b < (nwG n r).K → mvC (mvN n r a u) (mvN n r b v) < 0 := fun a b u v hab hb => by
  have h1 := nwG_inc (n := n) (r := r) hab hb
  refine mvC_ends ?_
  rcases h1 with q | ⟨q1, q2⟩
  · exact .inl (nds_inc hn q (arL_mem (nwG_at hb)).1.1)
  · exact .inr ⟨by rw [q1], nds_inc hn q2 (arL_mem (nwG_at hb)).2.1.1⟩
 have key := planOf_best (h := getI (havL n)) (w := getI (wntL n)) mvC_ord (num := fun m : Mov => m.many) (nwG_bip n r) (layN n r) (posN_zero n r) z1 z2 z3 z4 z5 (fun _ _ => rfl) (fun _ _ _ => rfl) (fun a u v huv => mvC_many huv) z6 hnow
 cases hM : M (List.replicate (dstL n).length 0) with
 | none => rw [hM] at key; exact key
 | some q => rw [hM] at key; exact key
theorem plan_pof {n : List Ned} {r : List Roa} {M : PMap Mov} {l : List Mov} {e : Int} (hn : ndsE n = 0) (hr : rdsE r = 0) (h : NowI n r n.length M) (hp : PlanR n r l e) :
 (e = 0 ∧ ∃ q, M (List.replicate (wanS n n.length).length 0) = some q ∧ q.l = l ∧ ∃ x, (nwG n r).Best (kindB n) (getI (havL n)) (getI (wntL n)) q.cost x ∧ l = lsV (mvN n r) (nwG n r).K 0 x) ∨ (e = 12 ∧ l = [] ∧ M (List.replicate (wanS n n.length).length 0) = none) := by
 have hb := pof_best hn hr h
 rcases hp with ⟨h0, _, _⟩ | ⟨_, ⟨h1, h2, h3⟩ | ⟨⟨c, x, h1, h2⟩, h3⟩⟩
 · rw [hn, hr] at h0; exact absurd rfl h0
 · right
   refine ⟨h2, h3, ?_⟩
   cases hM : M (List.replicate (wanS n n.length).length 0) with
   | none => rfl
   | some q =>
     rw [hM] at hb
     obtain ⟨x, hx, _⟩ := hb
     exact absurd hx.fl (h1 x)
 · left
   refine ⟨h3, ?_⟩
   cases hM : M (List.replicate (wanS n n.length).length 0) with
   | none => rw [hM] at hb; exact absurd h1.fl (hb x)
   | some q =>
     rw [hM] at hb
     obtain ⟨x', hx, hl⟩ := hb
     have hu := (Nw.Best.uniq h1 hx).2
     have e1 : lsV (mvN n r) (nwG n r).K 0 x' = lsV (mvN n r) (nwG n r).K 0 x := lsV_congr _ _ _ _ _ hu
     exact ⟨q, rfl, by rw [hl, h2, e1], x', hx, by rw [h2, e1]⟩
def oWRoA6_14 : List (Nat × List Nat) := [(0, []), (1, [0]), (2, [0, 1]), (3, [0, 1, 2]), (4, [0, 1, 2, 3]), (5, [0, 1, 2, 3]), (6, [0, 1, 2, 3]), (7, [0, 1, 2, 3]), (8, [0, 1, 2, 3]), (10, [0, 1, 2, 3, 4, 5, 6, 7, 8]), (11, [0, 1, 2, 3, 4, 5, 6, 7, 8, 10]), (12, [0, 1, 2, 3, 4, 5, 6, 7, 8, 10]), (13, [0, 1, 2, 3, 4, 5, 6, 7, 8, 10]), (14, [0, 1, 2, 3, 4, 5, 6, 7, 8, 10]), (15, [0, 1, 2, 3, 4, 5, 6, 7, 8, 10]), (17, [0, 1, 2, 3, 4, 5, 6, 7, 8, 10, 11, 12, 13, 14, 15]), (9, [0, 1, 2, 10, 11, 12, 13, 14, 15, 17]), (16, [0, 1, 2, 17]), (18, [0, 1, 2]), (19, [1, 2]), (20, [1, 2]), (21, [1, 2]), (22, [2]), (23, [2]), (24, [2]), (25, []), (26, []), (27, [])]
def tE : List (List UInt8) := [[97], [98], [99], [100], [101]]
def rdS (x : Roa) : Prop := x.a.length ≤ 8 ∧ x.b.length ≤ 8
theorem tE_len {i : Nat} : (tE.getD i []).length ≤ 1 := by
 rcases Nat.lt_or_ge i 5 with h | h
 · have : i = 0 ∨ i = 1 ∨ i = 2 ∨ i = 3 ∨ i = 4 := by omega
   rcases this with rfl | rfl | rfl | rfl | rfl <;> decide
 · rw [List.getD_eq_getElem?_getD, List.getElem?_eq_none (by simpa [tE] using h)]; simp
theorem three_len {u x y z : List UInt8} (h : u ∈ [x, y, z]) (hx : x.length ≤ 8) (hy : y.length ≤ 8) (hz : z.length ≤ 8) : u.length ≤ 8 := by
 simp at h
 rcases h with rfl | rfl | rfl <;> assumption
abbrev rdB (l : List Roa) : Res := seqB 61 4 rdF rd0 l
set_option maxHeartbeats 2000000 in
theorem sRds (n : Nat) (L : Nat → Int) (hL : Rok n L) (a : Int) (h0 : 0 ≤ a) (ha : a ≤ 2^38) :
 FSpec Tryd.prog 6 [.ptr 1000000 0] [(1000000, strm n L a)] (fun y r => (∃ l : List Roa, allK rdS 25 l ∧ y = .d (roas l)) ∧ Moved n L a 100 r) := by
 refine spec_of hT (C := []) Tryd.func6 rfl Tryd.call6 rfl rfl rfl ?_
 conv => whnf
 repeat' (first | (refine br_intro ?_ ?_ <;> intro hb <;> (try simp only [brs] at hb) <;> conv => whnf) | (refine RegX.rule (id := 14) hT rfl [] oWRoA6_14 (by decide +kernel) ?_; conv => whnf) | omega | (refine And.intro ?_ ?_; ((try dsimp only); first | omega | (refine szA rfl ?_; omega) | (refine szB rfl ?_; omega) | (unfold inI64; omega) | exact rfl | (simp only [lns] at *; omega) | decide | (unfold inI64; decide)); conv => whnf) | decide | assumption)
 refine LoopX.rule hT (C := []) (ι := Int × Nat × List Roa) (fun (b, i, l) => (a ≤ b ∧ b ≤ a + 15 * i ∧ i ≤ 5) ∧ allK rdS (5 * i) l)
  (fun (b, i, l) => mkSt [(0, .ptr 1000000 0), (3, .buf 3), (9, .d (strs tE)), (10, .d (.int .i64 5)), (11, .d (.int .i64 i))] [(1000000, strm n L b), (3, rdB l)]) (fun (_, i, _) => 5 - i) (a, 0, []) ⟨by simp, by simp [allK]⟩ ?_ ?_
 · exact (Entails.nil 3 3 61 4 (rowF rdF rd0 []) rfl rfl (by decide)).trans (by (refine Entails.mk' [(1000000, 1000000), (3, 3)] rfl rfl ?_ ?_ <;> repeat' (first | exact True.intro | exact lr | exact rr | (exact SV.le_lit rfl rfl) | exact SV.le_int (by omega) | exact SV.le_any _ | refine And.intro ?_ ?_)); done)
 rintro ⟨b, i, l⟩ ⟨⟨p1, p2, p3⟩, p4⟩
 have p1 : a ≤ b := p1
 have p2 : b ≤ a + 15 * i := p2
 have p3 : i ≤ 5 := p3
 have p4 : allK rdS (5 * i) l := p4
 have hll := p4.1
 have htl : tE.length = 5 := rfl
 conv => whnf
 repeat' (first | (refine br_intro ?_ ?_ <;> intro hb <;> (try simp only [brs] at hb) <;> conv => whnf) | (refine RegX.rule (id := 14) hT rfl [] oWRoA6_14 (by decide +kernel) ?_; conv => whnf) | omega | (refine And.intro ?_ ?_; ((try dsimp only); first | omega | (refine szA rfl ?_; omega) | (refine szB rfl ?_; omega) | (unfold inI64; omega) | exact rfl | (simp only [lns] at *; omega) | decide | (unfold inI64; decide)); conv => whnf) | decide | assumption)
 · refine LoopX.rule hT (C := []) (ι := Int × Nat × List Roa) (fun (c, j, l) => (a ≤ c ∧ c ≤ a + 15 * i + 3 * j ∧ j ≤ 5) ∧ allK rdS (5 * i + j) l)
    (fun (c, j, l) => mkSt [(0, .ptr 1000000 0), (3, .buf 3), (5, .d (.str (tE.getD i []))), (9, .d (strs tE)), (10, .d (.int .i64 5)), (11, .d (.int .i64 i)), (15, .d (strs tE)), (16, .d (.int .i64 5)), (17, .d (.int .i64 j))] [(1000000, strm n L c), (3, rdB l)]) (fun (_, j, _) => 5 - j) (b, 0, l) ⟨by simp; omega, by simpa using p4⟩ ?_ ?_
   · exact (by (refine Entails.mk' [(1000000, 1000000), (3, 3)] rfl rfl ?_ ?_ <;> repeat' (first | exact True.intro | exact lr | exact rr | (exact SV.le_lit rfl rfl) | exact SV.le_int (by omega) | exact SV.le_any _ | refine And.intro ?_ ?_)); done)
   rintro ⟨c, j, l⟩ ⟨⟨r1, r2, r3⟩, r4⟩
   have r1 : a ≤ c := r1
   have r2 : c ≤ a + 15 * i + 3 * j := r2
   have r3 : j ≤ 5 := r3
   have r4 : allK rdS (5 * i + j) l := r4
   have hlj := r4.1
   have hi5 : i < 5 := by omega
   conv => whnf
   repeat' (first | (refine CallX.of (s84 n L hL _ ?_ ?_ _ ?_) [(1000000, 1000000)] rfl ⟨lr, lr, trivial⟩ ⟨rr, trivial⟩ rfl rfl ?_; rotate_right; rintro x rout ⟨⟨f, rfl⟩, ⟨c, c1, c2, rfl⟩⟩; refine ⟨rfl, ?_⟩; conv => whnf) | (refine CallX.of (s33 n L hL _ ?_ ?_ [0, 1, 3, 5, 5, 8, 20] ?_ ?_) [(1000000, 1000000)] rfl ⟨lr, SV.le_lit rfl rfl, trivial⟩ ⟨rr, trivial⟩ rfl rfl ?_; rotate_right; rintro x rout ⟨⟨u1, hu1, rfl⟩, ⟨c, c1, c2, rfl⟩⟩; refine ⟨rfl, ?_⟩; conv => whnf) | (refine CallX.of (s33 n L hL _ ?_ ?_ [0, 1, 2, 4] ?_ ?_) [(1000000, 1000000)] rfl ⟨lr, SV.le_lit rfl rfl, trivial⟩ ⟨rr, trivial⟩ rfl rfl ?_; rotate_right; rintro x rout ⟨⟨u2, hu2, rfl⟩, ⟨c, c1, c2, rfl⟩⟩; refine ⟨rfl, ?_⟩; conv => whnf) | (refine br_intro ?_ ?_ <;> intro hb <;> (try simp only [brs] at hb) <;> conv => whnf) | (refine RegX.rule (id := 14) hT rfl [] oWRoA6_14 (by decide +kernel) ?_; conv => whnf) | omega | (refine And.intro ?_ ?_; ((try dsimp only); first | omega | (refine szA rfl ?_; omega) | (refine szB rfl ?_; omega) | (unfold inI64; omega) | exact rfl | (simp only [lns] at *; omega) | decide | (unfold inI64; decide)); conv => whnf) | decide | assumption)
   all_goals first
    | (refine ⟨(_, j + 1, l ++ [⟨tE.getD i [], tE.getD j [], u1, u2⟩]), ⟨⟨by omega, ?_, by omega⟩, allK_snoc r4 (by omega) ⟨Nat.le_trans tE_len (by decide), Nat.le_trans tE_len (by decide)⟩⟩, (show 5 - (j + 1) < 5 - j by omega), Entails.mk' [(1000000, 1000000), (3, 40)] rfl rfl ⟨lr, lr, lr, lr, lr, lr, lr, lr, lr, trivial⟩ ⟨rr, Res.le_snocF rfl, trivial⟩⟩
       show _ ≤ a + 15 * (i : Int) + 3 * ((j + 1 : Nat) : Int)
       omega)
    | (refine ⟨(_, j + 1, l), ⟨⟨by omega, ?_, by omega⟩, allK_le r4 (by omega)⟩, (show 5 - (j + 1) < 5 - j by omega), Entails.mk' [(1000000, 1000000), (3, 3)] rfl rfl ⟨lr, lr, lr, lr, lr, lr, lr, lr, lr, trivial⟩ ⟨rr, rr, trivial⟩⟩
       show _ ≤ a + 15 * (i : Int) + 3 * ((j + 1 : Nat) : Int)
       omega)
    | (refine ⟨(c, i + 1, l), ⟨⟨by omega, by show c ≤ a + 15 * ((i + 1 : Nat) : Int); omega, by omega⟩, allK_le r4 (by omega)⟩, (show 5 - (i + 1) < 5 - i by omega), Entails.mk' [(1000000, 1000000), (3, 3)] rfl rfl ⟨lr, lr, lr, lr, lr, trivial⟩ ⟨rr, rr, trivial⟩⟩)
 all_goals
  have p5 : allK rdS 25 l := allK_le p4 (by omega)
  have hl25 := p5.1
  repeat' (first | (refine CallX.of (s84 n L hL _ ?_ ?_ _ ?_) [(1000000, 1000000)] rfl ⟨lr, lr, trivial⟩ ⟨rr, trivial⟩ rfl rfl ?_; rotate_right; rintro x rout ⟨⟨f, rfl⟩, ⟨c, c1, c2, rfl⟩⟩; refine ⟨rfl, ?_⟩; conv => whnf) | (refine CallX.of (s86 n L hL _ ?_ ?_ _ ?_) [(1000000, 1000000)] rfl ⟨lr, lr, trivial⟩ ⟨rr, trivial⟩ rfl rfl ?_; rotate_right; rintro x rout ⟨⟨j, hj1, hj2, hj3, rfl⟩, ⟨c, c1, c2, rfl⟩⟩; refine ⟨rfl, ?_⟩; conv => whnf) | (refine CallX.of (s15 n L hL _ ?_ ?_ [(l.getD j.toNat rd0).a, [], [98]] (by simp) (by simp)) [(1000000, 1000000)] rfl ⟨lr, SV.le_lit rfl rfl, trivial⟩ ⟨rr, trivial⟩ rfl rfl ?_; rotate_right; rintro x rout ⟨⟨u1, hu1, rfl⟩, ⟨c, c1, c2, rfl⟩⟩; refine ⟨rfl, ?_⟩; conv => whnf) | (refine CallX.of (s15 n L hL _ ?_ ?_ [(l.getD j.toNat rd0).b, [65], [98]] (by simp) (by simp)) [(1000000, 1000000)] rfl ⟨lr, SV.le_lit rfl rfl, trivial⟩ ⟨rr, trivial⟩ rfl rfl ?_; rotate_right; rintro x rout ⟨⟨u2, hu2, rfl⟩, ⟨c, c1, c2, rfl⟩⟩; refine ⟨rfl, ?_⟩; conv => whnf) | (refine CallX.of (s104 n L hL _ ?_ ?_ 0 1000000 ?_ ?_ ?_) [(1000000, 1000000)] rfl ⟨lr, lr, lr, trivial⟩ ⟨rr, trivial⟩ rfl rfl ?_; rotate_right; rintro x rout ⟨⟨u3, hk1, hk2, rfl⟩, ⟨c, c1, c2, rfl⟩⟩; refine ⟨rfl, ?_⟩; conv => whnf) | (refine br_intro ?_ ?_ <;> intro hb <;> (try simp only [brs] at hb) <;> conv => whnf) | (refine RegX.rule (id := 14) hT rfl [] oWRoA6_14 (by decide +kernel) ?_; conv => whnf) | omega | (refine And.intro ?_ ?_; ((try dsimp only); first | omega | (refine szA rfl ?_; omega) | (refine szB rfl ?_; omega) | (unfold inI64; omega) | exact rfl | (simp only [lns] at *; omega) | decide | (unfold inI64; decide)); conv => whnf) | decide | assumption)
 all_goals first
  | (refine .freeze _ 3 61 4 _ _ rfl (.weak _ ?_)
     (conv => whnf)
     have hx := p5.2 (l.getD j.toNat rd0) (getD_mem (by omega))
     have hq1 := three_len hu1 hx.1 (by decide) (by decide)
     have hq2 := three_len hu2 hx.2 (by decide) (by decide)
     exact ⟨_, [(1000000, strm n L _)], SV.le_upd3 (f := rdF) (d := rd0) (fun y : Roa => { y with a := u1 }) (fun y => { y with b := u2 }) (fun y => { y with car := u3 }) (fun _ => rfl) (fun _ => rfl) (fun _ => rfl), ⟨⟨_, allK_upd (g := fun y : Roa => { y with car := u3 }) (allK_upd (g := fun y : Roa => { y with b := u2 }) (allK_upd (g := fun y : Roa => { y with a := u1 }) p5 (fun y hy => ⟨hq1, hy.2⟩)) (fun y hy => ⟨hy.1, hq2⟩)) (fun y hy => hy), rfl⟩, _, by omega, by omega, rfl⟩, rr, trivial⟩)
  | (refine .freeze _ 3 61 4 _ _ rfl (.weak _ ?_)
     (conv => whnf)
     exact ⟨_, [(1000000, strm n L _)], lr, ⟨⟨l, p5, rfl⟩, _, by omega, by omega, rfl⟩, rr, trivial⟩)
def oWRoB13_6 : List (Nat × List Nat) := [(0, []), (1, [0]), (2, []), (3, []), (4, [0, 1, 2, 3]), (5, [0, 1, 2, 3, 4]), (6, [0, 1, 2, 3]), (7, [0, 1, 2, 3]), (8, [])]
theorem p57 (l m : List Mov) (hl : l.length ≤ 2^40) : FSpec Tryd.prog 13 [.d (movs l), .d (movs m)] [] (fun x r => x = .d (.bool (decide (l = m))) ∧ r = []) := by
 refine spec_of hT (C := []) Tryd.func13 rfl Tryd.call13 rfl rfl rfl ?_
 conv => whnf
 repeat' (first | (refine br_intro ?_ ?_ <;> intro hb <;> (try simp only [brs] at hb) <;> conv => whnf) | (refine RegX.rule (id := 6) hT rfl [] oWRoB13_6 (by decide +kernel) ?_; conv => whnf) | omega | (refine And.intro ?_ ?_; ((try dsimp only); first | omega | (refine szA rfl ?_; omega) | (refine szB rfl ?_; omega) | (unfold inI64; omega) | exact rfl | (simp only [lns] at *; omega) | decide | (unfold inI64; decide)); conv => whnf) | decide | assumption)
 · refine .ret _ ?_
   conv => whnf
   refine ⟨[], ⟨?_, rfl⟩, trivial⟩
   conv => lhs; whnf
   have : ¬ l = m := fun q => by subst q; simp at hb
   simp [this]
 have hlen : l.length = m.length := by
  omega
 refine LoopX.rule hT (C := []) (ι := Nat) (fun i => i ≤ l.length ∧ ∀ j, j < i → l.getD j mv0 = m.getD j mv0) (fun i => mkSt [(0, .d (movs l)), (1, .d (movs m)), (12, .d (.int .i64 l.length)), (13, .d (.int .i64 i))] []) (fun i => l.length - i) 0 ⟨by omega, by omega⟩ (by (refine Entails.mk' [] rfl rfl ?_ ?_ <;> repeat' (first | exact True.intro | exact lr | exact rr | exact SV.le_int (by omega) | exact SV.le_any _ | refine And.intro ?_ ?_)); done) ?_
 rintro i ⟨p1, p2⟩
 have e1 : (i : Int).toNat = i := Int.toNat_natCast i
 conv => whnf
 repeat' (first | (refine br_intro ?_ ?_ <;> intro hb <;> (try simp only [brs] at hb) <;> conv => whnf) | (refine RegX.rule (id := 6) hT rfl [] oWRoB13_6 (by decide +kernel) ?_; conv => whnf) | omega | (refine And.intro ?_ ?_; ((try dsimp only); first | omega | (refine szA rfl ?_; omega) | (refine szB rfl ?_; omega) | (unfold inI64; omega) | exact rfl | (simp only [lns] at *; omega) | decide | (unfold inI64; decide)); conv => whnf) | decide | assumption)
 · refine .ret _ ?_
   conv => whnf
   refine ⟨[], ⟨?_, rfl⟩, trivial⟩
   conv => lhs; whnf
   have : ¬ l = m := fun q => by subst q; simp at hb
   simp [this]
 · exact ⟨i + 1, ⟨by omega, all_step p2 (by rw [mov_eq]; simpa [and_assoc] using hb)⟩, by omega, (by (refine Entails.mk' [] rfl rfl ?_ ?_ <;> repeat' (first | exact True.intro | exact lr | exact rr | exact SV.le_int (by omega) | exact SV.le_any _ | refine And.intro ?_ ?_)); done)⟩
 · refine .ret _ ?_
   conv => whnf
   refine ⟨[], ⟨?_, rfl⟩, trivial⟩
   conv => lhs; whnf
   have : i = l.length := by omega
   subst this
   simp [eq_of_getD mv0 hlen p2]
theorem p19 : FSpec Tryd.prog 14 [] [] (fun x r => x = .d (.bool true) ∧ r = []) := by
 refine spec_of hT (C := []) Tryd.func14 rfl Tryd.call14 rfl rfl rfl ?_
 conv => whnf
 repeat' (first | (refine CallX.of s27t [] rfl ⟨SV.le_lit rfl rfl, SV.le_lit rfl rfl, trivial⟩ trivial rfl rfl ?_; rintro x rout ⟨rfl, rfl⟩; refine ⟨rfl, ?_⟩; conv => whnf) | (refine CallX.of (p57 [⟨[97], [98], 1⟩] [⟨[97], [98], 1⟩] (by simp)) [] rfl ⟨lr, SV.le_lit rfl rfl, trivial⟩ trivial rfl rfl ?_; rintro x rout ⟨rfl, rfl⟩; refine ⟨rfl, ?_⟩; conv => whnf) | (refine br_intro ?_ ?_ <;> intro hb <;> (try simp only [brs] at hb) <;> conv => whnf) | omega | (refine And.intro ?_ ?_; ((try dsimp only); first | omega | (refine szA rfl ?_; omega) | (refine szB rfl ?_; omega) | (unfold inI64; omega) | exact rfl | (simp only [lns] at *; omega) | decide | (unfold inI64; decide)); conv => whnf) | decide | assumption)
 all_goals try (exfalso; simp at hb; done)
 all_goals
  refine .ret _ ?_
  conv => whnf
  exact ⟨[], ⟨rfl, rfl⟩, trivial⟩
def ndS (x : Ned) : Prop := x.st.length ≤ 8
abbrev ndB (l : List Ned) : Res := seqB 55 2 ndF nd0 l
set_option maxHeartbeats 2000000 in
theorem sNds (n : Nat) (L : Nat → Int) (hL : Rok n L) (a : Int) (h0 : 0 ≤ a) (ha : a ≤ 2^38) :
 FSpec Tryd.prog 5 [.ptr 1000000 0] [(1000000, strm n L a)] (fun y r => (∃ l : List Ned, allK ndS 5 l ∧ y = .d (neds l)) ∧ Moved n L a 100 r) := by
 refine spec_of hT (C := []) Tryd.func5 rfl Tryd.call5 rfl rfl rfl ?_
 conv => whnf
 repeat' (first | (refine br_intro ?_ ?_ <;> intro hb <;> (try simp only [brs] at hb) <;> conv => whnf) | omega | (refine And.intro ?_ ?_; ((try dsimp only); first | omega | (refine szA rfl ?_; omega) | (refine szB rfl ?_; omega) | (unfold inI64; omega) | exact rfl | (simp only [lns] at *; omega) | decide | (unfold inI64; decide)); conv => whnf) | decide | assumption)
 refine LoopX.rule hT (C := []) (ι := Int × Nat × List Ned) (fun (b, i, l) => (a ≤ b ∧ b ≤ a + 3 * i ∧ i ≤ 5) ∧ allK ndS i l)
  (fun (b, i, l) => mkSt [(0, .ptr 1000000 0), (3, .buf 3), (7, .d (strs tE)), (8, .d (.int .i64 5)), (9, .d (.int .i64 i))] [(1000000, strm n L b), (3, ndB l)]) (fun (_, i, _) => 5 - i) (a, 0, []) ⟨by simp, by simp [allK]⟩ ?_ ?_
 · exact (Entails.nil 3 3 55 2 (rowF ndF nd0 []) rfl rfl (by decide)).trans (by (refine Entails.mk' [(1000000, 1000000), (3, 3)] rfl rfl ?_ ?_ <;> repeat' (first | exact True.intro | exact lr | exact rr | (exact SV.le_lit rfl rfl) | exact SV.le_int (by omega) | exact SV.le_any _ | refine And.intro ?_ ?_)); done)
 rintro ⟨b, i, l⟩ ⟨⟨p1, p2, p3⟩, p4⟩
 have p1 : a ≤ b := p1
 have p2 : b ≤ a + 3 * i := p2
 have p3 : i ≤ 5 := p3
 have p4 : allK ndS i l := p4
 have hll := p4.1
 have htl : tE.length = 5 := rfl
 conv => whnf
 repeat' (first | (refine CallX.of (s84 n L hL _ ?_ ?_ _ ?_) [(1000000, 1000000)] rfl ⟨lr, lr, trivial⟩ ⟨rr, trivial⟩ rfl rfl ?_; rotate_right; rintro x rout ⟨⟨f, rfl⟩, ⟨c, c1, c2, rfl⟩⟩; refine ⟨rfl, ?_⟩; conv => whnf) | (refine CallX.of (s33 n L hL _ ?_ ?_ [0, 1, 2, 3, -1, -2, 4] ?_ ?_) [(1000000, 1000000)] rfl ⟨lr, SV.le_lit rfl rfl, trivial⟩ ⟨rr, trivial⟩ rfl rfl ?_; rotate_right; rintro x rout ⟨⟨u1, hu1, rfl⟩, ⟨c, c1, c2, rfl⟩⟩; refine ⟨rfl, ?_⟩; conv => whnf) | (refine br_intro ?_ ?_ <;> intro hb <;> (try simp only [brs] at hb) <;> conv => whnf) | omega | (refine And.intro ?_ ?_; ((try dsimp only); first | omega | (refine szA rfl ?_; omega) | (refine szB rfl ?_; omega) | (unfold inI64; omega) | exact rfl | (simp only [lns] at *; omega) | decide | (unfold inI64; decide)); conv => whnf) | decide | assumption)
 all_goals try (exfalso; omega)
 · refine ⟨(_, i + 1, l ++ [⟨tE.getD i [], u1⟩]), ⟨⟨by omega, ?_, by omega⟩, allK_snoc p4 (by omega) (Nat.le_trans tE_len (by decide))⟩, (show 5 - (i + 1) < 5 - i by omega), Entails.mk' [(1000000, 1000000), (3, 23)] rfl rfl ⟨lr, lr, lr, lr, lr, trivial⟩ ⟨rr, Res.le_snocF rfl, trivial⟩⟩
   show _ ≤ a + 3 * ((i + 1 : Nat) : Int)
   omega
 · refine ⟨(_, i + 1, l), ⟨⟨by omega, ?_, by omega⟩, allK_le p4 (by omega)⟩, (show 5 - (i + 1) < 5 - i by omega), Entails.mk' [(1000000, 1000000), (3, 3)] rfl rfl ⟨lr, lr, lr, lr, lr, trivial⟩ ⟨rr, rr, trivial⟩⟩
   show _ ≤ a + 3 * ((i + 1 : Nat) : Int)
   omega
 all_goals
  have p5 : allK ndS 5 l := allK_le p4 (by omega)
  have hl5 := p5.1
  repeat' (first | (refine CallX.of (s86 n L hL _ ?_ ?_ _ ?_) [(1000000, 1000000)] rfl ⟨lr, lr, trivial⟩ ⟨rr, trivial⟩ rfl rfl ?_; rotate_right; rintro x rout ⟨⟨j, hj1, hj2, hj3, rfl⟩, ⟨c, c1, c2, rfl⟩⟩; refine ⟨rfl, ?_⟩; conv => whnf) | (refine CallX.of (s15 n L hL _ ?_ ?_ [(l.getD j.toNat nd0).st, [], [97]] (by simp) (by simp)) [(1000000, 1000000)] rfl ⟨lr, SV.le_lit rfl rfl, trivial⟩ ⟨rr, trivial⟩ rfl rfl ?_; rotate_right; rintro x rout ⟨⟨u1, hu1, rfl⟩, ⟨c, c1, c2, rfl⟩⟩; refine ⟨rfl, ?_⟩; conv => whnf) | (refine CallX.of (s104 n L hL _ ?_ ?_ (-20) 20 ?_ ?_ ?_) [(1000000, 1000000)] rfl ⟨lr, lr, lr, trivial⟩ ⟨rr, trivial⟩ rfl rfl ?_; rotate_right; rintro x rout ⟨⟨u3, hk1, hk2, rfl⟩, ⟨c, c1, c2, rfl⟩⟩; refine ⟨rfl, ?_⟩; conv => whnf) | (refine br_intro ?_ ?_ <;> intro hb <;> (try simp only [brs] at hb) <;> conv => whnf) | omega | (refine And.intro ?_ ?_; ((try dsimp only); first | omega | (refine szA rfl ?_; omega) | (refine szB rfl ?_; omega) | (unfold inI64; omega) | exact rfl | (simp only [lns] at *; omega) | decide | (unfold inI64; decide)); conv => whnf) | decide | assumption)
 all_goals first
  | (refine .freeze _ 3 55 2 _ _ rfl (.weak _ ?_)
     (conv => whnf)
     have hx := p5.2 (l.getD j.toNat nd0) (getD_mem (by omega))
     have hq1 := three_len hu1 hx (by decide) (by decide)
     exact ⟨_, [(1000000, strm n L _)], SV.le_upd2 (f := ndF) (d := nd0) (fun y : Ned => { y with st := u1 }) (fun y => { y with many := u3 }) (fun _ => rfl) (fun _ => rfl), ⟨⟨_, allK_upd (g := fun y : Ned => { y with many := u3 }) (allK_upd (g := fun y : Ned => { y with st := u1 }) p5 (fun y hy => hq1)) (fun y hy => hy), rfl⟩, _, by omega, by omega, rfl⟩, rr, trivial⟩)
  | (refine .freeze _ 3 55 2 _ _ rfl (.weak _ ?_)
     (conv => whnf)
     exact ⟨_, [(1000000, strm n L _)], lr, ⟨⟨l, p5, rfl⟩, _, by omega, by omega, rfl⟩, rr, trivial⟩)
theorem p12t (e : Int) : FSpec Tryd.prog 12 [.d (.bool true), .d (.int .i64 e)] [] (fun x r => x = .d (.int .i64 e) ∧ r = []) := by
 refine spec_of hT (C := []) Tryd.func12 rfl Tryd.call12 rfl rfl rfl ?_
 conv => whnf
 repeat' (first | (refine br_intro ?_ ?_ <;> intro hb <;> (try simp only [brs] at hb) <;> conv => whnf) | omega | (refine And.intro ?_ ?_; ((try dsimp only); first | omega | (refine szA rfl ?_; omega) | (refine szB rfl ?_; omega) | (unfold inI64; omega) | exact rfl | (simp only [lns] at *; omega) | decide | (unfold inI64; decide)); conv => whnf) | decide | assumption)
 refine .ret _ ?_
 conv => whnf
 refine ⟨[], ⟨?_, rfl⟩, trivial⟩
 conv => lhs; whnf
theorem p12f (e : Int) : FSpec Tryd.prog 12 [.d (.bool false), .d (.int .i64 e)] [] (fun x r => x = .d (.int .i64 0) ∧ r = []) := by
 refine spec_of hT (C := []) Tryd.func12 rfl Tryd.call12 rfl rfl rfl ?_
 conv => whnf
 repeat' (first | (refine br_intro ?_ ?_ <;> intro hb <;> (try simp only [brs] at hb) <;> conv => whnf) | omega | (refine And.intro ?_ ?_; ((try dsimp only); first | omega | (refine szA rfl ?_; omega) | (refine szB rfl ?_; omega) | (unfold inI64; omega) | exact rfl | (simp only [lns] at *; omega) | decide | (unfold inI64; decide)); conv => whnf) | decide | assumption)
 refine .ret _ ?_
 conv => whnf
 refine ⟨[], ⟨?_, rfl⟩, trivial⟩
 conv => lhs; whnf
theorem ndOk_of {l : List Ned} (h : allK ndS 5 l) : ndOk l := ⟨by have := h.1; omega, fun x hx => by have h1 : x.st.length ≤ 8 := h.2 x hx; show x.st.length ≤ 2^40; omega⟩
theorem rdOk_of {l : List Roa} (h : allK rdS 25 l) : rdOk l := ⟨by have := h.1; omega, fun x hx => by have h1 := h.2 x hx; exact ⟨by have := h1.1; omega, by have := h1.2; omega⟩⟩
set_option maxHeartbeats 4000000 in
theorem z3 (n : Nat) (L : Nat → Int) (hn : n ≤ maxLen) (hl : ∀ i, -2^63 ≤ L i ∧ L i < 2^63) : FSpec Tryd.prog 3 [.d (.ro 1 n fun i => [.int .i64 (L i)])] [] (fun x r => x = .d (.bool true) ∧ r = []) := by
 have hL : Rok n L := ⟨hn, hl⟩
 refine spec_of hT (C := []) Tryd.func3 rfl Tryd.call3 rfl rfl rfl ?_
 conv => whnf
 repeat' (first | (refine CallX.of (sNds n L hL _ ?_ ?_ ) [(1000000, 14)] rfl ⟨lr, trivial⟩ ⟨rr, trivial⟩ rfl rfl ?_; rotate_right; rintro x rout ⟨⟨N, hN, rfl⟩, ⟨c, c1, c2, rfl⟩⟩; refine ⟨rfl, ?_⟩; conv => whnf) | (refine CallX.of (sRds n L hL _ ?_ ?_ ) [(1000000, 14)] rfl ⟨lr, trivial⟩ ⟨rr, trivial⟩ rfl rfl ?_; rotate_right; rintro x rout ⟨⟨R, hR, rfl⟩, ⟨c, c1, c2, rfl⟩⟩; refine ⟨rfl, ?_⟩; conv => whnf) | (refine br_intro ?_ ?_ <;> intro hb <;> (try simp only [brs] at hb) <;> conv => whnf) | omega | (refine And.intro ?_ ?_; ((try dsimp only); first | omega | (refine szA rfl ?_; omega) | (refine szB rfl ?_; omega) | (unfold inI64; omega) | exact rfl | (simp only [lns] at *; omega) | decide | (unfold inI64; decide)); conv => whnf) | decide | assumption)
 have hnd := ndOk_of hN
 have hrd := rdOk_of hR
 obtain ⟨E0, hE0⟩ : ∃ e, firstE [ndsE N, rdsE R] = e := ⟨_, rfl⟩
 have h17 := s17 [ndsE N, rdsE R] (by simp)
 rw [hE0] at h17
 have h20 := z20 N hnd
 have h21 := z21 R hrd
 by_cases h0 : E0 = 0
 · obtain ⟨h1, h2⟩ := firstE_two (hE0.trans h0)
   subst h0
   repeat' (first | (refine CallX.of (p27 N R hnd hrd) [] rfl ⟨lr, lr, trivial⟩ trivial rfl rfl ?_; rintro x rout ⟨⟨l, e, rfl, hP⟩, rfl⟩; refine ⟨rfl, ?_⟩; conv => whnf) | (refine CallX.exact (h20) rfl rfl ?_; rotate_right; conv => whnf) | (refine CallX.exact (h21) rfl rfl ?_; rotate_right; conv => whnf) | (refine CallX.pure h17 ⟨SV.le_lit (by rfl) (by rfl), trivial⟩ rfl ?_; conv => whnf) | (refine CallX.of (p35 N R h1 h2) [] rfl ⟨lr, lr, trivial⟩ trivial rfl rfl ?_; rintro x rout ⟨⟨M, hM, hx⟩, rfl⟩; conv => whnf) | (refine br_intro ?_ ?_ <;> intro hb <;> (try simp only [brs] at hb) <;> conv => whnf) | omega | (refine And.intro ?_ ?_; ((try dsimp only); first | omega | (refine szA rfl ?_; omega) | (refine szB rfl ?_; omega) | (unfold inI64; omega) | exact rfl | (simp only [lns] at *; omega) | decide | (unfold inI64; decide)); conv => whnf) | decide | assumption)
   rcases plan_pof h1 h2 hM hP with ⟨rfl, q, hq, rfl, _⟩ | ⟨rfl, rfl, hq⟩
   · rw [hq] at hx
     have hx : x = .tup [.d (movs q.l), .d (.bool true)] := hx
     subst hx
     have hql : q.l.length ≤ 2^40 := by
      have b1 := (hM.bnd _ _ hq).1.1
      have b2 := (nds_all h1).1
      have b3 := wanS_len N N.length
      have b4 : N.length * (wanS N N.length).length ≤ 10 * 10 := Nat.mul_le_mul b2 (by omega)
      omega
     have h57 := p57 q.l q.l hql
     rw [decide_eq_true rfl] at h57
     refine ⟨rfl, ?_⟩
     conv => whnf
     repeat' (first | (refine CallX.exact (p12f 12) rfl rfl ?_; rotate_right; conv => whnf) | (refine CallX.exact (h57) rfl rfl ?_; rotate_right; conv => whnf) | (refine CallX.exact (p19) rfl rfl ?_; rotate_right; conv => whnf) | (refine br_intro ?_ ?_ <;> intro hb <;> (try simp only [brs] at hb) <;> conv => whnf) | omega | (refine And.intro ?_ ?_; ((try dsimp only); first | omega | (refine szA rfl ?_; omega) | (refine szB rfl ?_; omega) | (unfold inI64; omega) | exact rfl | (simp only [lns] at *; omega) | decide | (unfold inI64; decide)); conv => whnf) | decide | assumption)
     refine .ret _ ?_
     conv => whnf
     refine ⟨[], ⟨?_, rfl⟩, trivial⟩
     conv => lhs; whnf
   · rw [hq] at hx
     have hx : x = .tup [.d (movs []), .d (.bool false)] := hx
     subst hx
     have h57 := p57 [] [] (by simp)
     rw [decide_eq_true rfl] at h57
     refine ⟨rfl, ?_⟩
     conv => whnf
     repeat' (first | (refine CallX.exact (p12t 12) rfl rfl ?_; rotate_right; conv => whnf) | (refine CallX.exact (h57) rfl rfl ?_; rotate_right; conv => whnf) | (refine CallX.exact (p19) rfl rfl ?_; rotate_right; conv => whnf) | (refine br_intro ?_ ?_ <;> intro hb <;> (try simp only [brs] at hb) <;> conv => whnf) | omega | (refine And.intro ?_ ?_; ((try dsimp only); first | omega | (refine szA rfl ?_; omega) | (refine szB rfl ?_; omega) | (unfold inI64; omega) | exact rfl | (simp only [lns] at *; omega) | decide | (unfold inI64; decide)); conv => whnf) | decide | assumption)
     refine .ret _ ?_
     conv => whnf
     refine ⟨[], ⟨?_, rfl⟩, trivial⟩
     conv => lhs; whnf
 · have h57 := p57 [] [] (by simp)
   rw [decide_eq_true rfl] at h57
   have hne : ∀ l e, PlanR N R l e → e = E0 ∧ l = [] := fun l e hP => by
    rcases hP with ⟨_, q1, q2⟩ | ⟨⟨q1, q2⟩, _⟩
    · exact ⟨q1.trans hE0, q2⟩
    · rw [q1, q2] at hE0; exact absurd hE0.symm h0
   repeat' (first | (refine CallX.of (p27 N R hnd hrd) [] rfl ⟨lr, lr, trivial⟩ trivial rfl rfl ?_; rintro x rout ⟨⟨l, e, rfl, hP⟩, rfl⟩; obtain ⟨rfl, rfl⟩ := hne l e hP; refine ⟨rfl, ?_⟩; conv => whnf) | (refine CallX.exact (h20) rfl rfl ?_; rotate_right; conv => whnf) | (refine CallX.exact (h21) rfl rfl ?_; rotate_right; conv => whnf) | (refine CallX.pure h17 ⟨SV.le_lit (by rfl) (by rfl), trivial⟩ rfl ?_; conv => whnf) | (refine CallX.pure h57 ⟨lr, SV.le_nilS, trivial⟩ rfl ?_; conv => whnf) | (refine CallX.exact (p19) rfl rfl ?_; rotate_right; conv => whnf) | (refine br_intro ?_ ?_ <;> intro hb <;> (try simp only [brs] at hb) <;> conv => whnf) | omega | (refine And.intro ?_ ?_; ((try dsimp only); first | omega | (refine szA rfl ?_; omega) | (refine szB rfl ?_; omega) | (unfold inI64; omega) | exact rfl | (simp only [lns] at *; omega) | decide | (unfold inI64; decide)); conv => whnf) | decide | assumption)
   all_goals try (exfalso; omega)
   refine .ret _ ?_
   conv => whnf
   refine ⟨[], ⟨?_, rfl⟩, trivial⟩
   conv => lhs; whnf
end Go.Proofs.YteehenjdddlnnaaDoor
