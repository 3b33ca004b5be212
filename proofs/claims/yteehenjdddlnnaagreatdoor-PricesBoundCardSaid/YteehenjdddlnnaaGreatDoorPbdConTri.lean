/- PricesBound is proved: for every input the law returns true, and its argument reads afterwards as it read before. Conditions: those of the given row alone. -/
import Derived.Test.YteehenjdddlnnaaGreatDoorPbdConTwo
import Derived.Test.YteehenjdddlnnaaGreatDoorPbdConOne
import Derived.Test.YteehenjdddlnnaaGreatDoorPbdEngTwo
set_option linter.unusedVariables false
set_option linter.unusedSimpArgs false
set_option maxRecDepth 20000
namespace Go.Proofs.YteehenjdddlnnaaGreatDoor
open Go Go.Eng
theorem wanS_succ (n : List Ned) (i : Nat) : wanS n (i + 1) = wanS n i ++ (if manyP n i < 0 then [(n.getD i nd0).st] else []) := by
 unfold wanS
 rw [filK_succ, List.map_append]
 congr 1
 unfold dstP
 by_cases h : manyP n i < 0
 · rw [if_pos h, if_pos (decide_eq_true h)]; rfl
 · rw [if_neg h, if_neg (by simpa using h)]; rfl
theorem byS_succ (n : List Ned) (i : Nat) : byS n (i + 1) = byS n i ++ (if manyP n i < 0 then [UInt8.ofNat (0 - manyP n i).toNat] else []) := by
 unfold byS
 rw [filK_succ, List.map_append]
 congr 1
 unfold dstP
 by_cases h : manyP n i < 0
 · rw [if_pos h, if_pos (decide_eq_true h)]; rfl
 · rw [if_neg h, if_neg (by simpa using h)]; rfl
theorem byS_len (n : List Ned) (i : Nat) : (byS n i).length = (wanS n i).length := by unfold byS wanS; rw [List.length_map, List.length_map]
theorem wanS_len (n : List Ned) (i : Nat) : (wanS n i).length ≤ i := by unfold wanS; rw [List.length_map]; exact filK_len _ _
structure NowI (n : List Ned) (r : List Roa) (i : Nat) (M : PMap Mov) : Prop where
 min : MinOf mvC M (Full (wanS n n.length).length (byS n n.length) (firstL (stnN n r) (filK (srcP n) i).length))
 bnd : bndM (wanS n n.length).length (i * (wanS n n.length).length) ((i : Int) * 20000000) M
theorem nowI_init (n : List Ned) (r : List Roa) : NowI n r 0 (fun τ => if τ = byS n n.length then some ⟨[], 0⟩ else none) := by
 refine ⟨now_init mvC mvC_ord _ _, fun σ q h => ?_⟩
 split at h
 · rename_i e
   cases h
   refine ⟨⟨by simp, fun m hm => by cases hm⟩, ⟨Int.le_refl _, by simp⟩, by rw [e]; exact byS_len _ _⟩
 · cases h
theorem NowI.skip {n : List Ned} {r : List Roa} {i : Nat} {M : PMap Mov} (h : NowI n r i M) (hp : ¬ 0 < manyP n i) : NowI n r (i + 1) M := by
 have e : filK (srcP n) (i + 1) = filK (srcP n) i := by
  rw [filK_succ, if_neg (by unfold srcP; simpa using hp), List.append_nil]
 refine ⟨by rw [e]; exact h.min, fun σ q hq => ?_⟩
 obtain ⟨⟨h1, h2⟩, h3, h4⟩ := h.bnd σ q hq
 have e2 : (i + 1) * (wanS n n.length).length = i * (wanS n n.length).length + (wanS n n.length).length := Nat.succ_mul _ _
 exact ⟨⟨by omega, h2⟩, ⟨h3.1, by omega⟩, h4⟩
theorem NowI.next {n : List Ned} {r : List Roa} {i : Nat} {M : PMap Mov} (h : NowI n r i M) (hi : i < n.length) (hp : 0 < manyP n i) (hp2 : manyP n i ≤ 20) (hr : rdsE r = 0) {E : List (List UInt8 × Pla Mov)} (hE : ∀ σ p, (σ, p) ∈ E ↔ M σ = some p) :
 NowI n r (i + 1) (runPM mvC (stnN n r (filK (srcP n) i).length) (wanS n n.length).length E fun _ => none) := by
 have hs : srcP n i = true := decide_eq_true hp
 have hns := nsN_at hi hs
 have hlen : (filK (srcP n) (i + 1)).length = (filK (srcP n) i).length + 1 := by rw [filK_succ, if_pos hs, List.length_append]; rfl
 refine ⟨?_, ?_⟩
 · rw [hlen]
   exact now_step (num := fun m : Mov => m.many) mvC_ord (fun s hs k v => by obtain ⟨j, _, rfl⟩ := firstL_mem hs; rfl) _ h.min hE
 · have e2 : (i + 1) * (wanS n n.length).length = i * (wanS n n.length).length + (wanS n n.length).length := Nat.succ_mul _ _
   have hmany : (stnN n r (filK (srcP n) i).length).many = manyP n i := by show manyP n (nsN n _) = _; rw [hns]
   have key : ∀ E' : List (List UInt8 × Pla Mov), (∀ e ∈ E', M e.1 = some e.2) → ∀ N, bndM (wanS n n.length).length ((i + 1) * (wanS n n.length).length) (((i + 1 : Nat) : Int) * 20000000) N → bndM (wanS n n.length).length ((i + 1) * (wanS n n.length).length) (((i + 1 : Nat) : Int) * 20000000) (runPM mvC (stnN n r (filK (srcP n) i).length) (wanS n n.length).length E' N) := by
    intro E'
    induction E' with
    | nil => intro _ N hN; exact hN
    | cons e E' ih =>
      intro hE' N hN
      obtain ⟨⟨h1, h2⟩, h3, h4⟩ := h.bnd _ _ (hE' e (by simp))
      show bndM _ _ _ (runPM mvC _ _ E' (sendM mvC _ _ 0 e.1 _ e.2 N))
      refine ih (fun e' he' => hE' e' (by simp [he'])) _ ?_
      rw [hmany]
      exact sendM_c (sndO_at hi hs) hr _ 0 _ _ _ _ (Nat.zero_add _) h4 ⟨by omega, h2⟩ ⟨by omega, hp2⟩ h3.1 (by omega) hN
   exact key E (fun e he => (hE e.1 e.2).1 he) _ (fun σ q hq => by cases hq)
theorem Entails.froSlot {s : St} (i d kk n : Nat) (g : Nat → List DV) (hi : s.tmps i = .buf d) (hd : s.res d = some (.fro kk n g)) :
 Entails s (s.app ⟨some i, .d (.ro kk n g), [], []⟩) := by
 refine ⟨fun A a w => ?_⟩
 rintro ⟨h0, G, β, h⟩
 refine ⟨h0, G, β, h.sz, h.g0, h.e0, h.gw, h.gn, h.keep, fun j => ?_, h.rs, h.dj, h.og, h.sc⟩
 simp only [St.app, putT_apply]
 by_cases e : i = j
 · subst e
   simp only [if_true]
   have ht := h.tm i
   rw [hi] at ht
   generalize a.tmps.getD i Go.undef = v at ht
   obtain ⟨u, hu, hro⟩ := h.rs _ _ hd
   cases ht with | buf _ _ hb _ =>
   rw [hb] at hu; cases hu
   exact .d _ _ hro
 · rw [if_neg (by simp [e])]
   exact h.tm j
theorem bytes_zero (J : Nat) {g : Nat → List DV} (hg : ∀ i, g i = [.int .u8 0]) : bytesOf ((J : Int).toNat) g (List.replicate J 0) := by
 refine ⟨by simp, fun i hi => ?_⟩
 have hi : i < J := by simpa using hi
 rw [hg, List.getD_eq_getElem?_getD, List.getElem?_replicate, if_pos hi]; rfl
set_option maxHeartbeats 16000000 in
theorem p35x (X : Nat → Prop) (n : List Ned) (r : List Roa) (hn : ndsE n = 0) (hr : rdsE r = 0) : FSpec Tryz.prog 35 [.d (neds n), .d (roas r)] [(1000007, .inX X)]
 (fun y q => (∃ o, (∃ M, NowI n r n.length M ∧ o = M (List.replicate (wanS n n.length).length 0)) ∧ y = .tup [.d (.frs 70 3 (plL o).length X (rowF mvF mv0 (plL o))), .d (.bool o.isSome)]) ∧ q = [(1000007, .inX X)]) := by
 have hl := (nds_all hn).1
 have hrl := (rds_all hr).1
 have hmn := ned_many hn
 refine spec_of hT (C := [18]) Tryz.func35 rfl Tryz.call35 rfl rfl rfl ?_
 conv => whnf
 repeat' (first | (refine br_intro ?_ ?_ <;> intro hb <;> (try simp only [brs] at hb) <;> conv => whnf) | omega | (refine And.intro ?_ ?_; ((try dsimp only); first | omega | (refine szA rfl ?_; omega) | (refine szB rfl ?_; omega) | (unfold inI64; omega) | exact rfl | (simp only [lns] at *; omega) | decide | (unfold inI64; decide)); conv => whnf) | decide | assumption)
 refine LoopX.rule hT (C := [18]) (ι := Nat) (fun i => i ≤ n.length) (fun i => mkSt [(0, .d (neds n)), (1, .d (roas r)), (6, .buf 601), (7, .buf 602), (19, .d (neds n)), (20, .d (.int .i64 n.length)), (21, .d (.int .i64 i))] [(1000007, .inX X), (601, seqB 9 1 sF [] (wanS n i)), (602, seqB 5 1 byteD 0 (byS n i))]) (fun i => n.length - i) 0 (by show 0 ≤ _; omega) ?_ ?_
 · refine (Entails.nil 6 601 9 1 (rowF sF [] []) rfl rfl (by decide)).trans ?_
   exact Entails.mk' [(1000007, 1000007), (601, 601), (602, 18)] rfl rfl ⟨lr, lr, lr, lr, lr, lr, lr, trivial⟩ ⟨rr, rr, Res.le_lit rfl rfl, trivial⟩
 rintro i hi
 have hi : i ≤ n.length := hi
 have e1 : (i : Int).toNat = i := Int.toNat_natCast i
 have hmi := hmn i
 unfold manyP at hmi
 rw [← e1] at hmi
 have hwl := wanS_len n i
 have hbl := byS_len n i
 rcases Nat.lt_or_ge i n.length with hin | hin
 · conv => whnf
   repeat' (first | (refine br_intro ?_ ?_ <;> intro hb <;> (try simp only [brs] at hb) <;> conv => whnf) | omega | (refine And.intro ?_ ?_; ((try dsimp only); first | omega | (refine szA rfl ?_; omega) | (refine szB rfl ?_; omega) | (unfold inI64; omega) | exact rfl | (simp only [lns] at *; omega) | decide | (unfold inI64; decide)); conv => whnf) | decide | assumption)
   all_goals try (exfalso; omega)
   · have hbm : manyP n i < 0 := hb
     refine ⟨i + 1, by omega, by omega, Entails.mk' [(1000007, 1000007), (601, 32), (602, 39)] rfl rfl ⟨lr, lr, lr, lr, lr, lr, lr, trivial⟩ ⟨rr, ?_, ?_, trivial⟩⟩
     · show Res.le _ (seqB 9 1 sF [] (wanS n (i + 1)))
       rw [wanS_succ, if_pos hbm]
       exact Res.le_snocF rfl
     · show Res.le _ (seqB 5 1 byteD 0 (byS n (i + 1)))
       rw [byS_succ, if_pos hbm]
       refine Res.le_snocF ?_
       have hv : IntKind.u8.wrap (0 - manyP n i) = ((UInt8.ofNat (0 - manyP n i).toNat).toNat : Int) := by
        have := hmn i
        rw [IntWalk.u8_in _ (by omega), UInt8.toNat_ofNat']; omega
       exact congrArg (fun z => [DV.int IntKind.u8 z]) hv
   · have hbm : ¬ manyP n i < 0 := by unfold manyP; omega
     refine ⟨i + 1, by omega, by omega, Entails.mk' [(1000007, 1000007), (601, 601), (602, 602)] rfl rfl ⟨lr, lr, lr, lr, lr, lr, lr, trivial⟩ ⟨rr, ?_, ?_, trivial⟩⟩
     · show Res.le _ (seqB 9 1 sF [] (wanS n (i + 1)))
       rw [wanS_succ, if_neg hbm, List.append_nil]; exact rr
     · show Res.le _ (seqB 5 1 byteD 0 (byS n (i + 1)))
       rw [byS_succ, if_neg hbm, List.append_nil]; exact rr
 · have hin : i = n.length := by omega
   rw [hin] at hwl hbl ⊢
   clear hmi
   conv => whnf
   repeat' (first | (refine ⟨byS n n.length, ⟨rfl, fun _ _ => rfl⟩, ?_⟩; conv => whnf) | (refine br_intro ?_ ?_ <;> intro hb <;> (try simp only [brs] at hb) <;> conv => whnf) | omega | (refine And.intro ?_ ?_; ((try dsimp only); first | omega | (refine szA rfl ?_; omega) | (refine szB rfl ?_; omega) | (unfold inI64; omega) | exact rfl | (simp only [lns] at *; omega) | decide | (unfold inI64; decide)); conv => whnf) | decide | assumption)
   all_goals try (exfalso; omega)
   refine LoopX.freeze 601 9 1 _ _ rfl ?_
   refine LoopX.rule hT (C := [18]) (ι := Nat × PMap Mov) (fun (i, M) => i ≤ n.length ∧ NowI n r i M) (fun (i, M) => mkSt [(1, .d (roas r)), (6, .d (strs (wanS n n.length))), (10, .mp 41), (46, .d (neds n)), (47, .d (.int .i64 n.length)), (48, .d (.int .i64 i))] [(1000007, .inX X), (41, pmR X M)]) (fun (i, _) => n.length - i) (0, fun τ => if τ = byS n n.length then some ⟨[], 0⟩ else none) ⟨by show 0 ≤ _; omega, nowI_init n r⟩ ?_ ?_
   · refine (Entails.froSlot 6 601 1 _ _ rfl rfl).trans ?_
     exact Entails.mk' [(1000007, 1000007), (41, 41)] rfl rfl ⟨lr, lr, lr, lr, lr, lr, trivial⟩ ⟨rr, pmR_one _, trivial⟩
   clear hin e1
   rintro ⟨i, M⟩ ⟨hi, hN⟩
   have hi : i ≤ n.length := hi
   have hN : NowI n r i M := hN
   have e1 : (i : Int).toNat = i := Int.toNat_natCast i
   have hmi := hmn i
   unfold manyP at hmi
   rw [← e1] at hmi
   rcases Nat.lt_or_ge i n.length with hin | hin
   · by_cases hpos : 0 < manyP n i
     · have hso := sndO_at (r := r) hin (decide_eq_true hpos)
       obtain ⟨s, hs⟩ : ∃ s, s = stnN n r (filK (srcP n) i).length := ⟨_, rfl⟩
       have hsm : s.many = (n.getD (i : Int).toNat nd0).many := by rw [hs, e1]; show manyP n (nsN n _) = _; rw [nsN_at hin (decide_eq_true hpos)]; rfl
       rw [← hs] at hso
       rw [← e1] at hso
       conv => whnf
       repeat' (first | (intro clock kb hkb; conv => whnf) | (refine br_intro ?_ ?_ <;> intro hb <;> (try simp only [brs] at hb) <;> conv => whnf) | omega | (refine And.intro ?_ ?_; ((try dsimp only); first | omega | (refine szA rfl ?_; omega) | (refine szB rfl ?_; omega) | (unfold inI64; omega) | exact rfl | (simp only [lns] at *; omega) | decide | (unfold inI64; decide)); conv => whnf) | decide | assumption)
       all_goals try (exfalso; unfold manyP at hpos; omega)
       refine LoopX.rule hT (C := [18]) (ι := List Nat × List (List UInt8 × Pla Mov)) (fun (seen, E) => (∀ e ∈ E, M e.1 = some e.2) ∧ (∀ σ b, ([DV.str σ], b) ∈ kb → b ∈ seen → ∃ p, (σ, p) ∈ E) ∧ mapB (runPM mvC s (wanS n n.length).length E fun _ => none))
        (fun (seen, E) => mkSt [(1, .d (roas r)), (6, .d (strs (wanS n n.length))), (12, .ptr 12 0), (13, .mp 55), (46, .d (neds n)), (47, .d (.int .i64 n.length)), (48, .d (.int .i64 i)), (57, .ptr 57 0)] [(1000007, .inX X), (41, .mapB false true [.str] [.nilsl, .int .i64 0] (pmH M) (pmV X M) clock kb), (55, pmR X (runPM mvC s (wanS n n.length).length E fun _ => none)), (57, .iter 41 clock seen), (12, .cells 58 ((ndF (n.getD (i : Int).toNat nd0)).map .d))])
        (fun (seen, _) => (kb.filter fun p => !seen.contains p.2).length) ([], []) ⟨(fun e he => by cases he), (fun σ b _ hb => by cases hb), (fun σ q hq => by cases hq)⟩ ?_ ?_
       · exact Entails.mk' [(1000007, 1000007), (41, 41), (55, 55), (57, 57), (12, 12)] rfl rfl ⟨lr, lr, lr, lr, lr, lr, lr, lr, trivial⟩ ⟨rr, rr, Res.le_map (fun _ _ => ⟨rfl, rfl⟩), rr, rr, trivial⟩
       rintro ⟨seen, E⟩ ⟨g1, g2, g3⟩
       have g1 : ∀ e ∈ E, M e.1 = some e.2 := g1
       have g2 : ∀ σ b, ([DV.str σ], b) ∈ kb → b ∈ seen → ∃ p, (σ, p) ∈ E := g2
       have g3 : mapB (runPM mvC s (wanS n n.length).length E fun _ => none) := g3
       conv => whnf
       repeat' (first | (refine br_intro ?_ ?_ <;> intro hb <;> (try simp only [brs] at hb) <;> conv => whnf) | omega | (refine And.intro ?_ ?_; ((try dsimp only); first | omega | (refine szA rfl ?_; omega) | (refine szB rfl ?_; omega) | (unfold inI64; omega) | exact rfl | (simp only [lns] at *; omega) | decide | (unfold inI64; decide)); conv => whnf) | decide | assumption)
       refine ⟨rfl, fun key b hkb1 hseen => ?_, fun hall => ?_⟩
       · obtain ⟨σ, rfl⟩ := wk_str (hkb.kw _ hkb1)
         have hhas : pmH M [.str σ] = true := (hkb.kh _ (hkb.kw _ hkb1)).2 ⟨_, hkb1⟩
         obtain ⟨p, hMp⟩ : ∃ p, M σ = some p := by
          have : (M σ).isSome = true := hhas
          cases h : M σ with
          | none => rw [h] at this; cases this
          | some p => exact ⟨p, rfl⟩
         have hv : pmV X M [.str σ] = pzF X p := by unfold pmV; rw [show M (keyS [.str σ]) = some p from hMp]; rfl
         obtain ⟨⟨b1, b2⟩, b3, b4⟩ := hN.bnd σ p hMp
         have hij : i * (wanS n n.length).length ≤ 10 * 10 := Nat.mul_le_mul (by omega) (by omega)
         have hroom : roomP p (n.getD (i : Int).toNat nd0).many (wanS n n.length).length := ⟨⟨by omega, b2⟩, ⟨by have : 0 < (n.getD i nd0).many := hpos; rw [e1]; omega, by omega⟩, b3.1, by omega⟩
         have h69 := p69 (X := X) hso hr (by omega) (wanS n n.length).length 0 σ (n.getD (i : Int).toNat nd0).many p (runPM mvC s (wanS n n.length).length E fun _ => none) (Nat.zero_add _) b4 hroom g3
         have hg3 : mapB (runPM mvC s (wanS n n.length).length (E ++ [(σ, p)]) fun _ => none) := by
          rw [runPM_snoc]
          refine sendM_b hso hr _ 0 _ _ _ _ (Nat.zero_add _) ?_ g3
          rw [hsm]; exact hroom
         conv => whnf
         repeat' (first | (rw [hv]; conv => whnf) | (refine ⟨rfl, _, hkb1, ?_⟩; conv => whnf) | (refine CallX.of h69 [(1000000, 55), (1000007, 1000007)] rfl ⟨lr, lr, lr, lr, lr, lr, lr, lr, trivial⟩ ⟨rr, rr, trivial⟩ rfl rfl ?_; rintro x' rout ⟨rfl, rfl⟩; refine ⟨rfl, ?_⟩; conv => whnf) | (refine br_intro ?_ ?_ <;> intro hb <;> (try simp only [brs] at hb) <;> conv => whnf) | omega | (refine And.intro ?_ ?_; ((try dsimp only); first | omega | (refine szA rfl ?_; omega) | (refine szB rfl ?_; omega) | (unfold inI64; omega) | exact rfl | (simp only [lns] at *; omega) | decide | (unfold inI64; decide)); conv => whnf) | decide | assumption)
         all_goals try (exfalso; omega)
         refine ⟨(b :: seen, E ++ [(σ, p)]), ⟨fun e he => ?_, fun τ b2' hk2 hb2 => ?_, hg3⟩, ?_, Entails.mk' [(1000007, 1000007), (41, 41), (55, 55), (57, 57), (12, 12)] rfl rfl ⟨lr, lr, lr, lr, lr, lr, lr, lr, trivial⟩ ⟨rr, rr, ?_, rr, rr, trivial⟩⟩
         · rcases List.mem_append.1 he with q | q
           · exact g1 e q
           · have : e = (σ, p) := by simpa using q
             rw [this]; exact hMp
         · rcases List.mem_cons.1 hb2 with q | q
           · have hst := KB_stamp hkb hk2 hkb1
             have : ([DV.str τ] : List DV) = [.str σ] := hst.1 q
             have : τ = σ := by simpa using this
             exact ⟨p, List.mem_append_right _ (by rw [this]; simp)⟩
           · obtain ⟨p', hp'⟩ := g2 τ b2' hk2 q
             exact ⟨p', List.mem_append_left _ hp'⟩
         · show (kb.filter fun p => !(b :: seen).contains p.2).length < (kb.filter fun p => !seen.contains p.2).length
           have e : kb.filter (fun p => !(b :: seen).contains p.2) = (kb.filter fun p => !seen.contains p.2).filter fun p => !(p.2 == b) := by
            rw [List.filter_filter]
            refine List.filter_congr fun p _ => ?_
            simp [List.contains_cons, Bool.and_comm]
            rfl
           rw [e]
           refine Nat.lt_of_le_of_ne (List.length_filter_le _ _) (fun q => ?_)
           have := (List.length_filter_eq_length_iff.1 q) ([.str σ], b) (List.mem_filter.2 ⟨hkb1, by simpa using hseen⟩)
           simp at this
         · show Res.le _ (pmR X (runPM mvC s (wanS n n.length).length (E ++ [(σ, p)]) fun _ => none))
           refine pmR_eq fun s' => ?_
           rw [runPM_snoc, hsm]
       · have hE : ∀ σ p, (σ, p) ∈ E ↔ M σ = some p := fun σ p => ⟨fun h => g1 _ h, fun h => by
          have hhas : pmH M [.str σ] = true := by unfold pmH; rw [show M (keyS [.str σ]) = some p from h]; rfl
          obtain ⟨b, hb⟩ := (hkb.kh [.str σ] (by simp [wk, wk1])).1 hhas
          obtain ⟨p', hp'⟩ := g2 σ b hb (hall _ hb)
          have := g1 _ hp'
          have h3 : M σ = some p' := this
          rw [h] at h3; cases h3; exact hp'⟩
         have hnx := hN.next hin hpos (by have := hmn i; omega) hr hE
         rw [← hs] at hnx
         conv => whnf
         repeat' (first | (refine br_intro ?_ ?_ <;> intro hb <;> (try simp only [brs] at hb) <;> conv => whnf) | omega | (refine And.intro ?_ ?_; ((try dsimp only); first | omega | (refine szA rfl ?_; omega) | (refine szB rfl ?_; omega) | (unfold inI64; omega) | exact rfl | (simp only [lns] at *; omega) | decide | (unfold inI64; decide)); conv => whnf) | decide | assumption)
         all_goals try (exfalso; omega)
         exact ⟨(i + 1, runPM mvC s (wanS n n.length).length E fun _ => none), ⟨by show i + 1 ≤ n.length; omega, hnx⟩, by show n.length - (i + 1) < n.length - i; omega, Entails.mk' [(1000007, 1000007), (41, 55)] rfl rfl ⟨lr, lr, lr, lr, lr, lr, trivial⟩ ⟨rr, rr, trivial⟩⟩
     · conv => whnf
       repeat' (first | (refine br_intro ?_ ?_ <;> intro hb <;> (try simp only [brs] at hb) <;> conv => whnf) | omega | (refine And.intro ?_ ?_; ((try dsimp only); first | omega | (refine szA rfl ?_; omega) | (refine szB rfl ?_; omega) | (unfold inI64; omega) | exact rfl | (simp only [lns] at *; omega) | decide | (unfold inI64; decide)); conv => whnf) | decide | assumption)
       all_goals try (exfalso; unfold manyP at hpos; omega)
       exact ⟨(i + 1, M), ⟨by show i + 1 ≤ n.length; omega, hN.skip hpos⟩, by show n.length - (i + 1) < n.length - i; omega, Entails.mk' [(1000007, 1000007), (41, 41)] rfl rfl ⟨lr, lr, lr, lr, lr, lr, trivial⟩ ⟨rr, rr, trivial⟩⟩
   · have hin : i = n.length := by omega
     subst hin
     have hZ : ∀ o, M (List.replicate (wanS n n.length).length 0) = o → pmV X M [.str (List.replicate (wanS n n.length).length 0)] = pzV X o ∧ pmH M [.str (List.replicate (wanS n n.length).length 0)] = o.isSome := fun o h => by
      unfold pmV pmH
      rw [show M (keyS [.str (List.replicate (wanS n n.length).length 0)]) = o from h]
      exact ⟨rfl, rfl⟩
     cases hMo : M (List.replicate (wanS n n.length).length 0) with
     | none =>
       obtain ⟨hv, hh⟩ := hZ _ hMo
       have hv : pmV X M [.str (List.replicate (wanS n n.length).length 0)] = [.nilsl, .int .i64 0] := hv
       have hh : pmH M [.str (List.replicate (wanS n n.length).length 0)] = false := hh
       conv => whnf
       repeat' (first | (refine And.intro (rfl : zrow _ = some [.nilsl, .int .i64 0]) ?_; conv => whnf) | (refine ⟨List.replicate (wanS n n.length).length 0, bytes_zero _ (fun _ => rfl), ?_⟩; conv => whnf) | (rw [hv, hh]; conv => whnf) | (refine br_intro ?_ ?_ <;> intro hb <;> (try simp only [brs] at hb) <;> conv => whnf) | omega | (refine And.intro ?_ ?_; ((try dsimp only); first | omega | (refine szA rfl ?_; omega) | (refine szB rfl ?_; omega) | (unfold inI64; omega) | exact rfl | (simp only [lns] at *; omega) | decide | (unfold inI64; decide)); conv => whnf) | decide | assumption)
       all_goals try (exfalso; omega)
       refine .weak _ ?_
       conv => whnf
       exact ⟨.tup [.d (frsM X []), .d (.bool false)], _, SV.le_tup ⟨SV.le_nilF, lr, trivial⟩, ⟨⟨none, ⟨M, hN, hMo.symm⟩, rfl⟩, rfl⟩, rr, trivial⟩
     | some q =>
       obtain ⟨hv, hh⟩ := hZ _ hMo
       have hv : pmV X M [.str (List.replicate (wanS n n.length).length 0)] = pzF X q := hv
       have hh : pmH M [.str (List.replicate (wanS n n.length).length 0)] = true := hh
       conv => whnf
       repeat' (first | (refine And.intro (rfl : zrow _ = some [.nilsl, .int .i64 0]) ?_; conv => whnf) | (refine ⟨List.replicate (wanS n n.length).length 0, bytes_zero _ (fun _ => rfl), ?_⟩; conv => whnf) | (rw [hv, hh]; conv => whnf) | (refine br_intro ?_ ?_ <;> intro hb <;> (try simp only [brs] at hb) <;> conv => whnf) | omega | (refine And.intro ?_ ?_; ((try dsimp only); first | omega | (refine szA rfl ?_; omega) | (refine szB rfl ?_; omega) | (unfold inI64; omega) | exact rfl | (simp only [lns] at *; omega) | decide | (unfold inI64; decide)); conv => whnf) | decide | assumption)
       all_goals try (exfalso; omega)
       refine .weak _ ?_
       conv => whnf
       exact ⟨.tup [.d (frsM X q.l), .d (.bool true)], _, SV.le_tup ⟨lr, lr, trivial⟩, ⟨⟨some q, ⟨M, hN, hMo.symm⟩, rfl⟩, rfl⟩, rr, trivial⟩
theorem p35 (n : List Ned) (r : List Roa) (hn : ndsE n = 0) (hr : rdsE r = 0) : FSpec Tryz.prog 35 [.d (neds n), .d (roas r)] []
 (fun y q => ∃ o, (∃ M, NowI n r n.length M ∧ o = M (List.replicate (wanS n n.length).length 0)) ∧ (((plL o).length = 0 ∧ y = .tup [.d (.ro 3 0 (rowF mvF mv0 (plL o))), .d (.bool o.isSome)] ∧ q = []) ∨ (0 < (plL o).length ∧ y = .tup [.buf 7, .d (.bool o.isSome)] ∧ q = [(7, .buf 70 3 (plL o).length (rowF mvF mv0 (plL o)))]))) :=
 FSpec.thaw (S := fun o => ∃ M, NowI n r n.length M ∧ o = M (List.replicate (wanS n n.length).length 0)) (N := fun o => (plL o).length) (Gt := fun o => rowF mvF mv0 (plL o)) (B := fun o => o.isSome) (by decide) (fun X => p35x X n r hn hr) fun o _ i j x _ hx => by
  unfold rowF mvF at hx
  match j, hx with
  | 0, hx => cases hx; rfl
  | 1, hx => cases hx; rfl
  | 2, hx => cases hx; rfl
theorem pof_best {n : List Ned} {r : List Roa} {M : PMap Mov} (hn : ndsE n = 0) (hr : rdsE r = 0) (h : NowI n r n.length M) :
 match M (List.replicate (wanS n n.length).length 0) with
 | none => ∀ x, ¬ (nwG n r).Fl (kindB n) (getI (havL n)) (getI (wntL n)) x
 | some q => ∃ x, (nwG n r).Best (kindB n) (getI (havL n)) (getI (wntL n)) q.cost x ∧ q.l = lsV (mvN n r) (nwG n r).K 0 x := by
 have hJ : (wanS n n.length).length = (dstL n).length := by unfold wanS; rw [List.length_map]; rfl
 have hS : (filK (srcP n) n.length).length = (srcL n).length := rfl
 have hnow := h.min
 rw [hJ, hS] at hnow
 rw [hJ]
 have z1 : ∀ i, i < (srcL n).length → 0 ≤ (stnN n r i).many := fun i hi => by
  have := (srcL_at hi).2
  show 0 ≤ manyP n (nsN n i); omega
 have z2 : (byS n n.length).length = (dstL n).length := by
  rw [byS_len, hJ]
 have z3 : ∀ i, i < (srcL n).length → getI (havL n) (nsN n i) = (stnN n r i).many := fun i hi => by
  have := srcL_at hi
  rw [getI_hav this.1]
  show havF n (nsN n i) = manyP n (nsN n i)
  unfold havF; omega
 have z4 : ∀ v, v < (nwG n r).N → kindB n v = true → (∀ j, j < (srcL n).length → v ≠ nsN n j) → 0 ≤ getI (havL n) v := fun v hv _ _ => by
  rw [getI_hav hv]; exact (havF_bd hn v).1.1
 have z5 : ∀ k, k < (dstL n).length → getI (wntL n) (nwN n k) = (((byS n n.length).getD k 0).toNat : Int) := fun k hk => by
  have h1 := dstL_at hk
  rw [getI_wnt h1.1]
  have h2 := ned_many hn (nwN n k)
  have h3 : (byS n n.length).getD k 0 = UInt8.ofNat (0 - manyP n (nwN n k)).toNat := by
   have e2 : (dstL n).getD k 0 = (dstL n)[k] := by rw [List.getD_eq_getElem?_getD, List.getElem?_eq_getElem hk]; rfl
   unfold byS nwN
   rw [e2, List.getD_eq_getElem?_getD, List.getElem?_map, show filK (dstP n) n.length = dstL n from rfl, List.getElem?_eq_getElem hk]; rfl
  rw [h3, UInt8.toNat_ofNat']
  unfold wntF; omega
 have z6 : ∀ a b u v, a < b → b < (nwG n r).K → mvC (mvN n r a u) (mvN n r b v) < 0 := fun a b u v hab hb => by
  have h1 := nwG_inc (n := n) (r := r) hab hb
  refine mvC_ends ?_
  rcases h1 with q | ⟨q1, q2⟩
  · exact .inl (nds_inc hn q (arL_mem (nwG_at hb)).1.1)
  · exact .inr ⟨by rw [q1], nds_inc hn q2 (arL_mem (nwG_at hb)).2.1.1⟩
 have key := planOf_best (h := getI (havL n)) (w := getI (wntL n)) mvC_ord (num := fun m : Mov => m.many) (nwG_bip n r) (layN n r) (posN_zero n r) z1 z2 z3 z4 z5 (fun _ _ => rfl) (fun _ _ _ => rfl) (fun a u v huv => mvC_many huv) z6 hnow
 cases hM : M (List.replicate (dstL n).length 0) with
 | none => rw [hM] at key; exact key
 | some q => rw [hM] at key; exact key
theorem s221_0 : FSpec Tryz.prog 108 [.d (.int .u64 0)] [] (fun y r => (∃ m : Int, y = .d (.int .i64 m)) ∧ r = []) := by
 refine spec_of hT (C := []) Tryz.func108 rfl Tryz.call108 rfl rfl rfl ?_
 conv => whnf
 repeat' (first | (refine br_intro ?_ ?_ <;> intro hb <;> (try simp only [brs] at hb) <;> conv => whnf) | omega | (refine And.intro ?_ ?_; ((try dsimp only); first | omega | (refine szA rfl ?_; omega) | (refine szB rfl ?_; omega) | (unfold inI64; omega) | exact rfl | (simp only [lns] at *; omega) | decide | (unfold inI64; decide)); conv => whnf) | decide | assumption)
 refine .ret _ ?_
 conv => whnf
 exact ⟨[], ⟨⟨_, rfl⟩, rfl⟩, trivial⟩
theorem s221_1 : FSpec Tryz.prog 108 [.d (.int .u64 1)] [] (fun y r => (∃ m : Int, y = .d (.int .i64 m)) ∧ r = []) := by
 refine spec_of hT (C := []) Tryz.func108 rfl Tryz.call108 rfl rfl rfl ?_
 conv => whnf
 repeat' (first | (refine br_intro ?_ ?_ <;> intro hb <;> (try simp only [brs] at hb) <;> conv => whnf) | omega | (refine And.intro ?_ ?_; ((try dsimp only); first | omega | (refine szA rfl ?_; omega) | (refine szB rfl ?_; omega) | (unfold inI64; omega) | exact rfl | (simp only [lns] at *; omega) | decide | (unfold inI64; decide)); conv => whnf) | decide | assumption)
 refine .ret _ ?_
 conv => whnf
 exact ⟨[], ⟨⟨_, rfl⟩, rfl⟩, trivial⟩
theorem s221_2 : FSpec Tryz.prog 108 [.d (.int .u64 2)] [] (fun y r => (∃ m : Int, y = .d (.int .i64 m)) ∧ r = []) := by
 refine spec_of hT (C := []) Tryz.func108 rfl Tryz.call108 rfl rfl rfl ?_
 conv => whnf
 repeat' (first | (refine br_intro ?_ ?_ <;> intro hb <;> (try simp only [brs] at hb) <;> conv => whnf) | omega | (refine And.intro ?_ ?_; ((try dsimp only); first | omega | (refine szA rfl ?_; omega) | (refine szB rfl ?_; omega) | (unfold inI64; omega) | exact rfl | (simp only [lns] at *; omega) | decide | (unfold inI64; decide)); conv => whnf) | decide | assumption)
 refine .ret _ ?_
 conv => whnf
 exact ⟨[], ⟨⟨_, rfl⟩, rfl⟩, trivial⟩
theorem s221_3 : FSpec Tryz.prog 108 [.d (.int .u64 3)] [] (fun y r => (∃ m : Int, y = .d (.int .i64 m)) ∧ r = []) := by
 refine spec_of hT (C := []) Tryz.func108 rfl Tryz.call108 rfl rfl rfl ?_
 conv => whnf
 repeat' (first | (refine br_intro ?_ ?_ <;> intro hb <;> (try simp only [brs] at hb) <;> conv => whnf) | omega | (refine And.intro ?_ ?_; ((try dsimp only); first | omega | (refine szA rfl ?_; omega) | (refine szB rfl ?_; omega) | (unfold inI64; omega) | exact rfl | (simp only [lns] at *; omega) | decide | (unfold inI64; decide)); conv => whnf) | decide | assumption)
 refine .ret _ ?_
 conv => whnf
 exact ⟨[], ⟨⟨_, rfl⟩, rfl⟩, trivial⟩
theorem s221_4 : FSpec Tryz.prog 108 [.d (.int .u64 4)] [] (fun y r => (∃ m : Int, y = .d (.int .i64 m)) ∧ r = []) := by
 refine spec_of hT (C := []) Tryz.func108 rfl Tryz.call108 rfl rfl rfl ?_
 conv => whnf
 repeat' (first | (refine br_intro ?_ ?_ <;> intro hb <;> (try simp only [brs] at hb) <;> conv => whnf) | omega | (refine And.intro ?_ ?_; ((try dsimp only); first | omega | (refine szA rfl ?_; omega) | (refine szB rfl ?_; omega) | (unfold inI64; omega) | exact rfl | (simp only [lns] at *; omega) | decide | (unfold inI64; decide)); conv => whnf) | decide | assumption)
 refine .ret _ ?_
 conv => whnf
 exact ⟨[], ⟨⟨_, rfl⟩, rfl⟩, trivial⟩
theorem s221_5 : FSpec Tryz.prog 108 [.d (.int .u64 5)] [] (fun y r => (∃ m : Int, y = .d (.int .i64 m)) ∧ r = []) := by
 refine spec_of hT (C := []) Tryz.func108 rfl Tryz.call108 rfl rfl rfl ?_
 conv => whnf
 repeat' (first | (refine br_intro ?_ ?_ <;> intro hb <;> (try simp only [brs] at hb) <;> conv => whnf) | omega | (refine And.intro ?_ ?_; ((try dsimp only); first | omega | (refine szA rfl ?_; omega) | (refine szB rfl ?_; omega) | (unfold inI64; omega) | exact rfl | (simp only [lns] at *; omega) | decide | (unfold inI64; decide)); conv => whnf) | decide | assumption)
 refine .ret _ ?_
 conv => whnf
 exact ⟨[], ⟨⟨_, rfl⟩, rfl⟩, trivial⟩
theorem s221_6 : FSpec Tryz.prog 108 [.d (.int .u64 6)] [] (fun y r => (∃ m : Int, y = .d (.int .i64 m)) ∧ r = []) := by
 refine spec_of hT (C := []) Tryz.func108 rfl Tryz.call108 rfl rfl rfl ?_
 conv => whnf
 repeat' (first | (refine br_intro ?_ ?_ <;> intro hb <;> (try simp only [brs] at hb) <;> conv => whnf) | omega | (refine And.intro ?_ ?_; ((try dsimp only); first | omega | (refine szA rfl ?_; omega) | (refine szB rfl ?_; omega) | (unfold inI64; omega) | exact rfl | (simp only [lns] at *; omega) | decide | (unfold inI64; decide)); conv => whnf) | decide | assumption)
 refine .ret _ ?_
 conv => whnf
 exact ⟨[], ⟨⟨_, rfl⟩, rfl⟩, trivial⟩
theorem s221_7 : FSpec Tryz.prog 108 [.d (.int .u64 7)] [] (fun y r => (∃ m : Int, y = .d (.int .i64 m)) ∧ r = []) := by
 refine spec_of hT (C := []) Tryz.func108 rfl Tryz.call108 rfl rfl rfl ?_
 conv => whnf
 repeat' (first | (refine br_intro ?_ ?_ <;> intro hb <;> (try simp only [brs] at hb) <;> conv => whnf) | omega | (refine And.intro ?_ ?_; ((try dsimp only); first | omega | (refine szA rfl ?_; omega) | (refine szB rfl ?_; omega) | (unfold inI64; omega) | exact rfl | (simp only [lns] at *; omega) | decide | (unfold inI64; decide)); conv => whnf) | decide | assumption)
 refine .ret _ ?_
 conv => whnf
 exact ⟨[], ⟨⟨_, rfl⟩, rfl⟩, trivial⟩
theorem s221_8 : FSpec Tryz.prog 108 [.d (.int .u64 8)] [] (fun y r => (∃ m : Int, y = .d (.int .i64 m)) ∧ r = []) := by
 refine spec_of hT (C := []) Tryz.func108 rfl Tryz.call108 rfl rfl rfl ?_
 conv => whnf
 repeat' (first | (refine br_intro ?_ ?_ <;> intro hb <;> (try simp only [brs] at hb) <;> conv => whnf) | omega | (refine And.intro ?_ ?_; ((try dsimp only); first | omega | (refine szA rfl ?_; omega) | (refine szB rfl ?_; omega) | (unfold inI64; omega) | exact rfl | (simp only [lns] at *; omega) | decide | (unfold inI64; decide)); conv => whnf) | decide | assumption)
 refine .ret _ ?_
 conv => whnf
 exact ⟨[], ⟨⟨_, rfl⟩, rfl⟩, trivial⟩
theorem s221_9 : FSpec Tryz.prog 108 [.d (.int .u64 9)] [] (fun y r => (∃ m : Int, y = .d (.int .i64 m)) ∧ r = []) := by
 refine spec_of hT (C := []) Tryz.func108 rfl Tryz.call108 rfl rfl rfl ?_
 conv => whnf
 repeat' (first | (refine br_intro ?_ ?_ <;> intro hb <;> (try simp only [brs] at hb) <;> conv => whnf) | omega | (refine And.intro ?_ ?_; ((try dsimp only); first | omega | (refine szA rfl ?_; omega) | (refine szB rfl ?_; omega) | (unfold inI64; omega) | exact rfl | (simp only [lns] at *; omega) | decide | (unfold inI64; decide)); conv => whnf) | decide | assumption)
 refine .ret _ ?_
 conv => whnf
 exact ⟨[], ⟨⟨_, rfl⟩, rfl⟩, trivial⟩
theorem s221_10 : FSpec Tryz.prog 108 [.d (.int .u64 10)] [] (fun y r => (∃ m : Int, y = .d (.int .i64 m)) ∧ r = []) := by
 refine spec_of hT (C := []) Tryz.func108 rfl Tryz.call108 rfl rfl rfl ?_
 conv => whnf
 repeat' (first | (refine br_intro ?_ ?_ <;> intro hb <;> (try simp only [brs] at hb) <;> conv => whnf) | omega | (refine And.intro ?_ ?_; ((try dsimp only); first | omega | (refine szA rfl ?_; omega) | (refine szB rfl ?_; omega) | (unfold inI64; omega) | exact rfl | (simp only [lns] at *; omega) | decide | (unfold inI64; decide)); conv => whnf) | decide | assumption)
 refine .ret _ ?_
 conv => whnf
 exact ⟨[], ⟨⟨_, rfl⟩, rfl⟩, trivial⟩
theorem s221_11 : FSpec Tryz.prog 108 [.d (.int .u64 11)] [] (fun y r => (∃ m : Int, y = .d (.int .i64 m)) ∧ r = []) := by
 refine spec_of hT (C := []) Tryz.func108 rfl Tryz.call108 rfl rfl rfl ?_
 conv => whnf
 repeat' (first | (refine br_intro ?_ ?_ <;> intro hb <;> (try simp only [brs] at hb) <;> conv => whnf) | omega | (refine And.intro ?_ ?_; ((try dsimp only); first | omega | (refine szA rfl ?_; omega) | (refine szB rfl ?_; omega) | (unfold inI64; omega) | exact rfl | (simp only [lns] at *; omega) | decide | (unfold inI64; decide)); conv => whnf) | decide | assumption)
 refine .ret _ ?_
 conv => whnf
 exact ⟨[], ⟨⟨_, rfl⟩, rfl⟩, trivial⟩
theorem s221_12 : FSpec Tryz.prog 108 [.d (.int .u64 12)] [] (fun y r => (∃ m : Int, y = .d (.int .i64 m)) ∧ r = []) := by
 refine spec_of hT (C := []) Tryz.func108 rfl Tryz.call108 rfl rfl rfl ?_
 conv => whnf
 repeat' (first | (refine br_intro ?_ ?_ <;> intro hb <;> (try simp only [brs] at hb) <;> conv => whnf) | omega | (refine And.intro ?_ ?_; ((try dsimp only); first | omega | (refine szA rfl ?_; omega) | (refine szB rfl ?_; omega) | (unfold inI64; omega) | exact rfl | (simp only [lns] at *; omega) | decide | (unfold inI64; decide)); conv => whnf) | decide | assumption)
 refine .ret _ ?_
 conv => whnf
 exact ⟨[], ⟨⟨_, rfl⟩, rfl⟩, trivial⟩
theorem s221 (n : Nat) (hn : n ≤ 12) : FSpec Tryz.prog 108 [.d (.int .u64 n)] [] (fun y r => (∃ m : Int, y = .d (.int .i64 m)) ∧ r = []) := by
 match n, hn with
 | 0, _ => exact s221_0
 | 1, _ => exact s221_1
 | 2, _ => exact s221_2
 | 3, _ => exact s221_3
 | 4, _ => exact s221_4
 | 5, _ => exact s221_5
 | 6, _ => exact s221_6
 | 7, _ => exact s221_7
 | 8, _ => exact s221_8
 | 9, _ => exact s221_9
 | 10, _ => exact s221_10
 | 11, _ => exact s221_11
 | 12, _ => exact s221_12
 | n + 13, h => omega
theorem wrap_u64 (n : Nat) (hn : n ≤ 12) : IntKind.u64.wrap n = n := by
 match n, hn with
 | 0, _ | 1, _ | 2, _ | 3, _ | 4, _ | 5, _ | 6, _ | 7, _ | 8, _ | 9, _ | 10, _ | 11, _ | 12, _ => decide
 | n + 13, h => omega
theorem sBitsLen (n : Nat) (hn : n ≤ 12) : FSpec Tryz.prog 71 [.d (.int .u64 (IntKind.u64.wrap n))] [] (fun y r => (∃ m : Int, y = .d (.int .i64 m)) ∧ r = []) := by
 rw [wrap_u64 n hn]
 refine spec_of hT (C := []) Tryz.func71 rfl Tryz.call71 rfl rfl rfl ?_
 conv => whnf
 repeat' (first | (refine br_intro ?_ ?_ <;> intro hb <;> (try simp only [brs] at hb) <;> conv => whnf) | omega | (refine And.intro ?_ ?_; ((try dsimp only); first | omega | (refine szA rfl ?_; omega) | (refine szB rfl ?_; omega) | (unfold inI64; omega) | exact rfl | (simp only [lns] at *; omega) | decide | (unfold inI64; decide)); conv => whnf) | decide | assumption)
 refine CallX.of (s221 n hn) [] rfl ⟨lr, trivial⟩ trivial rfl rfl ?_
 rintro x rout ⟨⟨m, rfl⟩, rfl⟩
 refine ⟨rfl, ?_⟩
 conv => whnf
 refine .ret _ ?_
 conv => whnf
 exact ⟨[], ⟨⟨_, rfl⟩, rfl⟩, trivial⟩
structure Prg where
 a : Int
 b : Int
theorem prg_eq {a b : Prg} : a = b ↔ a.a = b.a ∧ a.b = b.b := by cases a; cases b; simp
instance : DecidableEq Prg := fun _ _ => decidable_of_iff _ prg_eq.symm
abbrev MSt := List Prg × Int
structure mOk (a b : List Mrk) (m : MSt) : Prop where
 ins : ∀ p ∈ m.1, ∃ i k : Nat, p = ⟨i, k⟩ ∧ i < a.length ∧ k < b.length
 sum : 0 ≤ m.2 ∧ m.2 ≤ 100000000 * m.1.length
def oVMvB99_4 : List (Nat × List Nat) := [(0, []), (1, [0]), (2, []), (3, []), (4, []), (5, [4]), (6, [4, 5]), (7, [4]), (8, [4]), (9, [4, 5, 6, 7, 8]), (10, [4, 5, 6, 7, 8, 9]), (11, [4, 5, 6, 7, 8, 9]), (12, [4, 5, 6, 7, 8]), (13, [4, 5, 6, 7, 8]), (14, []), (15, []), (16, [])]
def oVMvB99_6 : List (Nat × List Nat) := [(0, []), (1, [0]), (2, [0, 1]), (3, [0, 1, 2]), (4, [0, 1, 2]), (5, [0, 1, 2, 3, 4]), (6, [0, 1, 2, 3, 4, 5]), (7, [0, 1, 2, 3, 4, 5]), (8, [0, 1, 2, 3, 4]), (9, [0, 1, 2, 3, 4]), (10, [0, 1, 2, 3, 4, 5, 6, 7, 8, 9]), (11, [0, 1, 2, 3, 4, 5, 6, 7, 8, 9, 10]), (12, [0, 1, 2, 3, 4, 5, 6, 7, 8, 9]), (13, [0, 1, 2, 3, 4, 5, 6, 7, 8, 9]), (14, [2, 3, 4]), (15, [2, 3, 4]), (16, []), (17, [])]
def oVMvB70_17 : List (Nat × List Nat) := [(0, []), (1, []), (2, []), (3, []), (4, [3]), (5, [3, 4]), (6, [3, 4]), (7, [3]), (8, [3]), (9, [3, 4, 5, 6, 7, 8]), (10, [3, 4, 5, 6, 7, 8, 9]), (11, [3, 4, 5, 6, 7, 8]), (12, [3, 4, 5, 6, 7, 8]), (13, []), (14, []), (15, []), (16, [])]
def oVMvB39_6 : List (Nat × List Nat) := [(0, []), (1, [0]), (2, [0, 1]), (3, [0]), (4, [0]), (5, [0, 1, 2, 3, 4]), (6, [0, 1, 2, 3, 4, 5]), (7, [0, 1, 2, 3, 4, 5]), (8, [0, 1, 2, 3, 4]), (9, [0, 1, 2, 3, 4]), (10, [])]
def oVMvB39_11 : List (Nat × List Nat) := [(0, []), (1, [0]), (2, [0, 1]), (3, [0]), (4, [0]), (5, [0, 1, 2, 3, 4]), (6, [0, 1, 2, 3, 4, 5]), (7, [0, 1, 2, 3, 4, 5]), (8, [0, 1, 2, 3, 4]), (9, [0, 1, 2, 3, 4]), (10, []), (11, [])]
abbrev mvB (l : List Mov) : Res := seqB 70 3 mvF mv0 l
theorem z249 (g : FuncId) (cmp : Mov → Mov → Int) (l : List Mov) (hl : l.length ≤ 2^40)
 (hcmp : ∀ p q, p ∈ l → q ∈ l → FSpec Tryz.prog g [.agg ((mvF p).map .d), .agg ((mvF q).map .d)] [] (fun y r => y = .d (.int .i64 (cmp p q)) ∧ r = [])) :
 FSpec Tryz.prog 99 [.buf 1000001, .d (.int .i64 0), .d (.int .i64 l.length), .fn g []] [(1000001, seqB 70 3 mvF mv0 l)]
  (fun y r => y = .tup [] ∧ ∃ c, sameL l c ∧ r = [(1000001, seqB 70 3 mvF mv0 c)]) := by
 refine spec_of hT (C := []) Tryz.func99 rfl Tryz.call99 rfl rfl rfl ?_
 conv => whnf
 repeat' (first | (refine br_intro ?_ ?_ <;> intro hb <;> (try simp only [brs] at hb) <;> conv => whnf) | (refine RegX.rule (id := 4) hT rfl [] oVMvB99_4 (by decide +kernel) ?_; conv => whnf) | (refine RegX.rule (id := 6) hT rfl [] oVMvB99_6 (by decide +kernel) ?_; conv => whnf) | omega | (refine And.intro ?_ ?_; ((try dsimp only); first | omega | (refine szA rfl ?_; omega) | (refine szB rfl ?_; omega) | (unfold inI64; omega) | exact rfl | (simp only [lns] at *; omega) | decide | (unfold inI64; decide)); conv => whnf) | decide | assumption)
 refine LoopX.rule hT (C := []) (ι := Nat × List Mov) (fun (i, c) => 1 ≤ i ∧ (i ≤ l.length ∨ i = 1) ∧ sameL l c)
  (fun (i, c) => mkSt [(0, .buf 1000001), (1, .d (.int .i64 0)), (2, .d (.int .i64 l.length)), (3, .fn g []), (8, .d (.int .i64 i))] [(1000001, seqB 70 3 mvF mv0 c)])
  (fun (i, _) => l.length - i) (1, l) ⟨by simp, by simp, rfl, fun x h => h⟩ (by (refine Entails.mk' [(1000001, 1000001)] rfl rfl ?_ ?_ <;> repeat' (first | exact True.intro | exact lr | exact rr | exact SV.le_int (by omega) | exact SV.le_any _ | refine And.intro ?_ ?_)); done) ?_
 rintro ⟨i, c⟩ ⟨p1, p2, p3⟩
 have hc0 := p3.1
 conv => whnf
 repeat' (first | (refine br_intro ?_ ?_ <;> intro hb <;> (try simp only [brs] at hb) <;> conv => whnf) | (refine RegX.rule (id := 4) hT rfl [] oVMvB99_4 (by decide +kernel) ?_; conv => whnf) | (refine RegX.rule (id := 6) hT rfl [] oVMvB99_6 (by decide +kernel) ?_; conv => whnf) | omega | (refine And.intro ?_ ?_; ((try dsimp only); first | omega | (refine szA rfl ?_; omega) | (refine szB rfl ?_; omega) | (unfold inI64; omega) | exact rfl | (simp only [lns] at *; omega) | decide | (unfold inI64; decide)); conv => whnf) | decide | assumption)
 · refine LoopX.rule hT (C := []) (ι := Nat × List Mov) (fun (j, c) => j ≤ i ∧ sameL l c)
    (fun (j, c) => mkSt [(0, .buf 1000001), (1, .d (.int .i64 0)), (2, .d (.int .i64 l.length)), (3, .fn g []), (8, .d (.int .i64 i)), (9, .d (.int .i64 j))] [(1000001, seqB 70 3 mvF mv0 c)])
    (fun (j, _) => j) (i, c) ⟨Nat.le_refl _, p3⟩ (by (refine Entails.mk' [(1000001, 1000001)] rfl rfl ?_ ?_ <;> repeat' (first | exact True.intro | exact lr | exact rr | exact SV.le_int (by omega) | exact SV.le_any _ | refine And.intro ?_ ?_)); done) ?_
   rintro ⟨j, b⟩ ⟨q1, q3⟩
   have hb0 := q3.1
   conv => whnf
   repeat' (first | (refine br_intro ?_ ?_ <;> intro hb <;> (try simp only [brs] at hb) <;> conv => whnf) | (refine RegX.rule (id := 4) hT rfl [] oVMvB99_4 (by decide +kernel) ?_; conv => whnf) | (refine RegX.rule (id := 6) hT rfl [] oVMvB99_6 (by decide +kernel) ?_; conv => whnf) | omega | (refine And.intro ?_ ?_; ((try dsimp only); first | omega | (refine szA rfl ?_; omega) | (refine szB rfl ?_; omega) | (unfold inI64; omega) | exact rfl | (simp only [lns] at *; omega) | decide | (unfold inI64; decide)); conv => whnf) | decide | assumption)
   · refine CallX.of (hcmp (b.getD (j : Int).toNat mv0) (b.getD ((j : Int) - 1).toNat mv0) (q3.2 _ (getD_mem (by omega))) (q3.2 _ (getD_mem (by omega)))) [] rfl ⟨lr, lr, trivial⟩ trivial rfl rfl ?_
     rintro x rout ⟨rfl, rfl⟩
     refine ⟨rfl, ?_⟩
     conv => whnf
     repeat' (first | (refine br_intro ?_ ?_ <;> intro hb <;> (try simp only [brs] at hb) <;> conv => whnf) | (refine RegX.rule (id := 4) hT rfl [] oVMvB99_4 (by decide +kernel) ?_; conv => whnf) | (refine RegX.rule (id := 6) hT rfl [] oVMvB99_6 (by decide +kernel) ?_; conv => whnf) | omega | (refine And.intro ?_ ?_; ((try dsimp only); first | omega | (refine szA rfl ?_; omega) | (refine szB rfl ?_; omega) | (unfold inI64; omega) | exact rfl | (simp only [lns] at *; omega) | decide | (unfold inI64; decide)); conv => whnf) | decide | assumption)
     · refine ⟨(j - 1, _), ⟨by omega, sameL_set (sameL_set q3 (q3.2 _ (getD_mem (i := ((j : Int) - 1).toNat) (x := mv0) (by omega)))) (q3.2 _ (getD_mem (i := (j : Int).toNat) (x := mv0) (by omega)))⟩, by show j - 1 < j; omega, Entails.mk' [(1000001, 1000001)] rfl rfl ⟨lr, lr, lr, lr, lr, SV.le_int (by omega), trivial⟩ ⟨Res.le_put2 (fun _ => rfl) (fun _ => rfl), trivial⟩⟩
     · exact ⟨(i + 1, b), ⟨by omega, by omega, q3⟩, by show l.length - (i + 1) < l.length - i; omega, (by (refine Entails.mk' [(1000001, 1000001)] rfl rfl ?_ ?_ <;> repeat' (first | exact True.intro | exact lr | exact rr | exact SV.le_int (by omega) | exact SV.le_any _ | refine And.intro ?_ ?_)); done)⟩
   · exact ⟨(i + 1, b), ⟨by omega, by omega, q3⟩, by show l.length - (i + 1) < l.length - i; omega, (by (refine Entails.mk' [(1000001, 1000001)] rfl rfl ?_ ?_ <;> repeat' (first | exact True.intro | exact lr | exact rr | exact SV.le_int (by omega) | exact SV.le_any _ | refine And.intro ?_ ?_)); done)⟩
 · refine .ret _ ?_
   conv => whnf
   exact ⟨_, ⟨rfl, c, p3, rfl⟩, rr, trivial⟩
theorem z200 (g : FuncId) (cmp : Mov → Mov → Int) (l : List Mov) (hl : l.length ≤ 12) (lim : Int)
 (hcmp : ∀ p q, p ∈ l → q ∈ l → FSpec Tryz.prog g [.agg ((mvF p).map .d), .agg ((mvF q).map .d)] [] (fun y r => y = .d (.int .i64 (cmp p q)) ∧ r = [])) :
 FSpec Tryz.prog 70 [.buf 1000001, .d (.int .i64 0), .d (.int .i64 l.length), .d (.int .i64 lim), .fn g []] [(1000001, seqB 70 3 mvF mv0 l)]
  (fun y r => y = .tup [] ∧ ∃ c, sameL l c ∧ r = [(1000001, seqB 70 3 mvF mv0 c)]) := by
 refine spec_of hT (C := []) Tryz.func70 rfl Tryz.call70 rfl rfl rfl ?_
 conv => whnf
 refine LoopX.unroll hT (C := []) (fun _ _ h => h) (fun _ h => h) ?_
 conv => whnf
 repeat' (first | (refine br_intro ?_ ?_ <;> intro hb <;> (try simp only [brs] at hb) <;> conv => whnf) | (refine RegX.rule (id := 17) hT rfl [] oVMvB70_17 (by decide +kernel) ?_; conv => whnf) | omega | (refine And.intro ?_ ?_; ((try dsimp only); first | omega | (refine szA rfl ?_; omega) | (refine szB rfl ?_; omega) | (unfold inI64; omega) | exact rfl | (simp only [lns] at *; omega) | decide | (unfold inI64; decide)); conv => whnf) | decide | assumption)
 refine CallX.of (z249 g cmp l (by omega) hcmp) [(1000001, 1000001)] rfl ⟨lr, lr, lr, lr, trivial⟩ ⟨rr, trivial⟩ rfl rfl ?_
 rintro x rout ⟨rfl, c, hc, rfl⟩
 refine ⟨rfl, ?_⟩
 conv => whnf
 refine .ret _ ?_
 conv => whnf
 exact ⟨_, ⟨rfl, c, hc, rfl⟩, rr, trivial⟩
theorem z99 (g : FuncId) (cmp : Mov → Mov → Int) (l : List Mov) (hl : l.length ≤ 12)
 (hcmp : ∀ p q, p ∈ l → q ∈ l → FSpec Tryz.prog g [.agg ((mvF p).map .d), .agg ((mvF q).map .d)] [] (fun y r => y = .d (.int .i64 (cmp p q)) ∧ r = [])) :
 FSpec Tryz.prog 36 [.buf 1000001, .fn g []] [(1000001, seqB 70 3 mvF mv0 l)]
  (fun y r => y = .tup [] ∧ ∃ c, sameL l c ∧ r = [(1000001, seqB 70 3 mvF mv0 c)]) := by
 refine spec_of hT (C := []) Tryz.func36 rfl Tryz.call36 rfl rfl rfl ?_
 conv => whnf
 repeat' (first | (refine br_intro ?_ ?_ <;> intro hb <;> (try simp only [brs] at hb) <;> conv => whnf) | omega | (refine And.intro ?_ ?_; ((try dsimp only); first | omega | (refine szA rfl ?_; omega) | (refine szB rfl ?_; omega) | (unfold inI64; omega) | exact rfl | (simp only [lns] at *; omega) | decide | (unfold inI64; decide)); conv => whnf) | decide | assumption)
 refine CallX.of (sBitsLen l.length hl) [] rfl ⟨lr, trivial⟩ trivial rfl rfl ?_
 rintro x rout ⟨⟨lim, rfl⟩, rfl⟩
 refine ⟨rfl, ?_⟩
 conv => whnf
 repeat' (first | (refine br_intro ?_ ?_ <;> intro hb <;> (try simp only [brs] at hb) <;> conv => whnf) | omega | (refine And.intro ?_ ?_; ((try dsimp only); first | omega | (refine szA rfl ?_; omega) | (refine szB rfl ?_; omega) | (unfold inI64; omega) | exact rfl | (simp only [lns] at *; omega) | decide | (unfold inI64; decide)); conv => whnf) | decide | assumption)
 refine CallX.of (z200 g cmp l hl lim hcmp) [(1000001, 1000001)] rfl ⟨lr, lr, lr, lr, lr, trivial⟩ ⟨rr, trivial⟩ rfl rfl ?_
 rintro x rout ⟨rfl, c, hc, rfl⟩
 refine ⟨rfl, ?_⟩
 conv => whnf
 refine .ret _ ?_
 conv => whnf
 exact ⟨_, ⟨rfl, c, hc, rfl⟩, rr, trivial⟩
theorem z102 (g : FuncId) (eq : Mov → Mov → Bool) (l : List Mov) (hl : l.length ≤ 2^20)
 (heq : ∀ p q, p ∈ l → q ∈ l → FSpec Tryz.prog g [.agg ((mvF p).map .d), .agg ((mvF q).map .d)] [] (fun y r => y = .d (.bool (eq p q)) ∧ r = [])) :
 FSpec Tryz.prog 39 [.buf 1000001, .fn g []] [(1000001, seqB 70 3 mvF mv0 l)]
  (fun y r => ∃ c, subL l c ∧ ∃ d, (d = 1000001 ∨ d = 64) ∧ y = .buf d ∧ r = [(d, seqB 70 3 mvF mv0 c)]) := by
 refine spec_of hT (C := []) Tryz.func39 rfl Tryz.call39 rfl rfl rfl ?_
 conv => whnf
 repeat' (first | (refine br_intro ?_ ?_ <;> intro hb <;> (try simp only [brs] at hb) <;> conv => whnf) | (refine RegX.rule (id := 6) hT rfl [] oVMvB39_6 (by decide +kernel) ?_; conv => whnf) | (refine RegX.rule (id := 11) hT rfl [] oVMvB39_11 (by decide +kernel) ?_; conv => whnf) | omega | (refine And.intro ?_ ?_; ((try dsimp only); first | omega | (refine szA rfl ?_; omega) | (refine szB rfl ?_; omega) | (unfold inI64; omega) | exact rfl | (simp only [lns] at *; omega) | decide | (unfold inI64; decide)); conv => whnf) | decide | assumption)
 · refine .ret _ ?_
   conv => whnf
   exact ⟨_, ⟨l, ⟨Nat.le_refl _, fun x h => h⟩, 1000001, .inl rfl, rfl, rfl⟩, rr, trivial⟩
 refine LoopX.rule hT (C := []) (ι := Nat) (fun k => 1 ≤ k ∧ k ≤ l.length) (fun k => mkSt [(0, .buf 1000001), (1, .fn g []), (5, .d (.int .i64 k))] [(1000001, seqB 70 3 mvF mv0 l)]) (fun k => l.length - k) 1 ⟨by omega, by omega⟩ (by (refine Entails.mk' [(1000001, 1000001)] rfl rfl ?_ ?_ <;> repeat' (first | exact True.intro | exact lr | exact rr | exact SV.le_int (by omega) | exact SV.le_any _ | refine And.intro ?_ ?_)); done) ?_
 rintro k ⟨p1, p2⟩
 conv => whnf
 repeat' (first | (refine CallX.of (heq (l.getD (k : Int).toNat mv0) (l.getD ((k : Int) - 1).toNat mv0) (getD_mem (by omega)) (getD_mem (by omega))) [] rfl ⟨lr, lr, trivial⟩ trivial rfl rfl ?_; rintro x rout ⟨rfl, rfl⟩; refine ⟨rfl, ?_⟩; conv => whnf) | (refine br_intro ?_ ?_ <;> intro hb <;> (try simp only [brs] at hb) <;> conv => whnf) | (refine RegX.rule (id := 6) hT rfl [] oVMvB39_6 (by decide +kernel) ?_; conv => whnf) | (refine RegX.rule (id := 11) hT rfl [] oVMvB39_11 (by decide +kernel) ?_; conv => whnf) | omega | (refine And.intro ?_ ?_; ((try dsimp only); first | omega | (refine szA rfl ?_; omega) | (refine szB rfl ?_; omega) | (unfold inI64; omega) | exact rfl | (simp only [lns] at *; omega) | decide | (unfold inI64; decide)); conv => whnf) | decide | assumption)
 · refine .look rfl ?_
   conv => whnf
   repeat' (first | (refine br_intro ?_ ?_ <;> intro hb <;> (try simp only [brs] at hb) <;> conv => whnf) | (refine RegX.rule (id := 6) hT rfl [] oVMvB39_6 (by decide +kernel) ?_; conv => whnf) | (refine RegX.rule (id := 11) hT rfl [] oVMvB39_11 (by decide +kernel) ?_; conv => whnf) | omega | (refine And.intro ?_ ?_; ((try dsimp only); first | omega | (refine szA rfl ?_; omega) | (refine szB rfl ?_; omega) | (unfold inI64; omega) | exact rfl | (simp only [lns] at *; omega) | decide | (unfold inI64; decide)); conv => whnf) | decide | assumption)
   have hsub : SV.le (SV.sub 1000001 3 (k : Int).toNat (((l.length : Nat) : Int) - (k : Int)).toNat) (SV.sub 1000001 3 k (l.length - k)) := by
    rw [show (k : Int).toNat = k by omega, show (((l.length : Nat) : Int) - (k : Int)).toNat = l.length - k by omega]; exact lr
   refine LoopX.rule hT (C := []) (ι := Nat × Nat × List Mov) (fun (q, m, c) => k ≤ q ∧ q < k + m ∧ 1 ≤ m ∧ k + m ≤ l.length ∧ sameL l c)
    (fun (q, m, c) => mkSt [(0, .buf 1000001), (1, .fn g []), (5, .d (.int .i64 q)), (6, .sub 1000001 3 k (l.length - k)), (7, .d (.int .i64 m))] [(1000001, seqB 70 3 mvF mv0 c)])
    (fun (_, m, _) => l.length - m) (k, 1, l) ⟨by omega, by omega, by omega, by omega, rfl, fun x h => h⟩ (by (refine Entails.mk' [(1000001, 1000001)] rfl rfl ?_ ?_ <;> repeat' (first | exact True.intro | exact lr | exact rr | (exact hsub) | exact SV.le_int (by omega) | exact SV.le_any _ | refine And.intro ?_ ?_)); done) ?_
   rintro ⟨q, m, c⟩ ⟨r1, r2, r3, r4, r5⟩
   have hc0 := r5.1
   conv => whnf
   repeat' (first | (refine CallX.of (heq (c.getD (k + (m : Int).toNat) mv0) (c.getD (k + ((m : Int) - 1).toNat) mv0) (r5.2 _ (getD_mem (by omega))) (r5.2 _ (getD_mem (by omega)))) [] rfl ⟨lr, lr, trivial⟩ trivial rfl rfl ?_; rintro x rout ⟨rfl, rfl⟩; refine ⟨rfl, ?_⟩; conv => whnf) | (refine SliceX.first (lo := none) rfl ?_; conv => whnf) | (refine SliceX.look (lo := some _) rfl ?_; conv => whnf) | (refine br_intro ?_ ?_ <;> intro hb <;> (try simp only [brs] at hb) <;> conv => whnf) | (refine RegX.rule (id := 6) hT rfl [] oVMvB39_6 (by decide +kernel) ?_; conv => whnf) | (refine RegX.rule (id := 11) hT rfl [] oVMvB39_11 (by decide +kernel) ?_; conv => whnf) | omega | (refine And.intro ?_ ?_; ((try dsimp only); first | omega | (refine szA rfl ?_; omega) | (refine szB rfl ?_; omega) | (unfold inI64; omega) | exact rfl | (simp only [lns] at *; omega) | decide | (unfold inI64; decide)); conv => whnf) | decide | assumption)
   · have e1 : ∀ z, z = k + (m : Int).toNat → z < l.length → c.getD z mv0 ∈ l := fun z _ h => r5.2 _ (getD_mem (by omega))
     refine ⟨(q + 1, m + 1, _), ⟨by omega, by omega, by omega, by omega, sameL_set r5 (e1 _ rfl (by omega))⟩, by show l.length - (m + 1) < l.length - m; omega, Entails.mk' [(1000001, 1000001)] rfl rfl ⟨lr, lr, SV.le_int (by omega), lr, SV.le_int (by omega), trivial⟩ ⟨Res.le_putF (fun _ _ => rfl), trivial⟩⟩
   · exact ⟨(q, m + 1, c), ⟨by omega, by omega, by omega, by omega, r5⟩, by show l.length - (m + 1) < l.length - m; omega, (by (refine Entails.mk' [(1000001, 1000001)] rfl rfl ?_ ?_ <;> repeat' (first | exact True.intro | exact lr | exact rr | exact SV.le_int (by omega) | exact SV.le_any _ | refine And.intro ?_ ?_)); done)⟩
   · refine .ret _ ?_
     conv => whnf
     refine ⟨_, ⟨c.take q, ⟨by rw [List.length_take]; omega, fun x hx => r5.2 x (List.mem_of_mem_take hx)⟩, 64, .inr rfl, rfl, rfl⟩, Res.le_buf (by rw [List.length_take]; omega) (fun i hi => ?_), trivial⟩
     have hi : i < q := by
      have : i < (q : Int).toNat := hi
      omega
     have h1 : Nat.ble (q : Int).toNat i = false := by
      rw [← Bool.not_eq_true, Nat.ble_eq]; omega
     show (bif Nat.ble (q : Int).toNat i && _ then _ else rowF mvF mv0 c i) = _
     rw [h1]
     simp only [Bool.false_and, cond_false, rowF]
     rw [List.getD_eq_getElem?_getD, List.getD_eq_getElem?_getD, List.getElem?_take_of_lt hi]
 · exact ⟨k + 1, ⟨by omega, by omega⟩, by omega, (by (refine Entails.mk' [(1000001, 1000001)] rfl rfl ?_ ?_ <;> repeat' (first | exact True.intro | exact lr | exact rr | exact SV.le_int (by omega) | exact SV.le_any _ | refine And.intro ?_ ?_)); done)⟩
 · refine .ret _ ?_
   conv => whnf
   exact ⟨_, ⟨l, ⟨Nat.le_refl _, fun x h => h⟩, 1000001, .inl rfl, rfl, rfl⟩, rr, trivial⟩
def mvKey (x : Mov) : List UInt8 := x.a ++ [32] ++ x.b
theorem z100 (x y : Mov) (hx : x.a.length ≤ 8 ∧ x.b.length ≤ 8) (hy : y.a.length ≤ 8 ∧ y.b.length ≤ 8) : FSpec Tryz.prog 37 [.agg ((mvF x).map .d), .agg ((mvF y).map .d)] [] (fun v r => v = .d (.int .i64 (cmpS (mvKey x) (mvKey y))) ∧ r = []) := by
 refine spec_of hT (C := []) Tryz.func37 rfl Tryz.call37 rfl rfl rfl ?_
 conv => whnf
 repeat' (first | (refine CallX.exact (s190 _ _) rfl rfl ?_; rotate_right; conv => whnf) | (refine br_intro ?_ ?_ <;> intro hb <;> (try simp only [brs] at hb) <;> conv => whnf) | omega | (refine And.intro ?_ ?_; ((try dsimp only); first | omega | (refine szA rfl ?_; omega) | (refine szB rfl ?_; omega) | (unfold inI64; omega) | exact rfl | (simp only [lns] at *; omega) | decide | (unfold inI64; decide)); conv => whnf) | decide | assumption)
 refine .ret _ ?_
 conv => whnf
 refine ⟨[], ⟨?_, rfl⟩, trivial⟩
 conv => lhs; whnf
 all_goals rfl
theorem z103 (x y : Mov) : FSpec Tryz.prog 40 [.agg ((mvF x).map .d), .agg ((mvF y).map .d)] [] (fun v r => v = .d (.bool (x.a == y.a && x.b == y.b)) ∧ r = []) := by
 refine spec_of hT (C := []) Tryz.func40 rfl Tryz.call40 rfl rfl rfl ?_
 conv => whnf
 repeat' (first | (refine br_intro ?_ ?_ <;> intro hb <;> (try simp only [brs] at hb) <;> conv => whnf) | omega | (refine And.intro ?_ ?_; ((try dsimp only); first | omega | (refine szA rfl ?_; omega) | (refine szB rfl ?_; omega) | (unfold inI64; omega) | exact rfl | (simp only [lns] at *; omega) | decide | (unfold inI64; decide)); conv => whnf) | decide | assumption)
 all_goals
  refine .ret _ ?_
  conv => whnf
  refine ⟨[], ⟨?_, rfl⟩, trivial⟩
  conv => lhs; whnf
  congr 2
  grind
abbrev spcell : Res := .cells 23 [.ptr 1000000 0]
theorem z105 (n : Nat) (L : Nat → Int) (hL : Rok n L) (a : Int) (h0 : 0 ≤ a) (ha : a ≤ 2^38) (x : Mov) : FSpec Tryz.prog 42 [.agg ((mvF x).map .d), .ptr 1000002 0] [(1000000, strm n L a), (1000002, spcell)] (fun y r => (∃ b : Bool, y = .d (.bool b)) ∧ ∃ c, (a ≤ c ∧ c ≤ a + 1) ∧ r = [(1000000, strm n L c), (1000002, spcell)]) := by
 refine spec_of hT (C := []) Tryz.func42 rfl Tryz.call42 rfl rfl rfl ?_
 conv => whnf
 repeat' (first | (refine CallX.of (s84 n L hL _ ?_ ?_ _ ?_) [(1000000, 1000000)] rfl ⟨lr, lr, trivial⟩ ⟨rr, trivial⟩ rfl rfl ?_; rotate_right; rintro x rout ⟨⟨f, rfl⟩, ⟨c, c1, c2, rfl⟩⟩; refine ⟨rfl, ?_⟩; conv => whnf) | (refine br_intro ?_ ?_ <;> intro hb <;> (try simp only [brs] at hb) <;> conv => whnf) | omega | (refine And.intro ?_ ?_; ((try dsimp only); first | omega | (refine szA rfl ?_; omega) | (refine szB rfl ?_; omega) | (unfold inI64; omega) | exact rfl | (simp only [lns] at *; omega) | decide | (unfold inI64; decide)); conv => whnf) | decide | assumption)
 all_goals first
  | (refine .ret _ ?_
     conv => whnf
     exact ⟨[(1000000, strm n L c), (1000002, spcell)], ⟨⟨_, rfl⟩, c, ⟨by omega, by omega⟩, rfl⟩, rr, rr, trivial⟩)
  | (refine .ret _ ?_
     conv => whnf
     exact ⟨[(1000000, strm n L a), (1000002, spcell)], ⟨⟨_, rfl⟩, a, ⟨by omega, by omega⟩, rfl⟩, rr, rr, trivial⟩)
theorem z203 (n : Nat) (L : Nat → Int) (hL : Rok n L) (a : Int) (h0 : 0 ≤ a) (ha : a ≤ 2^37) (l : List Mov) (hl : l.length ≤ 1000) :
 FSpec Tryz.prog 73 [.buf 1000001, .fn 42 [.ptr 1000002 0]] [(1000000, strm n L a), (1000001, mvB l), (1000002, spcell)] (fun y r => (∃ j : Int, -1 ≤ j ∧ j < l.length ∧ y = .d (.int .i64 j)) ∧ ∃ c, (a ≤ c ∧ c ≤ a + l.length) ∧ r = [(1000000, strm n L c), (1000001, mvB l), (1000002, spcell)]) := by
 refine spec_of hT (C := []) Tryz.func73 rfl Tryz.call73 rfl rfl rfl ?_
 conv => whnf
 refine LoopX.rule hT (C := []) (ι := Nat × Int) (fun (i, b) => i ≤ l.length ∧ a ≤ b ∧ b ≤ a + i) (fun (i, b) => mkSt [(0, .buf 1000001), (1, .fn 42 [.ptr 1000002 0]), (7, .d (.int .i64 l.length)), (8, .d (.int .i64 i))] [(1000000, strm n L b), (1000001, mvB l), (1000002, spcell)]) (fun (i, _) => l.length - i) (0, a) ⟨by simp, by simp, by simp⟩ (by (refine Entails.mk' [(1000000, 1000000), (1000001, 1000001), (1000002, 1000002)] rfl rfl ?_ ?_ <;> repeat' (first | exact True.intro | exact lr | exact rr | exact SV.le_int (by omega) | exact SV.le_any _ | refine And.intro ?_ ?_)); done) ?_
 rintro ⟨i, b⟩ ⟨p1, p2, p3⟩
 have p1 : i ≤ l.length := p1
 have p2 : a ≤ b := p2
 have p3 : b ≤ a + i := p3
 conv => whnf
 repeat' (first | (refine CallX.of (z105 n L hL b (by omega) (by omega) (l.getD (i : Int).toNat mv0)) [(1000000, 1000000), (1000002, 1000002)] rfl ⟨lr, lr, trivial⟩ ⟨rr, rr, trivial⟩ rfl rfl ?_; rintro x rout ⟨⟨f, rfl⟩, c, ⟨hc1, hc2⟩, rfl⟩; refine ⟨rfl, ?_⟩; conv => whnf) | (refine br_intro ?_ ?_ <;> intro hb <;> (try simp only [brs] at hb) <;> conv => whnf) | omega | (refine And.intro ?_ ?_; ((try dsimp only); first | omega | (refine szA rfl ?_; omega) | (refine szB rfl ?_; omega) | (unfold inI64; omega) | exact rfl | (simp only [lns] at *; omega) | decide | (unfold inI64; decide)); conv => whnf) | decide | assumption)
 all_goals first
  | exact ⟨(i + 1, c), ⟨by omega, by omega, by omega⟩, (show l.length - (i + 1) < l.length - i by omega), (by (refine Entails.mk' [(1000000, 1000000), (1000001, 1000001), (1000002, 1000002)] rfl rfl ?_ ?_ <;> repeat' (first | exact True.intro | exact lr | exact rr | exact SV.le_int (by omega) | exact SV.le_any _ | refine And.intro ?_ ?_)); done)⟩
  | (refine .ret _ ?_
     conv => whnf
     exact ⟨[(1000000, strm n L c), (1000001, mvB l), (1000002, spcell)], ⟨⟨_, by omega, by omega, rfl⟩, c, ⟨by omega, by omega⟩, rfl⟩, rr, rr, rr, trivial⟩)
  | (refine .ret _ ?_
     conv => whnf
     exact ⟨[(1000000, strm n L b), (1000001, mvB l), (1000002, spcell)], ⟨⟨_, by omega, by omega, rfl⟩, b, ⟨by omega, by omega⟩, rfl⟩, rr, rr, rr, trivial⟩)
set_option maxHeartbeats 1000000 in
theorem z104 (n : Nat) (L : Nat → Int) (hL : Rok n L) (a : Int) (h0 : 0 ≤ a) (ha : a ≤ 2^36) (l : List Mov) (hl : l.length ≤ 1000) :
 FSpec Tryz.prog 41 [.buf 1000001, .fn 42 [.ptr 1000002 0]] [(1000000, strm n L a), (1000001, mvB l), (1000002, spcell)] (fun y r => ∃ c, subL l c ∧ ∃ d, (d = 1000001 ∨ d = 41) ∧ y = .buf d ∧ ∃ b, (a ≤ b ∧ b ≤ a + 2 * l.length) ∧ r = [(1000000, strm n L b), (d, mvB c), (1000002, spcell)]) := by
 refine spec_of hT (C := []) Tryz.func41 rfl Tryz.call41 rfl rfl rfl ?_
 conv => whnf
 refine CallX.of (z203 n L hL a h0 (by omega) l hl) [(1000000, 1000000), (1000001, 1000001), (1000002, 1000002)] rfl ⟨lr, lr, trivial⟩ ⟨rr, rr, rr, trivial⟩ rfl rfl ?_
 rintro x rout ⟨⟨j, hj1, hj2, rfl⟩, b0, ⟨hb1, hb2⟩, rfl⟩
 refine ⟨rfl, ?_⟩
 conv => whnf
 repeat' (first | (refine br_intro ?_ ?_ <;> intro hb <;> (try simp only [brs] at hb) <;> conv => whnf) | omega | (refine And.intro ?_ ?_; ((try dsimp only); first | omega | (refine szA rfl ?_; omega) | (refine szB rfl ?_; omega) | (unfold inI64; omega) | exact rfl | (simp only [lns] at *; omega) | decide | (unfold inI64; decide)); conv => whnf) | decide | assumption)
 · refine .ret _ ?_
   conv => whnf
   exact ⟨_, ⟨l, ⟨Nat.le_refl _, fun x h => h⟩, 1000001, .inl rfl, rfl, b0, ⟨by omega, by omega⟩, rfl⟩, rr, rr, rr, trivial⟩
 obtain ⟨jN, rfl⟩ : ∃ jN : Nat, j = jN := ⟨j.toNat, by omega⟩
 refine LoopX.rule hT (C := []) (ι := Nat × Nat × Int × List Mov) (fun (i, k, b, c) => (i < k ∧ k ≤ l.length ∧ a ≤ b ∧ b ≤ a + l.length + k) ∧ sameL l c)
  (fun (i, k, b, c) => mkSt [(0, .buf 1000001), (1, .fn 42 [.ptr 1000002 0]), (5, .d (.int .i64 i)), (6, .d (.int .i64 k))] [(1000000, strm n L b), (1000001, mvB c), (1000002, spcell)]) (fun (_, k, _, _) => l.length - k) (jN, jN + 1, b0, l) ⟨⟨by show jN < jN + 1; omega, by show jN + 1 ≤ l.length; omega, by show a ≤ b0; omega, by show b0 ≤ a + l.length + ((jN + 1 : Nat) : Int); omega⟩, rfl, fun x h => h⟩ (by (refine Entails.mk' [(1000000, 1000000), (1000001, 1000001), (1000002, 1000002)] rfl rfl ?_ ?_ <;> repeat' (first | exact True.intro | exact lr | exact rr | exact SV.le_int (by omega) | exact SV.le_any _ | refine And.intro ?_ ?_)); done) ?_
 rintro ⟨i, k, b, c⟩ ⟨⟨r1, r2, r3, r4⟩, r5⟩
 have r1 : i < k := r1
 have r2 : k ≤ l.length := r2
 have r3 : a ≤ b := r3
 have r4 : b ≤ a + l.length + k := r4
 have hc0 := r5.1
 conv => whnf
 repeat' (first | (refine CallX.of (z105 n L hL b (by omega) (by omega) (c.getD (k : Int).toNat mv0)) [(1000000, 1000000), (1000002, 1000002)] rfl ⟨lr, lr, trivial⟩ ⟨rr, rr, trivial⟩ rfl rfl ?_; rintro x rout ⟨⟨f, rfl⟩, c5, ⟨hc1, hc2⟩, rfl⟩; refine ⟨rfl, ?_⟩; conv => whnf) | (refine SliceX.first (lo := none) rfl ?_; conv => whnf) | (refine SliceX.look (lo := some _) rfl ?_; conv => whnf) | (refine br_intro ?_ ?_ <;> intro hb <;> (try simp only [brs] at hb) <;> conv => whnf) | omega | (refine And.intro ?_ ?_; ((try dsimp only); first | omega | (refine szA rfl ?_; omega) | (refine szB rfl ?_; omega) | (unfold inI64; omega) | exact rfl | (simp only [lns] at *; omega) | decide | (unfold inI64; decide)); conv => whnf) | decide | assumption)
 · exact ⟨(i + 1, k + 1, c5, c.set (i : Int).toNat (c.getD (k : Int).toNat mv0)), ⟨⟨by omega, by omega, by omega, by omega⟩, sameL_set r5 (r5.2 _ (getD_mem (by omega)))⟩, (show l.length - (k + 1) < l.length - k by omega), Entails.mk' [(1000000, 1000000), (1000001, 1000001), (1000002, 1000002)] rfl rfl ⟨lr, lr, SV.le_int (by omega), SV.le_int (by omega), trivial⟩ ⟨rr, Res.le_putF (fun _ _ => rfl), rr, trivial⟩⟩
 · exact ⟨(i, k + 1, c5, c), ⟨⟨by omega, by omega, by omega, by omega⟩, r5⟩, (show l.length - (k + 1) < l.length - k by omega), (by (refine Entails.mk' [(1000000, 1000000), (1000001, 1000001), (1000002, 1000002)] rfl rfl ?_ ?_ <;> repeat' (first | exact True.intro | exact lr | exact rr | exact SV.le_int (by omega) | exact SV.le_any _ | refine And.intro ?_ ?_)); done)⟩
 · refine .ret _ ?_
   conv => whnf
   refine ⟨_, ⟨c.take i, ⟨by rw [List.length_take]; omega, fun x hx => r5.2 x (List.mem_of_mem_take hx)⟩, 41, .inr rfl, rfl, b, ⟨by omega, by omega⟩, rfl⟩, rr, Res.le_buf (by rw [List.length_take]; omega) (fun s hs => ?_), rr, trivial⟩
   have hs : s < i := by
    have : s < (i : Int).toNat := hs
    omega
   have h1 : Nat.ble (i : Int).toNat s = false := by
    rw [← Bool.not_eq_true, Nat.ble_eq]; omega
   show (bif Nat.ble (i : Int).toNat s && _ then _ else rowF mvF mv0 c s) = _
   rw [h1]
   simp only [Bool.false_and, cond_false, rowF]
   rw [List.getD_eq_getElem?_getD, List.getD_eq_getElem?_getD, List.getElem?_take_of_lt hs]
def oVRoA7_14 : List (Nat × List Nat) := [(0, []), (1, [0]), (2, [0, 1]), (3, [0, 1, 2]), (4, [0, 1, 2, 3]), (5, [0, 1, 2, 3]), (6, [0, 1, 2, 3]), (7, [0, 1, 2, 3]), (8, [0, 1, 2, 3]), (10, [0, 1, 2, 3, 4, 5, 6, 7, 8]), (11, [0, 1, 2, 3, 4, 5, 6, 7, 8, 10]), (12, [0, 1, 2, 3, 4, 5, 6, 7, 8, 10]), (13, [0, 1, 2, 3, 4, 5, 6, 7, 8, 10]), (14, [0, 1, 2, 3, 4, 5, 6, 7, 8, 10]), (15, [0, 1, 2, 3, 4, 5, 6, 7, 8, 10]), (17, [0, 1, 2, 3, 4, 5, 6, 7, 8, 10, 11, 12, 13, 14, 15]), (9, [0, 1, 2, 10, 11, 12, 13, 14, 15, 17]), (16, [0, 1, 2, 17]), (18, [0, 1, 2]), (19, [1, 2]), (20, [1, 2]), (21, [1, 2]), (22, [2]), (23, [2]), (24, [2]), (25, []), (26, []), (27, [])]
def tE : List (List UInt8) := [[97], [98], [99], [100], [101]]
def rdS (x : Roa) : Prop := x.a.length ≤ 8 ∧ x.b.length ≤ 8
theorem tE_len {i : Nat} : (tE.getD i []).length ≤ 1 := by
 rcases Nat.lt_or_ge i 5 with h | h
 · have : i = 0 ∨ i = 1 ∨ i = 2 ∨ i = 3 ∨ i = 4 := by omega
   rcases this with rfl | rfl | rfl | rfl | rfl <;> decide
 · rw [List.getD_eq_getElem?_getD, List.getElem?_eq_none (by simpa [tE] using h)]; simp
theorem three_len {u x y z : List UInt8} (h : u ∈ [x, y, z]) (hx : x.length ≤ 8) (hy : y.length ≤ 8) (hz : z.length ≤ 8) : u.length ≤ 8 := by
 simp at h
 rcases h with rfl | rfl | rfl <;> assumption
abbrev rdB (l : List Roa) : Res := seqB 64 4 rdF rd0 l
set_option maxHeartbeats 2000000 in
theorem sRds (n : Nat) (L : Nat → Int) (hL : Rok n L) (a : Int) (h0 : 0 ≤ a) (ha : a ≤ 2^38) :
 FSpec Tryz.prog 7 [.ptr 1000000 0] [(1000000, strm n L a)] (fun y r => (∃ l : List Roa, allK rdS 25 l ∧ y = .d (roas l)) ∧ Moved n L a 100 r) := by
 refine spec_of hT (C := []) Tryz.func7 rfl Tryz.call7 rfl rfl rfl ?_
 conv => whnf
 repeat' (first | (refine br_intro ?_ ?_ <;> intro hb <;> (try simp only [brs] at hb) <;> conv => whnf) | (refine RegX.rule (id := 14) hT rfl [] oVRoA7_14 (by decide +kernel) ?_; conv => whnf) | omega | (refine And.intro ?_ ?_; ((try dsimp only); first | omega | (refine szA rfl ?_; omega) | (refine szB rfl ?_; omega) | (unfold inI64; omega) | exact rfl | (simp only [lns] at *; omega) | decide | (unfold inI64; decide)); conv => whnf) | decide | assumption)
 refine LoopX.rule hT (C := []) (ι := Int × Nat × List Roa) (fun (b, i, l) => (a ≤ b ∧ b ≤ a + 15 * i ∧ i ≤ 5) ∧ allK rdS (5 * i) l)
  (fun (b, i, l) => mkSt [(0, .ptr 1000000 0), (3, .buf 3), (9, .d (strs tE)), (10, .d (.int .i64 5)), (11, .d (.int .i64 i))] [(1000000, strm n L b), (3, rdB l)]) (fun (_, i, _) => 5 - i) (a, 0, []) ⟨by simp, by simp [allK]⟩ ?_ ?_
 · exact (Entails.nil 3 3 64 4 (rowF rdF rd0 []) rfl rfl (by decide)).trans (by (refine Entails.mk' [(1000000, 1000000), (3, 3)] rfl rfl ?_ ?_ <;> repeat' (first | exact True.intro | exact lr | exact rr | (exact SV.le_lit rfl rfl) | exact SV.le_int (by omega) | exact SV.le_any _ | refine And.intro ?_ ?_)); done)
 rintro ⟨b, i, l⟩ ⟨⟨p1, p2, p3⟩, p4⟩
 have p1 : a ≤ b := p1
 have p2 : b ≤ a + 15 * i := p2
 have p3 : i ≤ 5 := p3
 have p4 : allK rdS (5 * i) l := p4
 have hll := p4.1
 have htl : tE.length = 5 := rfl
 conv => whnf
 repeat' (first | (refine br_intro ?_ ?_ <;> intro hb <;> (try simp only [brs] at hb) <;> conv => whnf) | (refine RegX.rule (id := 14) hT rfl [] oVRoA7_14 (by decide +kernel) ?_; conv => whnf) | omega | (refine And.intro ?_ ?_; ((try dsimp only); first | omega | (refine szA rfl ?_; omega) | (refine szB rfl ?_; omega) | (unfold inI64; omega) | exact rfl | (simp only [lns] at *; omega) | decide | (unfold inI64; decide)); conv => whnf) | decide | assumption)
 · refine LoopX.rule hT (C := []) (ι := Int × Nat × List Roa) (fun (c, j, l) => (a ≤ c ∧ c ≤ a + 15 * i + 3 * j ∧ j ≤ 5) ∧ allK rdS (5 * i + j) l)
    (fun (c, j, l) => mkSt [(0, .ptr 1000000 0), (3, .buf 3), (5, .d (.str (tE.getD i []))), (9, .d (strs tE)), (10, .d (.int .i64 5)), (11, .d (.int .i64 i)), (15, .d (strs tE)), (16, .d (.int .i64 5)), (17, .d (.int .i64 j))] [(1000000, strm n L c), (3, rdB l)]) (fun (_, j, _) => 5 - j) (b, 0, l) ⟨by simp; omega, by simpa using p4⟩ ?_ ?_
   · exact (by (refine Entails.mk' [(1000000, 1000000), (3, 3)] rfl rfl ?_ ?_ <;> repeat' (first | exact True.intro | exact lr | exact rr | (exact SV.le_lit rfl rfl) | exact SV.le_int (by omega) | exact SV.le_any _ | refine And.intro ?_ ?_)); done)
   rintro ⟨c, j, l⟩ ⟨⟨r1, r2, r3⟩, r4⟩
   have r1 : a ≤ c := r1
   have r2 : c ≤ a + 15 * i + 3 * j := r2
   have r3 : j ≤ 5 := r3
   have r4 : allK rdS (5 * i + j) l := r4
   have hlj := r4.1
   have hi5 : i < 5 := by omega
   conv => whnf
   repeat' (first | (refine CallX.of (s84 n L hL _ ?_ ?_ _ ?_) [(1000000, 1000000)] rfl ⟨lr, lr, trivial⟩ ⟨rr, trivial⟩ rfl rfl ?_; rotate_right; rintro x rout ⟨⟨f, rfl⟩, ⟨c, c1, c2, rfl⟩⟩; refine ⟨rfl, ?_⟩; conv => whnf) | (refine CallX.of (s33 n L hL _ ?_ ?_ [0, 1, 3, 5, 5, 8, 20] ?_ ?_) [(1000000, 1000000)] rfl ⟨lr, SV.le_lit rfl rfl, trivial⟩ ⟨rr, trivial⟩ rfl rfl ?_; rotate_right; rintro x rout ⟨⟨u1, hu1, rfl⟩, ⟨c, c1, c2, rfl⟩⟩; refine ⟨rfl, ?_⟩; conv => whnf) | (refine CallX.of (s33 n L hL _ ?_ ?_ [0, 1, 2, 4] ?_ ?_) [(1000000, 1000000)] rfl ⟨lr, SV.le_lit rfl rfl, trivial⟩ ⟨rr, trivial⟩ rfl rfl ?_; rotate_right; rintro x rout ⟨⟨u2, hu2, rfl⟩, ⟨c, c1, c2, rfl⟩⟩; refine ⟨rfl, ?_⟩; conv => whnf) | (refine br_intro ?_ ?_ <;> intro hb <;> (try simp only [brs] at hb) <;> conv => whnf) | (refine RegX.rule (id := 14) hT rfl [] oVRoA7_14 (by decide +kernel) ?_; conv => whnf) | omega | (refine And.intro ?_ ?_; ((try dsimp only); first | omega | (refine szA rfl ?_; omega) | (refine szB rfl ?_; omega) | (unfold inI64; omega) | exact rfl | (simp only [lns] at *; omega) | decide | (unfold inI64; decide)); conv => whnf) | decide | assumption)
   all_goals first
    | (refine ⟨(_, j + 1, l ++ [⟨tE.getD i [], tE.getD j [], u1, u2⟩]), ⟨⟨by omega, ?_, by omega⟩, allK_snoc r4 (by omega) ⟨Nat.le_trans tE_len (by decide), Nat.le_trans tE_len (by decide)⟩⟩, (show 5 - (j + 1) < 5 - j by omega), Entails.mk' [(1000000, 1000000), (3, 40)] rfl rfl ⟨lr, lr, lr, lr, lr, lr, lr, lr, lr, trivial⟩ ⟨rr, Res.le_snocF rfl, trivial⟩⟩
       show _ ≤ a + 15 * (i : Int) + 3 * ((j + 1 : Nat) : Int)
       omega)
    | (refine ⟨(_, j + 1, l), ⟨⟨by omega, ?_, by omega⟩, allK_le r4 (by omega)⟩, (show 5 - (j + 1) < 5 - j by omega), Entails.mk' [(1000000, 1000000), (3, 3)] rfl rfl ⟨lr, lr, lr, lr, lr, lr, lr, lr, lr, trivial⟩ ⟨rr, rr, trivial⟩⟩
       show _ ≤ a + 15 * (i : Int) + 3 * ((j + 1 : Nat) : Int)
       omega)
    | (refine ⟨(c, i + 1, l), ⟨⟨by omega, by show c ≤ a + 15 * ((i + 1 : Nat) : Int); omega, by omega⟩, allK_le r4 (by omega)⟩, (show 5 - (i + 1) < 5 - i by omega), Entails.mk' [(1000000, 1000000), (3, 3)] rfl rfl ⟨lr, lr, lr, lr, lr, trivial⟩ ⟨rr, rr, trivial⟩⟩)
 all_goals
  have p5 : allK rdS 25 l := allK_le p4 (by omega)
  have hl25 := p5.1
  repeat' (first | (refine CallX.of (s84 n L hL _ ?_ ?_ _ ?_) [(1000000, 1000000)] rfl ⟨lr, lr, trivial⟩ ⟨rr, trivial⟩ rfl rfl ?_; rotate_right; rintro x rout ⟨⟨f, rfl⟩, ⟨c, c1, c2, rfl⟩⟩; refine ⟨rfl, ?_⟩; conv => whnf) | (refine CallX.of (s86 n L hL _ ?_ ?_ _ ?_) [(1000000, 1000000)] rfl ⟨lr, lr, trivial⟩ ⟨rr, trivial⟩ rfl rfl ?_; rotate_right; rintro x rout ⟨⟨j, hj1, hj2, hj3, rfl⟩, ⟨c, c1, c2, rfl⟩⟩; refine ⟨rfl, ?_⟩; conv => whnf) | (refine CallX.of (s15 n L hL _ ?_ ?_ [(l.getD j.toNat rd0).a, [], [98]] (by simp) (by simp)) [(1000000, 1000000)] rfl ⟨lr, SV.le_lit rfl rfl, trivial⟩ ⟨rr, trivial⟩ rfl rfl ?_; rotate_right; rintro x rout ⟨⟨u1, hu1, rfl⟩, ⟨c, c1, c2, rfl⟩⟩; refine ⟨rfl, ?_⟩; conv => whnf) | (refine CallX.of (s15 n L hL _ ?_ ?_ [(l.getD j.toNat rd0).b, [65], [98]] (by simp) (by simp)) [(1000000, 1000000)] rfl ⟨lr, SV.le_lit rfl rfl, trivial⟩ ⟨rr, trivial⟩ rfl rfl ?_; rotate_right; rintro x rout ⟨⟨u2, hu2, rfl⟩, ⟨c, c1, c2, rfl⟩⟩; refine ⟨rfl, ?_⟩; conv => whnf) | (refine CallX.of (s104 n L hL _ ?_ ?_ 0 1000000 ?_ ?_ ?_) [(1000000, 1000000)] rfl ⟨lr, lr, lr, trivial⟩ ⟨rr, trivial⟩ rfl rfl ?_; rotate_right; rintro x rout ⟨⟨u3, hk1, hk2, rfl⟩, ⟨c, c1, c2, rfl⟩⟩; refine ⟨rfl, ?_⟩; conv => whnf) | (refine br_intro ?_ ?_ <;> intro hb <;> (try simp only [brs] at hb) <;> conv => whnf) | (refine RegX.rule (id := 14) hT rfl [] oVRoA7_14 (by decide +kernel) ?_; conv => whnf) | omega | (refine And.intro ?_ ?_; ((try dsimp only); first | omega | (refine szA rfl ?_; omega) | (refine szB rfl ?_; omega) | (unfold inI64; omega) | exact rfl | (simp only [lns] at *; omega) | decide | (unfold inI64; decide)); conv => whnf) | decide | assumption)
 all_goals first
  | (refine .freeze _ 3 64 4 _ _ rfl (.weak _ ?_)
     (conv => whnf)
     have hx := p5.2 (l.getD j.toNat rd0) (getD_mem (by omega))
     have hq1 := three_len hu1 hx.1 (by decide) (by decide)
     have hq2 := three_len hu2 hx.2 (by decide) (by decide)
     exact ⟨_, [(1000000, strm n L _)], SV.le_upd3 (f := rdF) (d := rd0) (fun y : Roa => { y with a := u1 }) (fun y => { y with b := u2 }) (fun y => { y with car := u3 }) (fun _ => rfl) (fun _ => rfl) (fun _ => rfl), ⟨⟨_, allK_upd (g := fun y : Roa => { y with car := u3 }) (allK_upd (g := fun y : Roa => { y with b := u2 }) (allK_upd (g := fun y : Roa => { y with a := u1 }) p5 (fun y hy => ⟨hq1, hy.2⟩)) (fun y hy => ⟨hy.1, hq2⟩)) (fun y hy => hy), rfl⟩, _, by omega, by omega, rfl⟩, rr, trivial⟩)
  | (refine .freeze _ 3 64 4 _ _ rfl (.weak _ ?_)
     (conv => whnf)
     exact ⟨_, [(1000000, strm n L _)], lr, ⟨⟨l, p5, rfl⟩, _, by omega, by omega, rfl⟩, rr, trivial⟩)
def mvG (x : Mov) : Prop := x.a.length ≤ 8 ∧ x.b.length ≤ 8
def oVRoB57_6 : List (Nat × List Nat) := [(0, []), (1, [0]), (2, []), (3, []), (4, [0, 1, 2, 3]), (5, [0, 1, 2, 3, 4]), (6, [0, 1, 2, 3]), (7, [0, 1, 2, 3]), (8, [])]
theorem p57 (l m : List Mov) (hl : l.length ≤ 2^40) : FSpec Tryz.prog 57 [.d (movs l), .d (movs m)] [] (fun x r => x = .d (.bool (decide (l = m))) ∧ r = []) := by
 refine spec_of hT (C := []) Tryz.func57 rfl Tryz.call57 rfl rfl rfl ?_
 conv => whnf
 repeat' (first | (refine br_intro ?_ ?_ <;> intro hb <;> (try simp only [brs] at hb) <;> conv => whnf) | (refine RegX.rule (id := 6) hT rfl [] oVRoB57_6 (by decide +kernel) ?_; conv => whnf) | omega | (refine And.intro ?_ ?_; ((try dsimp only); first | omega | (refine szA rfl ?_; omega) | (refine szB rfl ?_; omega) | (unfold inI64; omega) | exact rfl | (simp only [lns] at *; omega) | decide | (unfold inI64; decide)); conv => whnf) | decide | assumption)
 · refine .ret _ ?_
   conv => whnf
   refine ⟨[], ⟨?_, rfl⟩, trivial⟩
   conv => lhs; whnf
   have : ¬ l = m := fun q => by subst q; simp at hb
   simp [this]
 have hlen : l.length = m.length := by
  omega
 refine LoopX.rule hT (C := []) (ι := Nat) (fun i => i ≤ l.length ∧ ∀ j, j < i → l.getD j mv0 = m.getD j mv0) (fun i => mkSt [(0, .d (movs l)), (1, .d (movs m)), (12, .d (.int .i64 l.length)), (13, .d (.int .i64 i))] []) (fun i => l.length - i) 0 ⟨by omega, by omega⟩ (by (refine Entails.mk' [] rfl rfl ?_ ?_ <;> repeat' (first | exact True.intro | exact lr | exact rr | exact SV.le_int (by omega) | exact SV.le_any _ | refine And.intro ?_ ?_)); done) ?_
 rintro i ⟨p1, p2⟩
 have e1 : (i : Int).toNat = i := Int.toNat_natCast i
 conv => whnf
 repeat' (first | (refine br_intro ?_ ?_ <;> intro hb <;> (try simp only [brs] at hb) <;> conv => whnf) | (refine RegX.rule (id := 6) hT rfl [] oVRoB57_6 (by decide +kernel) ?_; conv => whnf) | omega | (refine And.intro ?_ ?_; ((try dsimp only); first | omega | (refine szA rfl ?_; omega) | (refine szB rfl ?_; omega) | (unfold inI64; omega) | exact rfl | (simp only [lns] at *; omega) | decide | (unfold inI64; decide)); conv => whnf) | decide | assumption)
 · refine .ret _ ?_
   conv => whnf
   refine ⟨[], ⟨?_, rfl⟩, trivial⟩
   conv => lhs; whnf
   have : ¬ l = m := fun q => by subst q; simp at hb
   simp [this]
 · exact ⟨i + 1, ⟨by omega, all_step p2 (by rw [mov_eq]; simpa [and_assoc] using hb)⟩, by omega, (by (refine Entails.mk' [] rfl rfl ?_ ?_ <;> repeat' (first | exact True.intro | exact lr | exact rr | exact SV.le_int (by omega) | exact SV.le_any _ | refine And.intro ?_ ?_)); done)⟩
 · refine .ret _ ?_
   conv => whnf
   refine ⟨[], ⟨?_, rfl⟩, trivial⟩
   conv => lhs; whnf
   have : i = l.length := by omega
   subst this
   simp [eq_of_getD mv0 hlen p2]
theorem p19 : FSpec Tryz.prog 19 [] [] (fun x r => x = .d (.bool true) ∧ r = []) := by
 refine spec_of hT (C := []) Tryz.func19 rfl Tryz.call19 rfl rfl rfl ?_
 conv => whnf
 repeat' (first | (refine CallX.of s27t [] rfl ⟨SV.le_lit rfl rfl, SV.le_lit rfl rfl, trivial⟩ trivial rfl rfl ?_; rintro x rout ⟨rfl, rfl⟩; refine ⟨rfl, ?_⟩; conv => whnf) | (refine CallX.of (p57 [⟨[97], [98], 1⟩] [⟨[97], [98], 1⟩] (by simp)) [] rfl ⟨lr, SV.le_lit rfl rfl, trivial⟩ trivial rfl rfl ?_; rintro x rout ⟨rfl, rfl⟩; refine ⟨rfl, ?_⟩; conv => whnf) | (refine br_intro ?_ ?_ <;> intro hb <;> (try simp only [brs] at hb) <;> conv => whnf) | omega | (refine And.intro ?_ ?_; ((try dsimp only); first | omega | (refine szA rfl ?_; omega) | (refine szB rfl ?_; omega) | (unfold inI64; omega) | exact rfl | (simp only [lns] at *; omega) | decide | (unfold inI64; decide)); conv => whnf) | decide | assumption)
 all_goals try (exfalso; simp at hb; done)
 all_goals
  refine .ret _ ?_
  conv => whnf
  exact ⟨[], ⟨rfl, rfl⟩, trivial⟩
def ndS (x : Ned) : Prop := x.st.length ≤ 8
abbrev ndB (l : List Ned) : Res := seqB 58 2 ndF nd0 l
set_option maxHeartbeats 2000000 in
theorem sNds (n : Nat) (L : Nat → Int) (hL : Rok n L) (a : Int) (h0 : 0 ≤ a) (ha : a ≤ 2^38) :
 FSpec Tryz.prog 6 [.ptr 1000000 0] [(1000000, strm n L a)] (fun y r => (∃ l : List Ned, allK ndS 5 l ∧ y = .d (neds l)) ∧ Moved n L a 100 r) := by
 refine spec_of hT (C := []) Tryz.func6 rfl Tryz.call6 rfl rfl rfl ?_
 conv => whnf
 repeat' (first | (refine br_intro ?_ ?_ <;> intro hb <;> (try simp only [brs] at hb) <;> conv => whnf) | omega | (refine And.intro ?_ ?_; ((try dsimp only); first | omega | (refine szA rfl ?_; omega) | (refine szB rfl ?_; omega) | (unfold inI64; omega) | exact rfl | (simp only [lns] at *; omega) | decide | (unfold inI64; decide)); conv => whnf) | decide | assumption)
 refine LoopX.rule hT (C := []) (ι := Int × Nat × List Ned) (fun (b, i, l) => (a ≤ b ∧ b ≤ a + 3 * i ∧ i ≤ 5) ∧ allK ndS i l)
  (fun (b, i, l) => mkSt [(0, .ptr 1000000 0), (3, .buf 3), (7, .d (strs tE)), (8, .d (.int .i64 5)), (9, .d (.int .i64 i))] [(1000000, strm n L b), (3, ndB l)]) (fun (_, i, _) => 5 - i) (a, 0, []) ⟨by simp, by simp [allK]⟩ ?_ ?_
 · exact (Entails.nil 3 3 58 2 (rowF ndF nd0 []) rfl rfl (by decide)).trans (by (refine Entails.mk' [(1000000, 1000000), (3, 3)] rfl rfl ?_ ?_ <;> repeat' (first | exact True.intro | exact lr | exact rr | (exact SV.le_lit rfl rfl) | exact SV.le_int (by omega) | exact SV.le_any _ | refine And.intro ?_ ?_)); done)
 rintro ⟨b, i, l⟩ ⟨⟨p1, p2, p3⟩, p4⟩
 have p1 : a ≤ b := p1
 have p2 : b ≤ a + 3 * i := p2
 have p3 : i ≤ 5 := p3
 have p4 : allK ndS i l := p4
 have hll := p4.1
 have htl : tE.length = 5 := rfl
 conv => whnf
 repeat' (first | (refine CallX.of (s84 n L hL _ ?_ ?_ _ ?_) [(1000000, 1000000)] rfl ⟨lr, lr, trivial⟩ ⟨rr, trivial⟩ rfl rfl ?_; rotate_right; rintro x rout ⟨⟨f, rfl⟩, ⟨c, c1, c2, rfl⟩⟩; refine ⟨rfl, ?_⟩; conv => whnf) | (refine CallX.of (s33 n L hL _ ?_ ?_ [0, 1, 2, 3, -1, -2, 4] ?_ ?_) [(1000000, 1000000)] rfl ⟨lr, SV.le_lit rfl rfl, trivial⟩ ⟨rr, trivial⟩ rfl rfl ?_; rotate_right; rintro x rout ⟨⟨u1, hu1, rfl⟩, ⟨c, c1, c2, rfl⟩⟩; refine ⟨rfl, ?_⟩; conv => whnf) | (refine br_intro ?_ ?_ <;> intro hb <;> (try simp only [brs] at hb) <;> conv => whnf) | omega | (refine And.intro ?_ ?_; ((try dsimp only); first | omega | (refine szA rfl ?_; omega) | (refine szB rfl ?_; omega) | (unfold inI64; omega) | exact rfl | (simp only [lns] at *; omega) | decide | (unfold inI64; decide)); conv => whnf) | decide | assumption)
 all_goals try (exfalso; omega)
 · refine ⟨(_, i + 1, l ++ [⟨tE.getD i [], u1⟩]), ⟨⟨by omega, ?_, by omega⟩, allK_snoc p4 (by omega) (Nat.le_trans tE_len (by decide))⟩, (show 5 - (i + 1) < 5 - i by omega), Entails.mk' [(1000000, 1000000), (3, 23)] rfl rfl ⟨lr, lr, lr, lr, lr, trivial⟩ ⟨rr, Res.le_snocF rfl, trivial⟩⟩
   show _ ≤ a + 3 * ((i + 1 : Nat) : Int)
   omega
 · refine ⟨(_, i + 1, l), ⟨⟨by omega, ?_, by omega⟩, allK_le p4 (by omega)⟩, (show 5 - (i + 1) < 5 - i by omega), Entails.mk' [(1000000, 1000000), (3, 3)] rfl rfl ⟨lr, lr, lr, lr, lr, trivial⟩ ⟨rr, rr, trivial⟩⟩
   show _ ≤ a + 3 * ((i + 1 : Nat) : Int)
   omega
 all_goals
  have p5 : allK ndS 5 l := allK_le p4 (by omega)
  have hl5 := p5.1
  repeat' (first | (refine CallX.of (s86 n L hL _ ?_ ?_ _ ?_) [(1000000, 1000000)] rfl ⟨lr, lr, trivial⟩ ⟨rr, trivial⟩ rfl rfl ?_; rotate_right; rintro x rout ⟨⟨j, hj1, hj2, hj3, rfl⟩, ⟨c, c1, c2, rfl⟩⟩; refine ⟨rfl, ?_⟩; conv => whnf) | (refine CallX.of (s15 n L hL _ ?_ ?_ [(l.getD j.toNat nd0).st, [], [97]] (by simp) (by simp)) [(1000000, 1000000)] rfl ⟨lr, SV.le_lit rfl rfl, trivial⟩ ⟨rr, trivial⟩ rfl rfl ?_; rotate_right; rintro x rout ⟨⟨u1, hu1, rfl⟩, ⟨c, c1, c2, rfl⟩⟩; refine ⟨rfl, ?_⟩; conv => whnf) | (refine CallX.of (s104 n L hL _ ?_ ?_ (-20) 20 ?_ ?_ ?_) [(1000000, 1000000)] rfl ⟨lr, lr, lr, trivial⟩ ⟨rr, trivial⟩ rfl rfl ?_; rotate_right; rintro x rout ⟨⟨u3, hk1, hk2, rfl⟩, ⟨c, c1, c2, rfl⟩⟩; refine ⟨rfl, ?_⟩; conv => whnf) | (refine br_intro ?_ ?_ <;> intro hb <;> (try simp only [brs] at hb) <;> conv => whnf) | omega | (refine And.intro ?_ ?_; ((try dsimp only); first | omega | (refine szA rfl ?_; omega) | (refine szB rfl ?_; omega) | (unfold inI64; omega) | exact rfl | (simp only [lns] at *; omega) | decide | (unfold inI64; decide)); conv => whnf) | decide | assumption)
 all_goals first
  | (refine .freeze _ 3 58 2 _ _ rfl (.weak _ ?_)
     (conv => whnf)
     have hx := p5.2 (l.getD j.toNat nd0) (getD_mem (by omega))
     have hq1 := three_len hu1 hx (by decide) (by decide)
     exact ⟨_, [(1000000, strm n L _)], SV.le_upd2 (f := ndF) (d := nd0) (fun y : Ned => { y with st := u1 }) (fun y => { y with many := u3 }) (fun _ => rfl) (fun _ => rfl), ⟨⟨_, allK_upd (g := fun y : Ned => { y with many := u3 }) (allK_upd (g := fun y : Ned => { y with st := u1 }) p5 (fun y hy => hq1)) (fun y hy => hy), rfl⟩, _, by omega, by omega, rfl⟩, rr, trivial⟩)
  | (refine .freeze _ 3 58 2 _ _ rfl (.weak _ ?_)
     (conv => whnf)
     exact ⟨_, [(1000000, strm n L _)], lr, ⟨⟨l, p5, rfl⟩, _, by omega, by omega, rfl⟩, rr, trivial⟩)
def oVPiD8_11 : List (Nat × List Nat) := [(0, []), (1, [0]), (2, [0, 1]), (3, [0, 1]), (8, [0, 1, 2, 3]), (9, [0, 1, 2, 3, 8]), (4, [0, 8, 9]), (5, [8, 9]), (6, [8, 9]), (7, [8, 9]), (10, [0, 5, 6, 7]), (11, []), (12, []), (13, []), (14, [])]
def oVPiD8_16 : List (Nat × List Nat) := [(0, []), (1, [0]), (2, [0, 1]), (4, [0, 1, 2]), (5, [0, 1, 2, 4]), (7, [0, 1, 2, 4, 5]), (8, [0, 1, 2, 4, 5, 7]), (3, [0, 4, 5, 7, 8]), (6, [0, 7, 8]), (9, [0]), (10, [0]), (11, [0]), (12, []), (13, [])]
def oVPiD8_23 : List (Nat × List Nat) := [(0, []), (1, [0]), (2, [0, 1]), (3, [0, 1, 2]), (4, [0, 1, 2]), (5, [0, 1, 2]), (6, [0, 1, 2]), (7, [0, 1, 2]), (9, [0, 1, 2, 3, 4, 5, 6, 7]), (8, [0, 1, 9]), (10, [0, 1]), (11, [1]), (12, [1]), (13, [1]), (14, []), (15, []), (16, [])]
theorem p33 (l : List Roa) (hl : l.length ≤ 2^20) : FSpec Tryz.prog 33 [.d (roas l)] [] (fun y r => y = .buf 7 ∧ r = [(7, rdB l)]) := by
 refine spec_of hT (C := [5]) Tryz.func33 rfl Tryz.call33 rfl rfl rfl ?_
 conv => whnf
 rintro b hbn
 conv => whnf
 repeat' (first | (refine br_intro ?_ ?_ <;> intro hb <;> (try simp only [brs] at hb) <;> conv => whnf) | omega | (refine And.intro ?_ ?_; ((try dsimp only); first | omega | (refine szA rfl ?_; omega) | (refine szB rfl ?_; omega) | (unfold inI64; omega) | exact rfl | (simp only [lns] at *; omega) | decide | (unfold inI64; decide)); conv => whnf) | decide | assumption)
 · have h0 : l = [] := List.eq_nil_of_length_eq_zero (hbn (by assumption))
   subst h0
   refine .ent _ _ (Entails.nil 2 7 64 4 (rowF rdF rd0 []) rfl rfl (by decide)) (.ret _ ?_)
   conv => whnf
   exact ⟨_, ⟨rfl, rfl⟩, rr, trivial⟩
 · refine .ret _ ?_
   conv => whnf
   refine ⟨_, ⟨rfl, rfl⟩, Res.le_buf (by simp) (fun i hi => ?_), trivial⟩
   rw [appGet_ge (by omega)]; rfl
def carL (l : List Roa) (j : Nat) (u : Int) : List Roa := l.set j { l.getD j rd0 with car := u }
theorem carL_at (l : List Roa) (j : Nat) (u : Int) (i : Nat) : ((carL l j u).getD i rd0).a = (l.getD i rd0).a ∧ ((carL l j u).getD i rd0).b = (l.getD i rd0).b ∧ ((carL l j u).getD i rd0).ride = (l.getD i rd0).ride ∧ (((carL l j u).getD i rd0).car = (l.getD i rd0).car ∨ ((carL l j u).getD i rd0).car = u) := by
 unfold carL
 by_cases hj : j < l.length
 · by_cases e : j = i
   · subst e
     have : (l.set j { l.getD j rd0 with car := u }).getD j rd0 = { l.getD j rd0 with car := u } := by
      rw [List.getD_eq_getElem?_getD, List.getElem?_set_self hj]; rfl
     rw [this]; exact ⟨rfl, rfl, rfl, .inr rfl⟩
   · have : (l.set j { l.getD j rd0 with car := u }).getD i rd0 = l.getD i rd0 := by
      rw [List.getD_eq_getElem?_getD, List.getElem?_set_ne e, ← List.getD_eq_getElem?_getD]
     rw [this]; exact ⟨rfl, rfl, rfl, .inl rfl⟩
 · rw [List.set_eq_of_length_le (by omega)]; exact ⟨rfl, rfl, rfl, .inl rfl⟩
theorem rds_car {l : List Roa} (h : rdsE l = 0) {j : Nat} {u : Int} (hu : 0 ≤ u ∧ u ≤ 1000000) : rdsE (carL l j u) = 0 := by
 obtain ⟨h1, h2⟩ := rds_all h
 have hlen : (carL l j u).length = l.length := by unfold carL; rw [List.length_set]
 unfold rdsE
 rw [hlen, if_neg (by omega)]
 refine firstAt_zero fun i hi => ?_
 have h3 := h2 i hi
 obtain ⟨a1, a2, a3, a4⟩ := carL_at l j u i
 obtain ⟨b1, b2, _⟩ := carL_at l j u (i - 1)
 have hb := rd_bd h hi
 have hc : (0 ≤ ((carL l j u).getD i rd0).car ∧ ((carL l j u).getD i rd0).car ≤ 1000000) := by rcases a4 with q | q <;> rw [q]; exact hb.1; exact hu
 unfold rdE at h3 ⊢
 simp only [a1, a2, a3, b1, b2] at h3 ⊢
 rw [if_neg (c := ¬ ((0 ≤ ((carL l j u).getD i rd0).car ∧ ((carL l j u).getD i rd0).car ≤ 1000000) ∧ (0 ≤ (l.getD i rd0).ride ∧ (l.getD i rd0).ride ≤ 1000000))) (fun q => q ⟨hc, hb.2⟩)]
 rw [if_neg (c := ¬ ((0 ≤ (l.getD i rd0).car ∧ (l.getD i rd0).car ≤ 1000000) ∧ (0 ≤ (l.getD i rd0).ride ∧ (l.getD i rd0).ride ≤ 1000000))) (fun q => q ⟨hb.1, hb.2⟩)] at h3
 exact h3
theorem lsV_mem {n : List Ned} {r : List Roa} : ∀ (m a : Nat) (x : Nat → Int), ∀ y ∈ lsV (mvN n r) m a x, ∃ k v, y = mvN n r k v
 | 0, _, _, y, hy => by cases hy
 | m + 1, a, x, y, hy => by
   rw [lsV] at hy
   rcases List.mem_append.1 hy with z | z
   · split at z
     · exact ⟨a, x 0, by simpa using z⟩
     · cases z
   · exact lsV_mem m (a + 1) (vtl x) y z
theorem getD_or {n : List Ned} (i : Nat) : n.getD i nd0 ∈ n ∨ n.getD i nd0 = nd0 := by
 by_cases h : i < n.length
 · exact .inl (getD_mem h)
 · right; rw [List.getD_eq_getElem?_getD, List.getElem?_eq_none (by omega)]; rfl
theorem ned_st {n : List Ned} (hN : allK ndS 5 n) (i : Nat) : (n.getD i nd0).st.length ≤ 8 := by
 rcases getD_or (n := n) i with q | q
 · exact hN.2 _ q
 · rw [q]; decide
theorem mvN_g {n : List Ned} (hN : allK ndS 5 n) {r : List Roa} {k : Nat} {v : Int} : mvG (mvN n r k v) := ⟨ned_st hN _, ned_st hN _⟩
theorem pof_g {n : List Ned} {r : List Roa} {M : PMap Mov} (hN : allK ndS 5 n) (hn : ndsE n = 0) (hr : rdsE r = 0) (h : NowI n r n.length M) {q : Pla Mov} (hq : M (List.replicate (wanS n n.length).length 0) = some q) : allK mvG 100 q.l ∧ ∀ m ∈ q.l, mvS m := by
 have b1 := (h.bnd _ _ hq).1
 have b2 := (nds_all hn).1
 have b3 := wanS_len n n.length
 have b4 : n.length * (wanS n n.length).length ≤ 10 * 10 := Nat.mul_le_mul b2 (by omega)
 have hb := pof_best hn hr h
 rw [hq] at hb
 obtain ⟨x, _, hx⟩ := hb
 exact ⟨⟨by omega, fun y hy => by rw [hx] at hy; obtain ⟨k, v, rfl⟩ := lsV_mem _ _ _ y hy; exact mvN_g hN⟩, b1.2⟩
set_option maxHeartbeats 16000000 in
theorem sMvs (n : Nat) (L : Nat → Int) (hL : Rok n L) (a0 : Int) (h00 : 0 ≤ a0) (ha0 : a0 ≤ 2^35) (N : List Ned) (R : List Roa) (hN : allK ndS 5 N) (hR : allK rdS 25 R) :
 FSpec Tryz.prog 8 [.ptr 1000000 0, .d (neds N), .d (roas R)] [(1000000, strm n L a0)] (fun y r => (∃ l : List Mov, allK mvG 100 l ∧ y = .d (movs l)) ∧ Moved n L a0 200 r) := by
 have hnd : ndOk N := ⟨by have := hN.1; omega, fun x hx => by have h1 : x.st.length ≤ 8 := hN.2 x hx; show x.st.length ≤ 2^40; omega⟩
 have hrd : rdOk R := ⟨by have := hR.1; omega, fun x hx => by have h1 := hR.2 x hx; exact ⟨by have := h1.1; omega, by have := h1.2; omega⟩⟩
 have hRl := hR.1
 have h20 := z20 N hnd
 have h21 := z21 R hrd
 obtain ⟨e1, he1⟩ : ∃ e, ndsE N = e := ⟨_, rfl⟩
 obtain ⟨e2, he2⟩ : ∃ e, rdsE R = e := ⟨_, rfl⟩
 rw [he1] at h20
 rw [he2] at h21
 refine spec_of hT (C := []) Tryz.func8 rfl Tryz.call8 rfl rfl rfl ?_
 conv => whnf
 repeat' (first | (refine CallX.exact (h20) rfl rfl ?_; rotate_right; conv => whnf) | (refine CallX.exact (h21) rfl rfl ?_; rotate_right; conv => whnf) | (refine CallX.of (s84 n L hL _ ?_ ?_ _ ?_) [(1000000, 1000000)] rfl ⟨lr, lr, trivial⟩ ⟨rr, trivial⟩ rfl rfl ?_; rotate_right; rintro x rout ⟨⟨f, rfl⟩, ⟨c, c1, c2, rfl⟩⟩; refine ⟨rfl, ?_⟩; conv => whnf) | (refine CallX.of (p33 R (by omega)) [(7, 7)] rfl ⟨lr, trivial⟩ trivial rfl rfl ?_; rintro x rout ⟨rfl, rfl⟩; refine ⟨rfl, ?_⟩; conv => whnf) | (refine CallX.of (s64 n L hL _ ?_ ?_ 0 5 ?_ ?_ ?_ ?_) [(1000000, 1000000)] rfl ⟨lr, lr, lr, trivial⟩ ⟨rr, trivial⟩ rfl rfl ?_; rotate_right; rintro x rout ⟨⟨k, hk1, hk2, rfl⟩, ⟨c, c1, c2, rfl⟩⟩; refine ⟨rfl, ?_⟩; conv => whnf) | (refine br_intro ?_ ?_ <;> intro hb <;> (try simp only [brs] at hb) <;> conv => whnf) | (refine RegX.rule (id := 11) hT rfl [] oVPiD8_11 (by decide +kernel) ?_; conv => whnf) | (refine RegX.rule (id := 16) hT rfl [] oVPiD8_16 (by decide +kernel) ?_; conv => whnf) | (refine RegX.rule (id := 23) hT rfl [] oVPiD8_23 (by decide +kernel) ?_; conv => whnf) | omega | (refine And.intro ?_ ?_; ((try dsimp only); first | omega | (refine szA rfl ?_; omega) | (refine szB rfl ?_; omega) | (unfold inI64; omega) | exact rfl | (simp only [lns] at *; omega) | decide | (unfold inI64; decide)); conv => whnf) | decide | assumption)
 · have h1 : ndsE N = 0 := by omega
   have h2 : rdsE R = 0 := by omega
   refine LoopX.rule hT (C := []) (ι := Int × List Roa × Nat) (fun (b, l, i) => (a0 ≤ b ∧ b ≤ a0 + 1 + i ∧ i ≤ R.length) ∧ (rdsE l = 0 ∧ l.length = R.length))
    (fun (b, l, i) => mkSt [(1, .d (neds N)), (3, .ptr 3 0), (7, .buf 7), (29, .d (.int .i64 R.length)), (30, .d (.int .i64 i))] [(1000000, strm n L b), (3, .cells 23 [.ptr 1000000 0]), (7, rdB l)]) (fun (_, _, i) => R.length - i) (c, R, 0) ⟨⟨by omega, by show c ≤ a0 + 1 + ((0 : Nat) : Int); omega, by omega⟩, h2, rfl⟩ (by (refine Entails.mk' [(1000000, 1000000), (3, 3), (7, 7)] rfl rfl ?_ ?_ <;> repeat' (first | exact True.intro | exact lr | exact rr | exact SV.le_int (by omega) | exact SV.le_any _ | refine And.intro ?_ ?_)); done) ?_
   rintro ⟨a, l, i⟩ ⟨⟨p1, p2, p3⟩, p4, p5⟩
   have p1 : a0 ≤ a := p1
   have p2 : a ≤ a0 + 1 + i := p2
   have p3 : i ≤ R.length := p3
   have p4 : rdsE l = 0 := p4
   have p5 : l.length = R.length := p5
   rcases Nat.lt_or_ge i R.length with hin | hin
   · conv => whnf
     repeat' (first | (refine CallX.of (s64 n L hL _ ?_ ?_ 0 9 ?_ ?_ ?_ ?_) [(1000000, 1000000)] rfl ⟨lr, lr, lr, trivial⟩ ⟨rr, trivial⟩ rfl rfl ?_; rotate_right; rintro x rout ⟨⟨u, hu1, hu2, rfl⟩, ⟨c, c1, c2, rfl⟩⟩; refine ⟨rfl, ?_⟩; conv => whnf) | (refine br_intro ?_ ?_ <;> intro hb <;> (try simp only [brs] at hb) <;> conv => whnf) | (refine RegX.rule (id := 11) hT rfl [] oVPiD8_11 (by decide +kernel) ?_; conv => whnf) | (refine RegX.rule (id := 16) hT rfl [] oVPiD8_16 (by decide +kernel) ?_; conv => whnf) | (refine RegX.rule (id := 23) hT rfl [] oVPiD8_23 (by decide +kernel) ?_; conv => whnf) | omega | (refine And.intro ?_ ?_; ((try dsimp only); first | omega | (refine szA rfl ?_; omega) | (refine szB rfl ?_; omega) | (unfold inI64; omega) | exact rfl | (simp only [lns] at *; omega) | decide | (unfold inI64; decide)); conv => whnf) | decide | assumption)
     all_goals try (exfalso; omega)
     refine ⟨(_, carL l i u, i + 1), ⟨⟨by omega, ?_, by omega⟩, rds_car p4 ⟨by omega, by omega⟩, by unfold carL; rw [List.length_set]; exact p5⟩, (show R.length - (i + 1) < R.length - i by omega), Entails.mk' [(1000000, 1000000), (3, 3), (7, 7)] rfl rfl ⟨lr, lr, lr, lr, lr, trivial⟩ ⟨rr, rr, Res.le_upd (fun y : Roa => { y with car := u }) (fun _ => rfl), trivial⟩⟩
     show _ ≤ a0 + 1 + ((i + 1 : Nat) : Int)
     omega
   have h0 : 0 ≤ a := by omega
   have ha : a ≤ 2^36 := by omega
   conv => whnf
   repeat' (first | (refine br_intro ?_ ?_ <;> intro hb <;> (try simp only [brs] at hb) <;> conv => whnf) | (refine RegX.rule (id := 11) hT rfl [] oVPiD8_11 (by decide +kernel) ?_; conv => whnf) | (refine RegX.rule (id := 16) hT rfl [] oVPiD8_16 (by decide +kernel) ?_; conv => whnf) | (refine RegX.rule (id := 23) hT rfl [] oVPiD8_23 (by decide +kernel) ?_; conv => whnf) | omega | (refine And.intro ?_ ?_; ((try dsimp only); first | omega | (refine szA rfl ?_; omega) | (refine szB rfl ?_; omega) | (unfold inI64; omega) | exact rfl | (simp only [lns] at *; omega) | decide | (unfold inI64; decide)); conv => whnf) | decide | assumption)
   all_goals try (exfalso; omega)
   refine CallX.freeze _ _ _ _ 7 64 4 _ _ rfl rfl ?_
   refine CallX.of (p35 N l h1 p4) [(7, 9)] rfl ⟨lr, lr, trivial⟩ trivial rfl rfl ?_
   rintro x rout ⟨o, ⟨M, hM, hMo⟩, hcase⟩
   cases o with
   | none =>
     rcases hcase with ⟨hz, rfl, rfl⟩ | ⟨hz, rfl, rfl⟩
     · refine ⟨rfl, ?_⟩
       conv => whnf
       repeat' (first | (refine CallX.of (s64 n L hL _ ?_ ?_ 0 5 ?_ ?_ ?_ ?_) [(1000000, 1000000)] rfl ⟨lr, lr, lr, trivial⟩ ⟨rr, trivial⟩ rfl rfl ?_; rotate_right; rintro x rout ⟨⟨k, hk1, hk2, rfl⟩, ⟨c, c1, c2, rfl⟩⟩; refine ⟨rfl, ?_⟩; conv => whnf) | (refine br_intro ?_ ?_ <;> intro hb <;> (try simp only [brs] at hb) <;> conv => whnf) | (refine RegX.rule (id := 11) hT rfl [] oVPiD8_11 (by decide +kernel) ?_; conv => whnf) | (refine RegX.rule (id := 16) hT rfl [] oVPiD8_16 (by decide +kernel) ?_; conv => whnf) | (refine RegX.rule (id := 23) hT rfl [] oVPiD8_23 (by decide +kernel) ?_; conv => whnf) | omega | (refine And.intro ?_ ?_; ((try dsimp only); first | omega | (refine szA rfl ?_; omega) | (refine szB rfl ?_; omega) | (unfold inI64; omega) | exact rfl | (simp only [lns] at *; omega) | decide | (unfold inI64; decide)); conv => whnf) | decide | assumption)
       refine LoopX.rule hT (C := []) (ι := Int × List Mov × Nat) (fun (b, l, i) => (a ≤ b ∧ b ≤ a + 2 + 3 * i ∧ (i : Int) ≤ k) ∧ allK mvG i l)
        (fun (b, l, i) => mkSt [(3, .ptr 3 0), (11, .buf 11), (70, .d (.int .i64 k)), (71, .d (.int .i64 i))] [(1000000, strm n L b), (3, .cells 23 [.ptr 1000000 0]), (11, mvB l)])
        (fun (_, _, i) => (k - i).toNat) (c, [], 0) ⟨⟨by show a ≤ c; omega, by show c ≤ a + 2 + 3 * ((0 : Nat) : Int); omega, by show ((0 : Nat) : Int) ≤ k; omega⟩, ⟨by simp, fun x hx => by cases hx⟩⟩ ?_ ?_
       · exact (Entails.nil 11 11 70 3 (rowF mvF mv0 []) rfl rfl (by decide)).trans (by (refine Entails.mk' [(1000000, 1000000), (3, 3), (11, 11)] rfl rfl ?_ ?_ <;> repeat' (first | exact True.intro | exact lr | exact rr | exact SV.le_int (by omega) | exact SV.le_any _ | refine And.intro ?_ ?_)); done)
       rintro ⟨b, l, i⟩ ⟨⟨p1, p2, p3⟩, p4⟩
       have p1 : a ≤ b := p1
       have p2 : b ≤ a + 2 + 3 * i := p2
       have p3 : (i : Int) ≤ k := p3
       have p4 : allK mvG i l := p4
       have hl1 := p4.1
       conv => whnf
       repeat' (first | (refine CallX.of (s15 n L hL _ ?_ ?_ [[97], [98], [99], [100]] (by simp) (by simp)) [(1000000, 1000000)] rfl ⟨lr, SV.le_lit rfl rfl, trivial⟩ ⟨rr, trivial⟩ rfl rfl ?_; rotate_right; rintro x rout ⟨⟨u1, hu1, rfl⟩, ⟨c, c1, c2, rfl⟩⟩; have hw1 := mem_len hu1 rfl; refine ⟨rfl, ?_⟩; conv => whnf) | (refine CallX.of (s15 n L hL _ ?_ ?_ [[98], [99], [100], [101]] (by simp) (by simp)) [(1000000, 1000000)] rfl ⟨lr, SV.le_lit rfl rfl, trivial⟩ ⟨rr, trivial⟩ rfl rfl ?_; rotate_right; rintro x rout ⟨⟨u2, hu2, rfl⟩, ⟨c, c1, c2, rfl⟩⟩; have hw2 := mem_len hu2 rfl; refine ⟨rfl, ?_⟩; conv => whnf) | (refine CallX.of (s33 n L hL _ ?_ ?_ [1, 1, 2] ?_ ?_) [(1000000, 1000000)] rfl ⟨lr, SV.le_lit rfl rfl, trivial⟩ ⟨rr, trivial⟩ rfl rfl ?_; rotate_right; rintro x rout ⟨⟨u3, hu3, rfl⟩, ⟨c, c1, c2, rfl⟩⟩; refine ⟨rfl, ?_⟩; conv => whnf) | (refine br_intro ?_ ?_ <;> intro hb <;> (try simp only [brs] at hb) <;> conv => whnf) | (refine RegX.rule (id := 11) hT rfl [] oVPiD8_11 (by decide +kernel) ?_; conv => whnf) | (refine RegX.rule (id := 16) hT rfl [] oVPiD8_16 (by decide +kernel) ?_; conv => whnf) | (refine RegX.rule (id := 23) hT rfl [] oVPiD8_23 (by decide +kernel) ?_; conv => whnf) | omega | (refine And.intro ?_ ?_; ((try dsimp only); first | omega | (refine szA rfl ?_; omega) | (refine szB rfl ?_; omega) | (unfold inI64; omega) | exact rfl | (simp only [lns] at *; omega) | decide | (unfold inI64; decide)); conv => whnf) | decide | assumption)
       · refine ⟨(_, l ++ [⟨u1, u2, u3⟩], i + 1), ⟨⟨by omega, ?_, by omega⟩, allK_snoc p4 (by omega) ⟨hw1, hw2⟩⟩, (show (k - ((i + 1 : Nat) : Int)).toNat < (k - (i : Int)).toNat by omega), Entails.mk' [(1000000, 1000000), (3, 3), (11, 85)] rfl rfl ⟨lr, lr, lr, lr, trivial⟩ ⟨rr, rr, Res.le_snocF rfl, trivial⟩⟩
         show _ ≤ a + 2 + 3 * ((i + 1 : Nat) : Int)
         omega
       have hl5 : l.length ≤ 5 := by omega
       have hi5 : i ≤ 5 := by omega
       refine CallX.of (z99 37 (fun x y => cmpS (mvKey x) (mvKey y)) l (by omega) (fun x y hx hy => z100 x y (p4.2 x hx) (p4.2 y hy))) [(1000001, 11)] rfl ⟨lr, lr, trivial⟩ ⟨rr, trivial⟩ rfl rfl ?_
       rintro x rout ⟨rfl, c1, hc1, rfl⟩
       refine ⟨rfl, ?_⟩
       have hcl1 : c1.length ≤ 5 := by have := hc1.1; omega
       conv => whnf
       refine CallX.of (z102 40 (fun x y => x.a == y.a && x.b == y.b) c1 (by omega) (fun x y _ _ => z103 x y)) [(1000001, 11), (64, 200)] rfl ⟨lr, lr, trivial⟩ ⟨rr, trivial⟩ rfl rfl ?_
       rintro x rout ⟨c2, hc2, nm, hnm, rfl, rfl⟩
       have hcl2 : c2.length ≤ 5 := by have := hc2.1; omega
       rcases hnm with rfl | rfl
       · refine ⟨rfl, ?_⟩
         conv => whnf
         refine CallX.of (z104 n L hL b (by omega) (by omega) c2 (by omega)) [(1000000, 1000000), (1000001, 11), (1000002, 3), (41, 300)] rfl ⟨lr, lr, trivial⟩ ⟨rr, rr, rr, trivial⟩ rfl rfl ?_
         rintro x rout ⟨e, he1, nm, hnm, rfl, c5, ⟨hv1, hv2⟩, rfl⟩
         rcases hnm with rfl | rfl
         · refine ⟨rfl, ?_⟩
           conv => whnf
           have hsh : allK mvG 100 e := ⟨by have := hc1.1; have := hc2.1; have := he1.1; omega, fun p hp => p4.2 p (hc1.2 p (hc2.2 p (he1.2 p hp)))⟩
           have he5 := hsh.1
           repeat' (first | (refine CallX.of (s84 n L hL _ ?_ ?_ _ ?_) [(1000000, 1000000)] rfl ⟨lr, lr, trivial⟩ ⟨rr, trivial⟩ rfl rfl ?_; rotate_right; rintro x rout ⟨⟨f, rfl⟩, ⟨c, c1, c2, rfl⟩⟩; refine ⟨rfl, ?_⟩; conv => whnf) | (refine CallX.of (s86 n L hL _ ?_ ?_ _ ?_) [(1000000, 1000000)] rfl ⟨lr, lr, trivial⟩ ⟨rr, trivial⟩ rfl rfl ?_; rotate_right; rintro x rout ⟨⟨j, hj1, hj2, hj3, rfl⟩, ⟨c, c1, c2, rfl⟩⟩; refine ⟨rfl, ?_⟩; conv => whnf) | (refine CallX.of (s15 n L hL _ ?_ ?_ [(e.getD j.toNat mv0).a, [], [122]] (by simp) (by simp)) [(1000000, 1000000)] rfl ⟨lr, SV.le_lit rfl rfl, trivial⟩ ⟨rr, trivial⟩ rfl rfl ?_; rotate_right; rintro x rout ⟨⟨u1, hu1, rfl⟩, ⟨c, c1, c2, rfl⟩⟩; refine ⟨rfl, ?_⟩; conv => whnf) | (refine CallX.of (s104 n L hL _ ?_ ?_ 1 20 ?_ ?_ ?_) [(1000000, 1000000)] rfl ⟨lr, lr, lr, trivial⟩ ⟨rr, trivial⟩ rfl rfl ?_; rotate_right; rintro x rout ⟨⟨u3, hk1, hk2, rfl⟩, ⟨c, c1, c2, rfl⟩⟩; refine ⟨rfl, ?_⟩; conv => whnf) | (refine br_intro ?_ ?_ <;> intro hb <;> (try simp only [brs] at hb) <;> conv => whnf) | (refine RegX.rule (id := 11) hT rfl [] oVPiD8_11 (by decide +kernel) ?_; conv => whnf) | (refine RegX.rule (id := 16) hT rfl [] oVPiD8_16 (by decide +kernel) ?_; conv => whnf) | (refine RegX.rule (id := 23) hT rfl [] oVPiD8_23 (by decide +kernel) ?_; conv => whnf) | omega | (refine And.intro ?_ ?_; ((try dsimp only); first | omega | (refine szA rfl ?_; omega) | (refine szB rfl ?_; omega) | (unfold inI64; omega) | exact rfl | (simp only [lns] at *; omega) | decide | (unfold inI64; decide)); conv => whnf) | decide | assumption)
           all_goals first
            | (first
                | refine .freeze _ 11 70 3 _ _ rfl (.weak _ ?_)
                | refine .freeze _ 200 70 3 _ _ rfl (.weak _ ?_)
                | refine .freeze _ 300 70 3 _ _ rfl (.weak _ ?_)
               (conv => whnf)
               have hx := hsh.2 (e.getD j.toNat mv0) (getD_mem (by omega))
               have hq1 := three_len hu1 hx.1 (by decide) (by decide)
               exact ⟨_, [(1000000, strm n L _)], SV.le_upd2 (f := mvF) (d := mv0) (l := e) (fun y : Mov => { y with a := u1 }) (fun y => { y with many := u3 }) (fun _ => rfl) (fun _ => rfl), ⟨⟨_, allK_upd (g := fun y : Mov => { y with many := u3 }) (allK_upd (g := fun y : Mov => { y with a := u1 }) hsh (fun y hy => ⟨hq1, hy.2⟩)) (fun y hy => hy), rfl⟩, _, by omega, by omega, rfl⟩, rr, trivial⟩)
            | (first
                | refine .freeze _ 11 70 3 _ _ rfl (.weak _ ?_)
                | refine .freeze _ 200 70 3 _ _ rfl (.weak _ ?_)
                | refine .freeze _ 300 70 3 _ _ rfl (.weak _ ?_)
               (conv => whnf)
               exact ⟨_, [(1000000, strm n L _)], lr, ⟨⟨e, hsh, rfl⟩, _, by omega, by omega, rfl⟩, rr, trivial⟩)
         · refine ⟨rfl, ?_⟩
           conv => whnf
           have hsh : allK mvG 100 e := ⟨by have := hc1.1; have := hc2.1; have := he1.1; omega, fun p hp => p4.2 p (hc1.2 p (hc2.2 p (he1.2 p hp)))⟩
           have he5 := hsh.1
           repeat' (first | (refine CallX.of (s84 n L hL _ ?_ ?_ _ ?_) [(1000000, 1000000)] rfl ⟨lr, lr, trivial⟩ ⟨rr, trivial⟩ rfl rfl ?_; rotate_right; rintro x rout ⟨⟨f, rfl⟩, ⟨c, c1, c2, rfl⟩⟩; refine ⟨rfl, ?_⟩; conv => whnf) | (refine CallX.of (s86 n L hL _ ?_ ?_ _ ?_) [(1000000, 1000000)] rfl ⟨lr, lr, trivial⟩ ⟨rr, trivial⟩ rfl rfl ?_; rotate_right; rintro x rout ⟨⟨j, hj1, hj2, hj3, rfl⟩, ⟨c, c1, c2, rfl⟩⟩; refine ⟨rfl, ?_⟩; conv => whnf) | (refine CallX.of (s15 n L hL _ ?_ ?_ [(e.getD j.toNat mv0).a, [], [122]] (by simp) (by simp)) [(1000000, 1000000)] rfl ⟨lr, SV.le_lit rfl rfl, trivial⟩ ⟨rr, trivial⟩ rfl rfl ?_; rotate_right; rintro x rout ⟨⟨u1, hu1, rfl⟩, ⟨c, c1, c2, rfl⟩⟩; refine ⟨rfl, ?_⟩; conv => whnf) | (refine CallX.of (s104 n L hL _ ?_ ?_ 1 20 ?_ ?_ ?_) [(1000000, 1000000)] rfl ⟨lr, lr, lr, trivial⟩ ⟨rr, trivial⟩ rfl rfl ?_; rotate_right; rintro x rout ⟨⟨u3, hk1, hk2, rfl⟩, ⟨c, c1, c2, rfl⟩⟩; refine ⟨rfl, ?_⟩; conv => whnf) | (refine br_intro ?_ ?_ <;> intro hb <;> (try simp only [brs] at hb) <;> conv => whnf) | (refine RegX.rule (id := 11) hT rfl [] oVPiD8_11 (by decide +kernel) ?_; conv => whnf) | (refine RegX.rule (id := 16) hT rfl [] oVPiD8_16 (by decide +kernel) ?_; conv => whnf) | (refine RegX.rule (id := 23) hT rfl [] oVPiD8_23 (by decide +kernel) ?_; conv => whnf) | omega | (refine And.intro ?_ ?_; ((try dsimp only); first | omega | (refine szA rfl ?_; omega) | (refine szB rfl ?_; omega) | (unfold inI64; omega) | exact rfl | (simp only [lns] at *; omega) | decide | (unfold inI64; decide)); conv => whnf) | decide | assumption)
           all_goals first
            | (first
                | refine .freeze _ 11 70 3 _ _ rfl (.weak _ ?_)
                | refine .freeze _ 200 70 3 _ _ rfl (.weak _ ?_)
                | refine .freeze _ 300 70 3 _ _ rfl (.weak _ ?_)
               (conv => whnf)
               have hx := hsh.2 (e.getD j.toNat mv0) (getD_mem (by omega))
               have hq1 := three_len hu1 hx.1 (by decide) (by decide)
               exact ⟨_, [(1000000, strm n L _)], SV.le_upd2 (f := mvF) (d := mv0) (l := e) (fun y : Mov => { y with a := u1 }) (fun y => { y with many := u3 }) (fun _ => rfl) (fun _ => rfl), ⟨⟨_, allK_upd (g := fun y : Mov => { y with many := u3 }) (allK_upd (g := fun y : Mov => { y with a := u1 }) hsh (fun y hy => ⟨hq1, hy.2⟩)) (fun y hy => hy), rfl⟩, _, by omega, by omega, rfl⟩, rr, trivial⟩)
            | (first
                | refine .freeze _ 11 70 3 _ _ rfl (.weak _ ?_)
                | refine .freeze _ 200 70 3 _ _ rfl (.weak _ ?_)
                | refine .freeze _ 300 70 3 _ _ rfl (.weak _ ?_)
               (conv => whnf)
               exact ⟨_, [(1000000, strm n L _)], lr, ⟨⟨e, hsh, rfl⟩, _, by omega, by omega, rfl⟩, rr, trivial⟩)
       · refine ⟨rfl, ?_⟩
         conv => whnf
         refine CallX.of (z104 n L hL b (by omega) (by omega) c2 (by omega)) [(1000000, 1000000), (1000001, 200), (1000002, 3), (41, 300)] rfl ⟨lr, lr, trivial⟩ ⟨rr, rr, rr, trivial⟩ rfl rfl ?_
         rintro x rout ⟨e, he1, nm, hnm, rfl, c5, ⟨hv1, hv2⟩, rfl⟩
         rcases hnm with rfl | rfl
         · refine ⟨rfl, ?_⟩
           conv => whnf
           have hsh : allK mvG 100 e := ⟨by have := hc1.1; have := hc2.1; have := he1.1; omega, fun p hp => p4.2 p (hc1.2 p (hc2.2 p (he1.2 p hp)))⟩
           have he5 := hsh.1
           repeat' (first | (refine CallX.of (s84 n L hL _ ?_ ?_ _ ?_) [(1000000, 1000000)] rfl ⟨lr, lr, trivial⟩ ⟨rr, trivial⟩ rfl rfl ?_; rotate_right; rintro x rout ⟨⟨f, rfl⟩, ⟨c, c1, c2, rfl⟩⟩; refine ⟨rfl, ?_⟩; conv => whnf) | (refine CallX.of (s86 n L hL _ ?_ ?_ _ ?_) [(1000000, 1000000)] rfl ⟨lr, lr, trivial⟩ ⟨rr, trivial⟩ rfl rfl ?_; rotate_right; rintro x rout ⟨⟨j, hj1, hj2, hj3, rfl⟩, ⟨c, c1, c2, rfl⟩⟩; refine ⟨rfl, ?_⟩; conv => whnf) | (refine CallX.of (s15 n L hL _ ?_ ?_ [(e.getD j.toNat mv0).a, [], [122]] (by simp) (by simp)) [(1000000, 1000000)] rfl ⟨lr, SV.le_lit rfl rfl, trivial⟩ ⟨rr, trivial⟩ rfl rfl ?_; rotate_right; rintro x rout ⟨⟨u1, hu1, rfl⟩, ⟨c, c1, c2, rfl⟩⟩; refine ⟨rfl, ?_⟩; conv => whnf) | (refine CallX.of (s104 n L hL _ ?_ ?_ 1 20 ?_ ?_ ?_) [(1000000, 1000000)] rfl ⟨lr, lr, lr, trivial⟩ ⟨rr, trivial⟩ rfl rfl ?_; rotate_right; rintro x rout ⟨⟨u3, hk1, hk2, rfl⟩, ⟨c, c1, c2, rfl⟩⟩; refine ⟨rfl, ?_⟩; conv => whnf) | (refine br_intro ?_ ?_ <;> intro hb <;> (try simp only [brs] at hb) <;> conv => whnf) | (refine RegX.rule (id := 11) hT rfl [] oVPiD8_11 (by decide +kernel) ?_; conv => whnf) | (refine RegX.rule (id := 16) hT rfl [] oVPiD8_16 (by decide +kernel) ?_; conv => whnf) | (refine RegX.rule (id := 23) hT rfl [] oVPiD8_23 (by decide +kernel) ?_; conv => whnf) | omega | (refine And.intro ?_ ?_; ((try dsimp only); first | omega | (refine szA rfl ?_; omega) | (refine szB rfl ?_; omega) | (unfold inI64; omega) | exact rfl | (simp only [lns] at *; omega) | decide | (unfold inI64; decide)); conv => whnf) | decide | assumption)
           all_goals first
            | (first
                | refine .freeze _ 11 70 3 _ _ rfl (.weak _ ?_)
                | refine .freeze _ 200 70 3 _ _ rfl (.weak _ ?_)
                | refine .freeze _ 300 70 3 _ _ rfl (.weak _ ?_)
               (conv => whnf)
               have hx := hsh.2 (e.getD j.toNat mv0) (getD_mem (by omega))
               have hq1 := three_len hu1 hx.1 (by decide) (by decide)
               exact ⟨_, [(1000000, strm n L _)], SV.le_upd2 (f := mvF) (d := mv0) (l := e) (fun y : Mov => { y with a := u1 }) (fun y => { y with many := u3 }) (fun _ => rfl) (fun _ => rfl), ⟨⟨_, allK_upd (g := fun y : Mov => { y with many := u3 }) (allK_upd (g := fun y : Mov => { y with a := u1 }) hsh (fun y hy => ⟨hq1, hy.2⟩)) (fun y hy => hy), rfl⟩, _, by omega, by omega, rfl⟩, rr, trivial⟩)
            | (first
                | refine .freeze _ 11 70 3 _ _ rfl (.weak _ ?_)
                | refine .freeze _ 200 70 3 _ _ rfl (.weak _ ?_)
                | refine .freeze _ 300 70 3 _ _ rfl (.weak _ ?_)
               (conv => whnf)
               exact ⟨_, [(1000000, strm n L _)], lr, ⟨⟨e, hsh, rfl⟩, _, by omega, by omega, rfl⟩, rr, trivial⟩)
         · refine ⟨rfl, ?_⟩
           conv => whnf
           have hsh : allK mvG 100 e := ⟨by have := hc1.1; have := hc2.1; have := he1.1; omega, fun p hp => p4.2 p (hc1.2 p (hc2.2 p (he1.2 p hp)))⟩
           have he5 := hsh.1
           repeat' (first | (refine CallX.of (s84 n L hL _ ?_ ?_ _ ?_) [(1000000, 1000000)] rfl ⟨lr, lr, trivial⟩ ⟨rr, trivial⟩ rfl rfl ?_; rotate_right; rintro x rout ⟨⟨f, rfl⟩, ⟨c, c1, c2, rfl⟩⟩; refine ⟨rfl, ?_⟩; conv => whnf) | (refine CallX.of (s86 n L hL _ ?_ ?_ _ ?_) [(1000000, 1000000)] rfl ⟨lr, lr, trivial⟩ ⟨rr, trivial⟩ rfl rfl ?_; rotate_right; rintro x rout ⟨⟨j, hj1, hj2, hj3, rfl⟩, ⟨c, c1, c2, rfl⟩⟩; refine ⟨rfl, ?_⟩; conv => whnf) | (refine CallX.of (s15 n L hL _ ?_ ?_ [(e.getD j.toNat mv0).a, [], [122]] (by simp) (by simp)) [(1000000, 1000000)] rfl ⟨lr, SV.le_lit rfl rfl, trivial⟩ ⟨rr, trivial⟩ rfl rfl ?_; rotate_right; rintro x rout ⟨⟨u1, hu1, rfl⟩, ⟨c, c1, c2, rfl⟩⟩; refine ⟨rfl, ?_⟩; conv => whnf) | (refine CallX.of (s104 n L hL _ ?_ ?_ 1 20 ?_ ?_ ?_) [(1000000, 1000000)] rfl ⟨lr, lr, lr, trivial⟩ ⟨rr, trivial⟩ rfl rfl ?_; rotate_right; rintro x rout ⟨⟨u3, hk1, hk2, rfl⟩, ⟨c, c1, c2, rfl⟩⟩; refine ⟨rfl, ?_⟩; conv => whnf) | (refine br_intro ?_ ?_ <;> intro hb <;> (try simp only [brs] at hb) <;> conv => whnf) | (refine RegX.rule (id := 11) hT rfl [] oVPiD8_11 (by decide +kernel) ?_; conv => whnf) | (refine RegX.rule (id := 16) hT rfl [] oVPiD8_16 (by decide +kernel) ?_; conv => whnf) | (refine RegX.rule (id := 23) hT rfl [] oVPiD8_23 (by decide +kernel) ?_; conv => whnf) | omega | (refine And.intro ?_ ?_; ((try dsimp only); first | omega | (refine szA rfl ?_; omega) | (refine szB rfl ?_; omega) | (unfold inI64; omega) | exact rfl | (simp only [lns] at *; omega) | decide | (unfold inI64; decide)); conv => whnf) | decide | assumption)
           all_goals first
            | (first
                | refine .freeze _ 11 70 3 _ _ rfl (.weak _ ?_)
                | refine .freeze _ 200 70 3 _ _ rfl (.weak _ ?_)
                | refine .freeze _ 300 70 3 _ _ rfl (.weak _ ?_)
               (conv => whnf)
               have hx := hsh.2 (e.getD j.toNat mv0) (getD_mem (by omega))
               have hq1 := three_len hu1 hx.1 (by decide) (by decide)
               exact ⟨_, [(1000000, strm n L _)], SV.le_upd2 (f := mvF) (d := mv0) (l := e) (fun y : Mov => { y with a := u1 }) (fun y => { y with many := u3 }) (fun _ => rfl) (fun _ => rfl), ⟨⟨_, allK_upd (g := fun y : Mov => { y with many := u3 }) (allK_upd (g := fun y : Mov => { y with a := u1 }) hsh (fun y hy => ⟨hq1, hy.2⟩)) (fun y hy => hy), rfl⟩, _, by omega, by omega, rfl⟩, rr, trivial⟩)
            | (first
                | refine .freeze _ 11 70 3 _ _ rfl (.weak _ ?_)
                | refine .freeze _ 200 70 3 _ _ rfl (.weak _ ?_)
                | refine .freeze _ 300 70 3 _ _ rfl (.weak _ ?_)
               (conv => whnf)
               exact ⟨_, [(1000000, strm n L _)], lr, ⟨⟨e, hsh, rfl⟩, _, by omega, by omega, rfl⟩, rr, trivial⟩)
     · exact absurd hz (by decide)
   | some q =>
     obtain ⟨hq1, hq2⟩ := pof_g hN h1 p4 hM hMo.symm
     have hql := hq1.1
     simp only [plL] at hcase
     rcases hcase with ⟨hz, rfl, rfl⟩ | ⟨hz, rfl, rfl⟩
     · refine ⟨rfl, ?_⟩
       conv => whnf
       repeat' (first | (refine br_intro ?_ ?_ <;> intro hb <;> (try simp only [brs] at hb) <;> conv => whnf) | (refine RegX.rule (id := 11) hT rfl [] oVPiD8_11 (by decide +kernel) ?_; conv => whnf) | (refine RegX.rule (id := 16) hT rfl [] oVPiD8_16 (by decide +kernel) ?_; conv => whnf) | (refine RegX.rule (id := 23) hT rfl [] oVPiD8_23 (by decide +kernel) ?_; conv => whnf) | omega | (refine And.intro ?_ ?_; ((try dsimp only); first | omega | (refine szA rfl ?_; omega) | (refine szB rfl ?_; omega) | (unfold inI64; omega) | exact rfl | (simp only [lns] at *; omega) | decide | (unfold inI64; decide)); conv => whnf) | decide | assumption)
       all_goals try (exfalso; omega)
       refine .weak _ ?_
       conv => whnf
       exact ⟨_, [(1000000, strm n L _)], SV.le_ro (by exact hz.symm) (fun _ _ => rfl), ⟨⟨q.l, hq1, rfl⟩, _, by omega, by omega, rfl⟩, rr, trivial⟩
     · have hz : 0 < q.l.length := hz
       refine ⟨rfl, ?_⟩
       conv => whnf
       repeat' (first | (refine CallX.of (s84 n L hL _ ?_ ?_ _ ?_) [(1000000, 1000000)] rfl ⟨lr, lr, trivial⟩ ⟨rr, trivial⟩ rfl rfl ?_; rotate_right; rintro x rout ⟨⟨f, rfl⟩, ⟨c, c1, c2, rfl⟩⟩; refine ⟨rfl, ?_⟩; conv => whnf) | (refine CallX.of (s86 n L hL _ ?_ ?_ _ ?_) [(1000000, 1000000)] rfl ⟨lr, lr, trivial⟩ ⟨rr, trivial⟩ rfl rfl ?_; rotate_right; rintro x rout ⟨⟨j, hj1, hj2, hj3, rfl⟩, ⟨c, c1, c2, rfl⟩⟩; have hj5 := hq2 (q.l.getD j.toNat mv0) (getD_mem (by omega)); have hj6 := hj5.1; have hj7 := hj5.2; refine ⟨rfl, ?_⟩; conv => whnf) | (refine CallX.of (s33 n L hL _ ?_ ?_ [1, -1] ?_ ?_) [(1000000, 1000000)] rfl ⟨lr, SV.le_lit rfl rfl, trivial⟩ ⟨rr, trivial⟩ rfl rfl ?_; rotate_right; rintro x rout ⟨⟨u, hu, rfl⟩, ⟨c, c1, c2, rfl⟩⟩; have hu2 : u = 1 ∨ u = -1 := (by simpa using hu); refine ⟨rfl, ?_⟩; conv => whnf) | (refine br_intro ?_ ?_ <;> intro hb <;> (try simp only [brs] at hb) <;> conv => whnf) | (refine RegX.rule (id := 11) hT rfl [] oVPiD8_11 (by decide +kernel) ?_; conv => whnf) | (refine RegX.rule (id := 16) hT rfl [] oVPiD8_16 (by decide +kernel) ?_; conv => whnf) | (refine RegX.rule (id := 23) hT rfl [] oVPiD8_23 (by decide +kernel) ?_; conv => whnf) | omega | (refine And.intro ?_ ?_; ((try dsimp only); first | omega | (refine szA rfl ?_; omega) | (refine szB rfl ?_; omega) | (unfold inI64; omega) | exact rfl | (simp only [lns] at *; omega) | decide | (unfold inI64; decide)); conv => whnf) | decide | assumption)
       all_goals try (exfalso; omega)
       · refine .freeze _ 9 70 3 _ _ rfl (.weak _ ?_)
         (conv => whnf)
         exact ⟨_, [(1000000, strm n L _)], SV.le_upd (f := mvF) (d := mv0) (l := q.l) (fun y : Mov => { y with many := (q.l.getD j.toNat mv0).many + u }) (fun _ => rfl), ⟨⟨_, allK_upd (g := fun y : Mov => { y with many := (q.l.getD j.toNat mv0).many + u }) hq1 (fun y hy => hy), rfl⟩, _, by omega, by omega, rfl⟩, rr, trivial⟩
       · refine .freeze _ 9 70 3 _ _ rfl (.weak _ ?_)
         (conv => whnf)
         exact ⟨_, [(1000000, strm n L _)], lr, ⟨⟨q.l, hq1, rfl⟩, _, by omega, by omega, rfl⟩, rr, trivial⟩
 all_goals
  obtain ⟨a, hae⟩ : ∃ a, a = a0 := ⟨_, rfl⟩
  have h0 : 0 ≤ a := by omega
  have ha : a ≤ 2^36 := by omega
  refine LoopX.rule hT (C := []) (ι := Int × List Mov × Nat) (fun (b, l, i) => (a ≤ b ∧ b ≤ a + 2 + 3 * i ∧ (i : Int) ≤ k) ∧ allK mvG i l)
   (fun (b, l, i) => mkSt [(3, .ptr 3 0), (11, .buf 11), (70, .d (.int .i64 k)), (71, .d (.int .i64 i))] [(1000000, strm n L b), (3, .cells 23 [.ptr 1000000 0]), (11, mvB l)])
   (fun (_, _, i) => (k - i).toNat) (c, [], 0) ⟨⟨by show a ≤ c; omega, by show c ≤ a + 2 + 3 * ((0 : Nat) : Int); omega, by show ((0 : Nat) : Int) ≤ k; omega⟩, ⟨by simp, fun x hx => by cases hx⟩⟩ ?_ ?_
  · exact (Entails.nil 11 11 70 3 (rowF mvF mv0 []) rfl rfl (by decide)).trans (by (refine Entails.mk' [(1000000, 1000000), (3, 3), (11, 11)] rfl rfl ?_ ?_ <;> repeat' (first | exact True.intro | exact lr | exact rr | exact SV.le_int (by omega) | exact SV.le_any _ | refine And.intro ?_ ?_)); done)
  rintro ⟨b, l, i⟩ ⟨⟨p1, p2, p3⟩, p4⟩
  have p1 : a ≤ b := p1
  have p2 : b ≤ a + 2 + 3 * i := p2
  have p3 : (i : Int) ≤ k := p3
  have p4 : allK mvG i l := p4
  have hl1 := p4.1
  conv => whnf
  repeat' (first | (refine CallX.of (s15 n L hL _ ?_ ?_ [[97], [98], [99], [100]] (by simp) (by simp)) [(1000000, 1000000)] rfl ⟨lr, SV.le_lit rfl rfl, trivial⟩ ⟨rr, trivial⟩ rfl rfl ?_; rotate_right; rintro x rout ⟨⟨u1, hu1, rfl⟩, ⟨c, c1, c2, rfl⟩⟩; have hw1 := mem_len hu1 rfl; refine ⟨rfl, ?_⟩; conv => whnf) | (refine CallX.of (s15 n L hL _ ?_ ?_ [[98], [99], [100], [101]] (by simp) (by simp)) [(1000000, 1000000)] rfl ⟨lr, SV.le_lit rfl rfl, trivial⟩ ⟨rr, trivial⟩ rfl rfl ?_; rotate_right; rintro x rout ⟨⟨u2, hu2, rfl⟩, ⟨c, c1, c2, rfl⟩⟩; have hw2 := mem_len hu2 rfl; refine ⟨rfl, ?_⟩; conv => whnf) | (refine CallX.of (s33 n L hL _ ?_ ?_ [1, 1, 2] ?_ ?_) [(1000000, 1000000)] rfl ⟨lr, SV.le_lit rfl rfl, trivial⟩ ⟨rr, trivial⟩ rfl rfl ?_; rotate_right; rintro x rout ⟨⟨u3, hu3, rfl⟩, ⟨c, c1, c2, rfl⟩⟩; refine ⟨rfl, ?_⟩; conv => whnf) | (refine br_intro ?_ ?_ <;> intro hb <;> (try simp only [brs] at hb) <;> conv => whnf) | (refine RegX.rule (id := 11) hT rfl [] oVPiD8_11 (by decide +kernel) ?_; conv => whnf) | (refine RegX.rule (id := 16) hT rfl [] oVPiD8_16 (by decide +kernel) ?_; conv => whnf) | (refine RegX.rule (id := 23) hT rfl [] oVPiD8_23 (by decide +kernel) ?_; conv => whnf) | omega | (refine And.intro ?_ ?_; ((try dsimp only); first | omega | (refine szA rfl ?_; omega) | (refine szB rfl ?_; omega) | (unfold inI64; omega) | exact rfl | (simp only [lns] at *; omega) | decide | (unfold inI64; decide)); conv => whnf) | decide | assumption)
  · refine ⟨(_, l ++ [⟨u1, u2, u3⟩], i + 1), ⟨⟨by omega, ?_, by omega⟩, allK_snoc p4 (by omega) ⟨hw1, hw2⟩⟩, (show (k - ((i + 1 : Nat) : Int)).toNat < (k - (i : Int)).toNat by omega), Entails.mk' [(1000000, 1000000), (3, 3), (11, 85)] rfl rfl ⟨lr, lr, lr, lr, trivial⟩ ⟨rr, rr, Res.le_snocF rfl, trivial⟩⟩
    show _ ≤ a + 2 + 3 * ((i + 1 : Nat) : Int)
    omega
  have hl5 : l.length ≤ 5 := by omega
  have hi5 : i ≤ 5 := by omega
  refine CallX.of (z99 37 (fun x y => cmpS (mvKey x) (mvKey y)) l (by omega) (fun x y hx hy => z100 x y (p4.2 x hx) (p4.2 y hy))) [(1000001, 11)] rfl ⟨lr, lr, trivial⟩ ⟨rr, trivial⟩ rfl rfl ?_
  rintro x rout ⟨rfl, c1, hc1, rfl⟩
  refine ⟨rfl, ?_⟩
  have hcl1 : c1.length ≤ 5 := by have := hc1.1; omega
  conv => whnf
  refine CallX.of (z102 40 (fun x y => x.a == y.a && x.b == y.b) c1 (by omega) (fun x y _ _ => z103 x y)) [(1000001, 11), (64, 200)] rfl ⟨lr, lr, trivial⟩ ⟨rr, trivial⟩ rfl rfl ?_
  rintro x rout ⟨c2, hc2, nm, hnm, rfl, rfl⟩
  have hcl2 : c2.length ≤ 5 := by have := hc2.1; omega
  rcases hnm with rfl | rfl
  · refine ⟨rfl, ?_⟩
    conv => whnf
    refine CallX.of (z104 n L hL b (by omega) (by omega) c2 (by omega)) [(1000000, 1000000), (1000001, 11), (1000002, 3), (41, 300)] rfl ⟨lr, lr, trivial⟩ ⟨rr, rr, rr, trivial⟩ rfl rfl ?_
    rintro x rout ⟨e, he1, nm, hnm, rfl, c5, ⟨hv1, hv2⟩, rfl⟩
    rcases hnm with rfl | rfl
    · refine ⟨rfl, ?_⟩
      conv => whnf
      have hsh : allK mvG 100 e := ⟨by have := hc1.1; have := hc2.1; have := he1.1; omega, fun p hp => p4.2 p (hc1.2 p (hc2.2 p (he1.2 p hp)))⟩
      have he5 := hsh.1
      repeat' (first | (refine CallX.of (s84 n L hL _ ?_ ?_ _ ?_) [(1000000, 1000000)] rfl ⟨lr, lr, trivial⟩ ⟨rr, trivial⟩ rfl rfl ?_; rotate_right; rintro x rout ⟨⟨f, rfl⟩, ⟨c, c1, c2, rfl⟩⟩; refine ⟨rfl, ?_⟩; conv => whnf) | (refine CallX.of (s86 n L hL _ ?_ ?_ _ ?_) [(1000000, 1000000)] rfl ⟨lr, lr, trivial⟩ ⟨rr, trivial⟩ rfl rfl ?_; rotate_right; rintro x rout ⟨⟨j, hj1, hj2, hj3, rfl⟩, ⟨c, c1, c2, rfl⟩⟩; refine ⟨rfl, ?_⟩; conv => whnf) | (refine CallX.of (s15 n L hL _ ?_ ?_ [(e.getD j.toNat mv0).a, [], [122]] (by simp) (by simp)) [(1000000, 1000000)] rfl ⟨lr, SV.le_lit rfl rfl, trivial⟩ ⟨rr, trivial⟩ rfl rfl ?_; rotate_right; rintro x rout ⟨⟨u1, hu1, rfl⟩, ⟨c, c1, c2, rfl⟩⟩; refine ⟨rfl, ?_⟩; conv => whnf) | (refine CallX.of (s104 n L hL _ ?_ ?_ 1 20 ?_ ?_ ?_) [(1000000, 1000000)] rfl ⟨lr, lr, lr, trivial⟩ ⟨rr, trivial⟩ rfl rfl ?_; rotate_right; rintro x rout ⟨⟨u3, hk1, hk2, rfl⟩, ⟨c, c1, c2, rfl⟩⟩; refine ⟨rfl, ?_⟩; conv => whnf) | (refine br_intro ?_ ?_ <;> intro hb <;> (try simp only [brs] at hb) <;> conv => whnf) | (refine RegX.rule (id := 11) hT rfl [] oVPiD8_11 (by decide +kernel) ?_; conv => whnf) | (refine RegX.rule (id := 16) hT rfl [] oVPiD8_16 (by decide +kernel) ?_; conv => whnf) | (refine RegX.rule (id := 23) hT rfl [] oVPiD8_23 (by decide +kernel) ?_; conv => whnf) | omega | (refine And.intro ?_ ?_; ((try dsimp only); first | omega | (refine szA rfl ?_; omega) | (refine szB rfl ?_; omega) | (unfold inI64; omega) | exact rfl | (simp only [lns] at *; omega) | decide | (unfold inI64; decide)); conv => whnf) | decide | assumption)
      all_goals first
       | (first
           | refine .freeze _ 11 70 3 _ _ rfl (.weak _ ?_)
           | refine .freeze _ 200 70 3 _ _ rfl (.weak _ ?_)
           | refine .freeze _ 300 70 3 _ _ rfl (.weak _ ?_)
          (conv => whnf)
          have hx := hsh.2 (e.getD j.toNat mv0) (getD_mem (by omega))
          have hq1 := three_len hu1 hx.1 (by decide) (by decide)
          exact ⟨_, [(1000000, strm n L _)], SV.le_upd2 (f := mvF) (d := mv0) (l := e) (fun y : Mov => { y with a := u1 }) (fun y => { y with many := u3 }) (fun _ => rfl) (fun _ => rfl), ⟨⟨_, allK_upd (g := fun y : Mov => { y with many := u3 }) (allK_upd (g := fun y : Mov => { y with a := u1 }) hsh (fun y hy => ⟨hq1, hy.2⟩)) (fun y hy => hy), rfl⟩, _, by omega, by omega, rfl⟩, rr, trivial⟩)
       | (first
           | refine .freeze _ 11 70 3 _ _ rfl (.weak _ ?_)
           | refine .freeze _ 200 70 3 _ _ rfl (.weak _ ?_)
           | refine .freeze _ 300 70 3 _ _ rfl (.weak _ ?_)
          (conv => whnf)
          exact ⟨_, [(1000000, strm n L _)], lr, ⟨⟨e, hsh, rfl⟩, _, by omega, by omega, rfl⟩, rr, trivial⟩)
    · refine ⟨rfl, ?_⟩
      conv => whnf
      have hsh : allK mvG 100 e := ⟨by have := hc1.1; have := hc2.1; have := he1.1; omega, fun p hp => p4.2 p (hc1.2 p (hc2.2 p (he1.2 p hp)))⟩
      have he5 := hsh.1
      repeat' (first | (refine CallX.of (s84 n L hL _ ?_ ?_ _ ?_) [(1000000, 1000000)] rfl ⟨lr, lr, trivial⟩ ⟨rr, trivial⟩ rfl rfl ?_; rotate_right; rintro x rout ⟨⟨f, rfl⟩, ⟨c, c1, c2, rfl⟩⟩; refine ⟨rfl, ?_⟩; conv => whnf) | (refine CallX.of (s86 n L hL _ ?_ ?_ _ ?_) [(1000000, 1000000)] rfl ⟨lr, lr, trivial⟩ ⟨rr, trivial⟩ rfl rfl ?_; rotate_right; rintro x rout ⟨⟨j, hj1, hj2, hj3, rfl⟩, ⟨c, c1, c2, rfl⟩⟩; refine ⟨rfl, ?_⟩; conv => whnf) | (refine CallX.of (s15 n L hL _ ?_ ?_ [(e.getD j.toNat mv0).a, [], [122]] (by simp) (by simp)) [(1000000, 1000000)] rfl ⟨lr, SV.le_lit rfl rfl, trivial⟩ ⟨rr, trivial⟩ rfl rfl ?_; rotate_right; rintro x rout ⟨⟨u1, hu1, rfl⟩, ⟨c, c1, c2, rfl⟩⟩; refine ⟨rfl, ?_⟩; conv => whnf) | (refine CallX.of (s104 n L hL _ ?_ ?_ 1 20 ?_ ?_ ?_) [(1000000, 1000000)] rfl ⟨lr, lr, lr, trivial⟩ ⟨rr, trivial⟩ rfl rfl ?_; rotate_right; rintro x rout ⟨⟨u3, hk1, hk2, rfl⟩, ⟨c, c1, c2, rfl⟩⟩; refine ⟨rfl, ?_⟩; conv => whnf) | (refine br_intro ?_ ?_ <;> intro hb <;> (try simp only [brs] at hb) <;> conv => whnf) | (refine RegX.rule (id := 11) hT rfl [] oVPiD8_11 (by decide +kernel) ?_; conv => whnf) | (refine RegX.rule (id := 16) hT rfl [] oVPiD8_16 (by decide +kernel) ?_; conv => whnf) | (refine RegX.rule (id := 23) hT rfl [] oVPiD8_23 (by decide +kernel) ?_; conv => whnf) | omega | (refine And.intro ?_ ?_; ((try dsimp only); first | omega | (refine szA rfl ?_; omega) | (refine szB rfl ?_; omega) | (unfold inI64; omega) | exact rfl | (simp only [lns] at *; omega) | decide | (unfold inI64; decide)); conv => whnf) | decide | assumption)
      all_goals first
       | (first
           | refine .freeze _ 11 70 3 _ _ rfl (.weak _ ?_)
           | refine .freeze _ 200 70 3 _ _ rfl (.weak _ ?_)
           | refine .freeze _ 300 70 3 _ _ rfl (.weak _ ?_)
          (conv => whnf)
          have hx := hsh.2 (e.getD j.toNat mv0) (getD_mem (by omega))
          have hq1 := three_len hu1 hx.1 (by decide) (by decide)
          exact ⟨_, [(1000000, strm n L _)], SV.le_upd2 (f := mvF) (d := mv0) (l := e) (fun y : Mov => { y with a := u1 }) (fun y => { y with many := u3 }) (fun _ => rfl) (fun _ => rfl), ⟨⟨_, allK_upd (g := fun y : Mov => { y with many := u3 }) (allK_upd (g := fun y : Mov => { y with a := u1 }) hsh (fun y hy => ⟨hq1, hy.2⟩)) (fun y hy => hy), rfl⟩, _, by omega, by omega, rfl⟩, rr, trivial⟩)
       | (first
           | refine .freeze _ 11 70 3 _ _ rfl (.weak _ ?_)
           | refine .freeze _ 200 70 3 _ _ rfl (.weak _ ?_)
           | refine .freeze _ 300 70 3 _ _ rfl (.weak _ ?_)
          (conv => whnf)
          exact ⟨_, [(1000000, strm n L _)], lr, ⟨⟨e, hsh, rfl⟩, _, by omega, by omega, rfl⟩, rr, trivial⟩)
  · refine ⟨rfl, ?_⟩
    conv => whnf
    refine CallX.of (z104 n L hL b (by omega) (by omega) c2 (by omega)) [(1000000, 1000000), (1000001, 200), (1000002, 3), (41, 300)] rfl ⟨lr, lr, trivial⟩ ⟨rr, rr, rr, trivial⟩ rfl rfl ?_
    rintro x rout ⟨e, he1, nm, hnm, rfl, c5, ⟨hv1, hv2⟩, rfl⟩
    rcases hnm with rfl | rfl
    · refine ⟨rfl, ?_⟩
      conv => whnf
      have hsh : allK mvG 100 e := ⟨by have := hc1.1; have := hc2.1; have := he1.1; omega, fun p hp => p4.2 p (hc1.2 p (hc2.2 p (he1.2 p hp)))⟩
      have he5 := hsh.1
      repeat' (first | (refine CallX.of (s84 n L hL _ ?_ ?_ _ ?_) [(1000000, 1000000)] rfl ⟨lr, lr, trivial⟩ ⟨rr, trivial⟩ rfl rfl ?_; rotate_right; rintro x rout ⟨⟨f, rfl⟩, ⟨c, c1, c2, rfl⟩⟩; refine ⟨rfl, ?_⟩; conv => whnf) | (refine CallX.of (s86 n L hL _ ?_ ?_ _ ?_) [(1000000, 1000000)] rfl ⟨lr, lr, trivial⟩ ⟨rr, trivial⟩ rfl rfl ?_; rotate_right; rintro x rout ⟨⟨j, hj1, hj2, hj3, rfl⟩, ⟨c, c1, c2, rfl⟩⟩; refine ⟨rfl, ?_⟩; conv => whnf) | (refine CallX.of (s15 n L hL _ ?_ ?_ [(e.getD j.toNat mv0).a, [], [122]] (by simp) (by simp)) [(1000000, 1000000)] rfl ⟨lr, SV.le_lit rfl rfl, trivial⟩ ⟨rr, trivial⟩ rfl rfl ?_; rotate_right; rintro x rout ⟨⟨u1, hu1, rfl⟩, ⟨c, c1, c2, rfl⟩⟩; refine ⟨rfl, ?_⟩; conv => whnf) | (refine CallX.of (s104 n L hL _ ?_ ?_ 1 20 ?_ ?_ ?_) [(1000000, 1000000)] rfl ⟨lr, lr, lr, trivial⟩ ⟨rr, trivial⟩ rfl rfl ?_; rotate_right; rintro x rout ⟨⟨u3, hk1, hk2, rfl⟩, ⟨c, c1, c2, rfl⟩⟩; refine ⟨rfl, ?_⟩; conv => whnf) | (refine br_intro ?_ ?_ <;> intro hb <;> (try simp only [brs] at hb) <;> conv => whnf) | (refine RegX.rule (id := 11) hT rfl [] oVPiD8_11 (by decide +kernel) ?_; conv => whnf) | (refine RegX.rule (id := 16) hT rfl [] oVPiD8_16 (by decide +kernel) ?_; conv => whnf) | (refine RegX.rule (id := 23) hT rfl [] oVPiD8_23 (by decide +kernel) ?_; conv => whnf) | omega | (refine And.intro ?_ ?_; ((try dsimp only); first | omega | (refine szA rfl ?_; omega) | (refine szB rfl ?_; omega) | (unfold inI64; omega) | exact rfl | (simp only [lns] at *; omega) | decide | (unfold inI64; decide)); conv => whnf) | decide | assumption)
      all_goals first
       | (first
           | refine .freeze _ 11 70 3 _ _ rfl (.weak _ ?_)
           | refine .freeze _ 200 70 3 _ _ rfl (.weak _ ?_)
           | refine .freeze _ 300 70 3 _ _ rfl (.weak _ ?_)
          (conv => whnf)
          have hx := hsh.2 (e.getD j.toNat mv0) (getD_mem (by omega))
          have hq1 := three_len hu1 hx.1 (by decide) (by decide)
          exact ⟨_, [(1000000, strm n L _)], SV.le_upd2 (f := mvF) (d := mv0) (l := e) (fun y : Mov => { y with a := u1 }) (fun y => { y with many := u3 }) (fun _ => rfl) (fun _ => rfl), ⟨⟨_, allK_upd (g := fun y : Mov => { y with many := u3 }) (allK_upd (g := fun y : Mov => { y with a := u1 }) hsh (fun y hy => ⟨hq1, hy.2⟩)) (fun y hy => hy), rfl⟩, _, by omega, by omega, rfl⟩, rr, trivial⟩)
       | (first
           | refine .freeze _ 11 70 3 _ _ rfl (.weak _ ?_)
           | refine .freeze _ 200 70 3 _ _ rfl (.weak _ ?_)
           | refine .freeze _ 300 70 3 _ _ rfl (.weak _ ?_)
          (conv => whnf)
          exact ⟨_, [(1000000, strm n L _)], lr, ⟨⟨e, hsh, rfl⟩, _, by omega, by omega, rfl⟩, rr, trivial⟩)
    · refine ⟨rfl, ?_⟩
      conv => whnf
      have hsh : allK mvG 100 e := ⟨by have := hc1.1; have := hc2.1; have := he1.1; omega, fun p hp => p4.2 p (hc1.2 p (hc2.2 p (he1.2 p hp)))⟩
      have he5 := hsh.1
      repeat' (first | (refine CallX.of (s84 n L hL _ ?_ ?_ _ ?_) [(1000000, 1000000)] rfl ⟨lr, lr, trivial⟩ ⟨rr, trivial⟩ rfl rfl ?_; rotate_right; rintro x rout ⟨⟨f, rfl⟩, ⟨c, c1, c2, rfl⟩⟩; refine ⟨rfl, ?_⟩; conv => whnf) | (refine CallX.of (s86 n L hL _ ?_ ?_ _ ?_) [(1000000, 1000000)] rfl ⟨lr, lr, trivial⟩ ⟨rr, trivial⟩ rfl rfl ?_; rotate_right; rintro x rout ⟨⟨j, hj1, hj2, hj3, rfl⟩, ⟨c, c1, c2, rfl⟩⟩; refine ⟨rfl, ?_⟩; conv => whnf) | (refine CallX.of (s15 n L hL _ ?_ ?_ [(e.getD j.toNat mv0).a, [], [122]] (by simp) (by simp)) [(1000000, 1000000)] rfl ⟨lr, SV.le_lit rfl rfl, trivial⟩ ⟨rr, trivial⟩ rfl rfl ?_; rotate_right; rintro x rout ⟨⟨u1, hu1, rfl⟩, ⟨c, c1, c2, rfl⟩⟩; refine ⟨rfl, ?_⟩; conv => whnf) | (refine CallX.of (s104 n L hL _ ?_ ?_ 1 20 ?_ ?_ ?_) [(1000000, 1000000)] rfl ⟨lr, lr, lr, trivial⟩ ⟨rr, trivial⟩ rfl rfl ?_; rotate_right; rintro x rout ⟨⟨u3, hk1, hk2, rfl⟩, ⟨c, c1, c2, rfl⟩⟩; refine ⟨rfl, ?_⟩; conv => whnf) | (refine br_intro ?_ ?_ <;> intro hb <;> (try simp only [brs] at hb) <;> conv => whnf) | (refine RegX.rule (id := 11) hT rfl [] oVPiD8_11 (by decide +kernel) ?_; conv => whnf) | (refine RegX.rule (id := 16) hT rfl [] oVPiD8_16 (by decide +kernel) ?_; conv => whnf) | (refine RegX.rule (id := 23) hT rfl [] oVPiD8_23 (by decide +kernel) ?_; conv => whnf) | omega | (refine And.intro ?_ ?_; ((try dsimp only); first | omega | (refine szA rfl ?_; omega) | (refine szB rfl ?_; omega) | (unfold inI64; omega) | exact rfl | (simp only [lns] at *; omega) | decide | (unfold inI64; decide)); conv => whnf) | decide | assumption)
      all_goals first
       | (first
           | refine .freeze _ 11 70 3 _ _ rfl (.weak _ ?_)
           | refine .freeze _ 200 70 3 _ _ rfl (.weak _ ?_)
           | refine .freeze _ 300 70 3 _ _ rfl (.weak _ ?_)
          (conv => whnf)
          have hx := hsh.2 (e.getD j.toNat mv0) (getD_mem (by omega))
          have hq1 := three_len hu1 hx.1 (by decide) (by decide)
          exact ⟨_, [(1000000, strm n L _)], SV.le_upd2 (f := mvF) (d := mv0) (l := e) (fun y : Mov => { y with a := u1 }) (fun y => { y with many := u3 }) (fun _ => rfl) (fun _ => rfl), ⟨⟨_, allK_upd (g := fun y : Mov => { y with many := u3 }) (allK_upd (g := fun y : Mov => { y with a := u1 }) hsh (fun y hy => ⟨hq1, hy.2⟩)) (fun y hy => hy), rfl⟩, _, by omega, by omega, rfl⟩, rr, trivial⟩)
       | (first
           | refine .freeze _ 11 70 3 _ _ rfl (.weak _ ?_)
           | refine .freeze _ 200 70 3 _ _ rfl (.weak _ ?_)
           | refine .freeze _ 300 70 3 _ _ rfl (.weak _ ?_)
          (conv => whnf)
          exact ⟨_, [(1000000, strm n L _)], lr, ⟨⟨e, hsh, rfl⟩, _, by omega, by omega, rfl⟩, rr, trivial⟩)
def lwr (D : List Int) (i : Nat) (x : Int) : List Int := if x < D.getD i 0 then D.set i x else D
theorem p61b (D : List Int) (i : Nat) (x : Int) (hi : i < D.length) : FSpec Tryz.prog 61 [.bel 1000000 1 i 0, .d (.int .i64 x)] [(1000000, seqB 3 1 iF 0 D)]
 (fun y r => y = .d (.bool (decide (x < D.getD i 0))) ∧ r = [(1000000, seqB 3 1 iF 0 (lwr D i x))]) := by
 refine spec_of hT (C := []) Tryz.func61 rfl Tryz.call61 rfl rfl rfl ?_
 conv => whnf
 repeat' (first | (refine br_intro ?_ ?_ <;> intro hb <;> (try simp only [brs] at hb) <;> conv => whnf) | omega | (refine And.intro ?_ ?_; ((try dsimp only); first | omega | (refine szA rfl ?_; omega) | (refine szB rfl ?_; omega) | (unfold inI64; omega) | exact rfl | (simp only [lns] at *; omega) | decide | (unfold inI64; decide)); conv => whnf) | decide | assumption)
 · refine .ret _ ?_
   conv => whnf
   refine ⟨_, ⟨?_, rfl⟩, ?_, trivial⟩
   · conv => lhs; whnf
     rw [decide_eq_false (by omega)]
   · unfold lwr; rw [if_neg (by omega)]; exact rr
 · refine .ret _ ?_
   conv => whnf
   refine ⟨_, ⟨?_, rfl⟩, ?_, trivial⟩
   · conv => lhs; whnf
     rw [decide_eq_true (by omega)]
   · unfold lwr; rw [if_pos (by omega)]; exact Res.le_upd (fun _ => x) (fun y => rfl)
theorem p61a (s x : Int) : FSpec Tryz.prog 61 [.ptr 1000000 0, .d (.int .i64 x)] [(1000000, .cells 3 [.d (.int .i64 s)])]
 (fun y r => y = .d (.bool (decide (x < s))) ∧ r = [(1000000, .cells 3 [.d (.int .i64 (if x < s then x else s))])]) := by
 refine spec_of hT (C := []) Tryz.func61 rfl Tryz.call61 rfl rfl rfl ?_
 conv => whnf
 repeat' (first | (refine br_intro ?_ ?_ <;> intro hb <;> (try simp only [brs] at hb) <;> conv => whnf) | omega | (refine And.intro ?_ ?_; ((try dsimp only); first | omega | (refine szA rfl ?_; omega) | (refine szB rfl ?_; omega) | (unfold inI64; omega) | exact rfl | (simp only [lns] at *; omega) | decide | (unfold inI64; decide)); conv => whnf) | decide | assumption)
 · refine .ret _ ?_
   conv => whnf
   refine ⟨_, ⟨?_, rfl⟩, ?_, trivial⟩
   · conv => lhs; whnf
     rw [decide_eq_false (by omega)]
   · rw [if_neg (by omega)]; exact rr
 · refine .ret _ ?_
   conv => whnf
   refine ⟨_, ⟨?_, rfl⟩, ?_, trivial⟩
   · conv => lhs; whnf
     rw [decide_eq_true (by omega)]
   · rw [if_pos (by omega)]; exact rr
def dst (N : Nat) (D : List Int) (s : Int) (v : Nat) : Int := if v < N then getI D v else s
theorem lwr_len (D : List Int) (i : Nat) (x : Int) : (lwr D i x).length = D.length := by unfold lwr; split <;> simp
theorem dst_set {N : Nat} {D : List Int} {s : Int} {i : Nat} {x : Int} (hi : i < N) (hD : D.length = N) : dst N (D.set i x) s = upd (dst N D s) i x := by
 funext v
 unfold dst
 rw [getI_set (by omega)]
 unfold upd
 by_cases q : v = i
 · subst q; rw [if_pos hi, if_pos rfl, if_pos rfl]
 · rw [if_neg q, if_neg q]
theorem dst_store {N : Nat} {D : List Int} {s x : Int} {v : Nat} (hv : v < N + 1) : dst N D x v = upd (dst N D s) N x v := by
 show (if v < N then getI D v else x) = if v = N then x else (if v < N then getI D v else s)
 by_cases q : v < N
 · rw [if_pos q, if_neg (by omega), if_pos q]
 · rw [if_neg q, if_pos (by omega)]
structure RelI (G : Nw) (R : Nat × Bool → Prop) (p : Nat → Int) (P : Int) (D0 : List Int) (s0 : Int) (D : List Int) (s : Int) (ch : Bool) (Q : Nat × Bool → Prop) : Prop where
 len : D.length = G.N
 pw : ∃ b, G.ext.Pw R p P (dst G.N D s) b
 no : ch = false → (D = D0 ∧ s = s0) ∧ ∀ e, R e → Q e → dst G.N D s (G.ext.hd e) ≤ dst G.N D s (G.ext.tl e) + G.ext.cc e
 yes : ch = true → su (dst G.N D s) (G.N + 1) < su (dst G.N D0 s0) (G.N + 1)
theorem RelI.weak {G : Nw} {R : Nat × Bool → Prop} {p : Nat → Int} {P : Int} {D0 D : List Int} {s0 s : Int} {ch : Bool} {Q Q' : Nat × Bool → Prop} (h : RelI G R p P D0 s0 D s ch Q) (hq : ∀ e, R e → Q' e → Q e) : RelI G R p P D0 s0 D s ch Q' :=
 ⟨h.len, h.pw, fun z => ⟨(h.no z).1, fun e he q => (h.no z).2 e he (hq e he q)⟩, h.yes⟩
theorem RelI.le {G : Nw} {R : Nat × Bool → Prop} {p : Nat → Int} {P : Int} {D0 D : List Int} {s0 s : Int} {ch : Bool} {Q : Nat × Bool → Prop} (h : RelI G R p P D0 s0 D s ch Q) : su (dst G.N D s) (G.N + 1) ≤ su (dst G.N D0 s0) (G.N + 1) := by
 cases hc : ch with
 | false => obtain ⟨⟨e1, e2⟩, _⟩ := h.no hc; rw [e1, e2]; exact Int.le_refl _
 | true => have := h.yes hc; omega
theorem Pw_congr {G : Nw} {R : Nat × Bool → Prop} (hop : ∀ e, R e → G.hd e < G.N ∧ G.tl e < G.N) {p : Nat → Int} {P : Int} {d d' : Nat → Int} {b : Nat → Option (Nat × Bool)} (hd : ∀ v, v < G.N → d' v = d v) (h : G.Pw R p P d b) : G.Pw R p P d' b := by
 refine ⟨fun v hv => by rw [hd v hv]; exact h.low v hv, fun v hv hb => by rw [hd v hv]; exact h.root v hv hb, fun v e hv he => ?_, h.rt⟩
 obtain ⟨h1, h2, h3⟩ := h.st v e hv he
 exact ⟨h1, h2, by rw [hd v hv, hd _ (hop e h1).2]; exact h3⟩
theorem RelI.edge {G : Nw} {R : Nat × Bool → Prop} {p : Nat → Int} {P : Int} {D0 D : List Int} {s0 s : Int} {ch : Bool} {Q : Nat × Bool → Prop} (h : RelI G R p P D0 s0 D s ch Q) (hE : G.ext.Ok) (hp : G.ext.Op R p) {e : Nat × Bool} (he : R e) {x : Int} (hx : dst G.N D s (G.ext.tl e) + G.ext.cc e = x)
 {D' : List Int} {s' : Int} (hl : D'.length = G.N) (h1 : x < dst G.N D s (G.ext.hd e) → ∀ v, v < G.N + 1 → dst G.N D' s' v = upd (dst G.N D s) (G.ext.hd e) x v) (h2 : ¬ x < dst G.N D s (G.ext.hd e) → D' = D ∧ s' = s) :
 RelI G R p P D0 s0 D' s' (decide (x < dst G.N D s (G.ext.hd e)) || ch) (fun e' => Q e' ∨ e' = e) := by
 by_cases q : x < dst G.N D s (G.ext.hd e)
 · have hh := Nw.hd_lt hE (hp.lt e he)
   have hop : ∀ e, R e → G.ext.hd e < G.ext.N ∧ G.ext.tl e < G.ext.N := fun e he => Nw.hd_lt hE (hp.lt e he)
   obtain ⟨b, hb⟩ := h.pw
   have hr := hb.relax hE hp he (by rw [hx]; exact q)
   rw [hx] at hr
   have hle := h.le
   have hs := su_upd (F := dst G.N D s) (n := G.N + 1) (a := G.ext.hd e) (x := x) hh.1
   have hs2 : su (dst G.N D' s') (G.N + 1) = su (upd (dst G.N D s) (G.ext.hd e) x) (G.N + 1) := su_congr fun v hv => h1 q v hv
   refine ⟨hl, ⟨_, Pw_congr hop (h1 q) hr⟩, fun z => ?_, fun _ => by omega⟩
   rw [decide_eq_true q] at z; cases z
 · obtain ⟨rfl, rfl⟩ := h2 q
   rw [decide_eq_false q, Bool.false_or]
   refine ⟨h.len, h.pw, fun z => ⟨(h.no z).1, fun e' he' hq => ?_⟩, h.yes⟩
   rcases hq with hq | rfl
   · exact (h.no z).2 e' he' hq
   · rw [hx]; omega
theorem ext_arc {G : Nw} {k : Nat} (hk : k < G.K) (b : Bool) : G.ext.hd (k, b) = G.hd (k, b) ∧ G.ext.tl (k, b) = G.tl (k, b) ∧ G.ext.cc (k, b) = G.cc (k, b) := by
 have e1 : G.ext.fr k = G.fr k := if_pos hk
 have e2 : G.ext.to k = G.to k := if_pos hk
 have e3 : G.ext.c k = G.c k := if_pos hk
 cases b
 · exact ⟨e2, e1, e3⟩
 · exact ⟨e1, e2, congrArg Neg.neg e3⟩
theorem ext_in {G : Nw} (i : Nat) (b : Bool) : G.ext.hd (G.K + i, b) = (if b = true then G.N else i) ∧ G.ext.tl (G.K + i, b) = (if b = true then i else G.N) ∧ G.ext.cc (G.K + i, b) = 0 := by
 have e1 : G.ext.fr (G.K + i) = G.N := if_neg (by omega)
 have e2 : G.ext.to (G.K + i) = i := by show (if G.K + i < G.K then G.to (G.K + i) else G.K + i - G.K) = i; rw [if_neg (by omega)]; omega
 have e3 : G.ext.c (G.K + i) = 0 := if_neg (by omega)
 cases b
 · exact ⟨e2, e1, e3⟩
 · exact ⟨e1, e2, by show - G.ext.c (G.K + i) = 0; rw [e3]; rfl⟩
theorem RelI.arc {G : Nw} (hG : G.Ok) {R : Nat × Bool → Prop} {p : Nat → Int} {P : Int} {D0 D : List Int} {s0 s : Int} {ch : Bool} {Q : Nat × Bool → Prop} (h : RelI G R p P D0 s0 D s ch Q) (hE : G.ext.Ok) (hp : G.ext.Op R p) {k : Nat} (hk : k < G.K) {b : Bool} (he : R (k, b)) {u w : Nat} (hu : G.tl (k, b) = u) (hw : G.hd (k, b) = w) {x : Int} (hx : D.getD u 0 + G.cc (k, b) = x) :
 RelI G R p P D0 s0 (lwr D w x) s (decide (x < D.getD w 0) || ch) (fun e' => Q e' ∨ e' = (k, b)) := by
 obtain ⟨e1, e2, e3⟩ := ext_arc hk b
 obtain ⟨b1, b2⟩ := Nw.hd_lt hG (e := (k, b)) hk
 have d1 : dst G.N D s (G.ext.hd (k, b)) = D.getD w 0 := by rw [e1, hw]; unfold dst; rw [if_pos (by omega)]; rfl
 have d2 : dst G.N D s (G.ext.tl (k, b)) = D.getD u 0 := by rw [e2, hu]; unfold dst; rw [if_pos (by omega)]; rfl
 rw [← d1]
 refine h.edge hE hp he (by rw [d2, e3]; exact hx) (by rw [lwr_len]; exact h.len) (fun q v _ => ?_) (fun q => ?_)
 · rw [d1] at q
   unfold lwr
   rw [if_pos q, dst_set (by omega) h.len, e1, hw]
 · rw [d1] at q
   unfold lwr
   rw [if_neg q]; exact ⟨rfl, rfl⟩
theorem RelI.inn {G : Nw} {R : Nat × Bool → Prop} {p : Nat → Int} {P : Int} {D0 D : List Int} {s0 s : Int} {ch : Bool} {Q : Nat × Bool → Prop} (h : RelI G R p P D0 s0 D s ch Q) (hE : G.ext.Ok) (hp : G.ext.Op R p) {i : Nat} (hi : i < G.N) (he : R (G.K + i, false)) :
 RelI G R p P D0 s0 (lwr D i s) s (decide (s < D.getD i 0) || ch) (fun e' => Q e' ∨ e' = (G.K + i, false)) := by
 obtain ⟨e1, e2, e3⟩ := ext_in (G := G) i false
 have e1 : G.ext.hd (G.K + i, false) = i := e1
 have e2 : G.ext.tl (G.K + i, false) = G.N := e2
 have d1 : dst G.N D s (G.ext.hd (G.K + i, false)) = D.getD i 0 := by rw [e1]; unfold dst; rw [if_pos hi]; rfl
 have d2 : dst G.N D s (G.ext.tl (G.K + i, false)) = s := by rw [e2]; unfold dst; rw [if_neg (Nat.lt_irrefl _)]
 rw [← d1]
 refine h.edge hE hp he (by rw [d2, e3, Int.add_zero]) (by rw [lwr_len]; exact h.len) (fun q v _ => ?_) (fun q => ?_)
 · rw [d1] at q
   unfold lwr
   rw [if_pos q, dst_set hi h.len, e1]
 · rw [d1] at q
   unfold lwr
   rw [if_neg q]; exact ⟨rfl, rfl⟩
theorem RelI.out {G : Nw} {R : Nat × Bool → Prop} {p : Nat → Int} {P : Int} {D0 D : List Int} {s0 s : Int} {ch : Bool} {Q : Nat × Bool → Prop} (h : RelI G R p P D0 s0 D s ch Q) (hE : G.ext.Ok) (hp : G.ext.Op R p) {i : Nat} (hi : i < G.N) (he : R (G.K + i, true)) :
 RelI G R p P D0 s0 D (if D.getD i 0 < s then D.getD i 0 else s) (decide (D.getD i 0 < s) || ch) (fun e' => Q e' ∨ e' = (G.K + i, true)) := by
 obtain ⟨e1, e2, e3⟩ := ext_in (G := G) i true
 have e1 : G.ext.hd (G.K + i, true) = G.N := e1
 have e2 : G.ext.tl (G.K + i, true) = i := e2
 have d1 : dst G.N D s (G.ext.hd (G.K + i, true)) = s := by rw [e1]; unfold dst; rw [if_neg (Nat.lt_irrefl _)]
 have d2 : dst G.N D s (G.ext.tl (G.K + i, true)) = D.getD i 0 := by rw [e2]; unfold dst; rw [if_pos hi]; rfl
 have key := h.edge hE hp he (x := D.getD i 0) (by rw [d2, e3, Int.add_zero]) (D' := D) (s' := if D.getD i 0 < s then D.getD i 0 else s) h.len (fun q v hv => ?_) (fun q => ?_)
 · rw [d1] at key; exact key
 · rw [d1] at q
   rw [if_pos q, e1]
   exact dst_store hv
 · rw [d1] at q
   rw [if_neg q]; exact ⟨rfl, rfl⟩
theorem RelI.bd {G : Nw} {R : Nat × Bool → Prop} {p : Nat → Int} {P C : Int} {D0 D : List Int} {s0 s : Int} {ch : Bool} {Q : Nat × Bool → Prop} (h : RelI G R p P D0 s0 D s ch Q) (hE : G.ext.Ok) (hp : G.ext.Op R p) (hC : 0 ≤ C) (hc : ∀ e, R e → - C ≤ G.ext.cc e) : (∀ v, v < G.N → - (C * G.N) ≤ D.getD v 0 ∧ D.getD v 0 ≤ 0) ∧ - (C * G.N) ≤ s ∧ s ≤ 0 := by
 obtain ⟨b, hb⟩ := h.pw
 have key : ∀ v, v < G.N + 1 → - (C * G.N) ≤ dst G.N D s v ∧ dst G.N D s v ≤ 0 := fun v hv => by
  have := hb.bd hE hC hp hc (v := v) hv
  have e : ((G.ext.N : Int) - 1) = G.N := by show (((G.N + 1 : Nat) : Int) - 1) = G.N; omega
  rw [e] at this; exact this
 refine ⟨fun v hv => ?_, ?_⟩
 · have := key v (by omega)
   unfold dst at this; rw [if_pos hv] at this; exact this
 · have := key G.N (by omega)
   unfold dst at this; rw [if_neg (Nat.lt_irrefl _)] at this; exact this
def gonF (G : Nw) (f : Nat → Int) (k v : Nat) : Int := su (fun j => if G.fr j = v then f j else 0) k
theorem gonF_succ (G : Nw) (f : Nat → Int) (k v : Nat) : gonF G f (k + 1) v = gonF G f k v + (if G.fr k = v then f k else 0) := rfl
theorem gonF_mono {G : Nw} {f : Nat → Int} {K : Nat} (h0 : ∀ k, k < K → 0 ≤ f k) (v : Nat) : ∀ {k}, k ≤ K → 0 ≤ gonF G f k v ∧ gonF G f k v ≤ gonF G f K v := by
 have nn : ∀ {k}, k ≤ K → 0 ≤ gonF G f k v := fun {k} hk => su_nn fun j hj => by
  have := h0 j (by omega)
  split <;> omega
 intro k hk
 refine ⟨nn hk, ?_⟩
 obtain ⟨d, rfl⟩ : ∃ d, K = k + d := ⟨K - k, by omega⟩
 clear nn hk
 induction d with
 | zero => exact Int.le_refl _
 | succ d ih =>
   have h1 := ih (fun j hj => h0 j (by omega))
   have h2 := h0 (k + d) (by omega)
   have h3 := gonF_succ G f (k + d) v
   have : gonF G f (k + (d + 1)) v = gonF G f (k + d) v + (if G.fr (k + d) = v then f (k + d) else 0) := h3
   rw [this]
   split <;> omega
theorem gonF_all {G : Nw} {B : Nat → Bool} (hb : G.Bip B) {h w f left : Nat → Int} (hs : G.St h w f left (fun _ => 0)) (hw : ∀ v, v < G.N → B v = true → w v = 0) {v : Nat} (hv : v < G.N) (hB : B v = true) : gonF G f G.K v = h v - left v := by
 have h1 := hs.net v hv
 rw [hw v hv hB] at h1
 have e : G.net f v = gonF G f G.K v := su_congr fun k hk => by
  have := hb.to k hk
  have hne : ¬ G.to k = v := fun q => by rw [q, hB] at this; exact absurd this.2 (by simp)
  rw [if_neg hne]; omega
 rw [e] at h1; omega
theorem gonF_none {G : Nw} {B : Nat → Bool} (hb : G.Bip B) {f : Nat → Int} {v : Nat} (hB : B v = false) : gonF G f G.K v = 0 := su_zero fun k hk => by
 have := hb.fr k hk
 rw [if_neg]
 intro q; rw [q, hB] at this; exact absurd this.2 (by simp)
structure Pri where
 st : List UInt8
 cents : Int
def puF : Pri → List DV := fun x => [.str x.st, .int .i64 x.cents]
def pr00 : Pri := ⟨[], 0⟩
abbrev pris (l : List Pri) : DV := seqD 2 puF pr00 l
def priL (n : List Ned) (y : Nat → Int) (i : Nat) : List Pri := (List.range i).map fun j => ⟨(n.getD j nd0).st, if (n.getD j nd0).many ≠ 0 then y j else 0⟩
theorem priL_succ (n : List Ned) (y : Nat → Int) (i : Nat) : priL n y (i + 1) = priL n y i ++ [⟨(n.getD i nd0).st, if (n.getD i nd0).many ≠ 0 then y i else 0⟩] := by
 unfold priL; rw [List.range_succ, List.map_append]; rfl
theorem priL_len (n : List Ned) (y : Nat → Int) (i : Nat) : (priL n y i).length = i := by unfold priL; rw [List.length_map, List.length_range]
def PriceR (n : List Ned) (r : List Roa) (l : List Pri) (e : Int) : Prop :=
 (firstE [ndsE n, rdsE r] ≠ 0 ∧ e = firstE [ndsE n, rdsE r] ∧ l = []) ∨ ((ndsE n = 0 ∧ rdsE r = 0) ∧ ((∀ g, ¬ (nwG n r).Fl (kindB n) (getI (havL n)) (getI (wntL n)) g) ∧ e = 12 ∧ l = [] ∨
   (∃ f left y, (nwG n r).St (getI (havL n)) (getI (wntL n)) f left (fun _ => 0) ∧ (nwG n r).IsOpt (kindB n) (getI (havL n)) (getI (wntL n)) ((nwG n r).cost f) ∧ (nwG n r).Prc (getI (havL n)) f (gonF (nwG n r) f (nwG n r).K) y ∧ (∀ v, v < n.length → -10000000 ≤ y v ∧ y v ≤ 10000000) ∧ l = priL n y n.length) ∧ e = 0))
def oVPgB22_8 : List (Nat × List Nat) := [(0, []), (1, []), (2, []), (3, [0, 1, 2]), (4, [0, 1, 2]), (5, [])]
def oVPgB22_17 : List (Nat × List Nat) := [(0, []), (1, [0]), (2, [0]), (3, []), (4, []), (5, [0, 1, 2, 3, 4]), (6, [0, 1, 2, 3, 4]), (7, []), (8, []), (9, [])]
def oVPgB22_18 : List (Nat × List Nat) := [(0, []), (1, [0]), (2, [0, 1]), (3, [0, 1]), (4, [0]), (5, [0, 1, 2, 3, 4]), (6, [0, 1, 2, 3, 4, 5]), (7, [0, 1, 2, 3, 4, 5]), (8, [0, 1, 2, 3, 4]), (9, [0, 1, 2, 3, 4]), (10, [0, 1, 2, 3, 4, 5, 6, 7, 8, 9]), (11, [0, 1, 2, 3, 4, 5, 6, 7, 8, 9]), (12, [0, 1, 2, 3, 4]), (13, []), (14, []), (15, []), (16, []), (17, [])]
def oVPgB22_20 : List (Nat × List Nat) := [(0, []), (1, [0]), (2, [0, 1]), (3, [0, 1]), (4, [0]), (5, [0, 1, 2, 3, 4]), (6, [0, 1, 2, 3, 4, 5]), (7, [0, 1, 2, 3, 4, 5]), (8, [0, 1, 2, 3, 4]), (9, [0, 1, 2, 3, 4]), (10, [0, 1, 2, 3, 4, 5, 6, 7, 8, 9]), (11, [0, 1, 2, 3, 4, 5, 6, 7, 8, 9]), (12, [0, 1, 2, 3, 4]), (13, []), (14, []), (15, []), (16, []), (17, [])]
def oVPgB22_26 : List (Nat × List Nat) := [(0, []), (1, [0]), (2, []), (3, []), (4, [0, 1, 2, 3]), (5, [0, 1, 2, 3]), (6, [0, 1, 2, 3]), (7, [0, 1, 2, 3]), (8, [0, 1, 2, 3, 4, 5, 6, 7]), (9, [0, 1, 2, 3]), (10, [0, 1, 2, 3]), (11, [])]
def oVPgB22_27 : List (Nat × List Nat) := [(0, []), (1, [0]), (2, [0, 1]), (3, [0]), (4, [0, 1, 2, 3]), (5, []), (6, []), (7, []), (8, []), (9, [])]
def oVPgB22_37 : List (Nat × List Nat) := [(0, []), (1, [0]), (2, []), (3, []), (4, [0, 1, 2, 3]), (5, []), (6, []), (7, [])]
structure PrvI (n : List Ned) (r : List Roa) (C : List Arc) (left p : Nat → Int) : Prop where
 sm : Sm (arcs n r) C
 st : (nwG n r).St (getI (havL n)) (getI (wntL n)) (floA C) left (fun _ => 0)
 pt : (nwG n r).Pot (getI (havL n)) (floA C) left p
abbrev gonG (n : List Ned) (r : List Roa) (C : List Arc) : Nat → Int := gonF (nwG n r) (floA C) (nwG n r).K
abbrev opnG (n : List Ned) (r : List Roa) (C : List Arc) : Nat × Bool → Prop := (nwG n r).opn (getI (havL n)) (floA C) (gonG n r C)
abbrev potG (n : List Ned) (r : List Roa) (p : Nat → Int) (v : Nat) : Int := if v < (nwG n r).N then p v else 0
theorem PrvI.gon {n : List Ned} {r : List Roa} {C : List Arc} {left p : Nat → Int} (h : PrvI n r C left p) (hn : ndsE n = 0) {v : Nat} (hv : v < n.length) : (kindB n v = true → gonG n r C v = getI (havL n) v - left v) ∧ 0 ≤ gonG n r C v ∧ gonG n r C v ≤ 20 := by
 have hB := nwG_bip n r
 have h1 := fun hk => gonF_all hB h.st (fun v hv hk => by rw [getI_wnt hv]; have := kindB_get.2 hk; unfold wntF; omega) hv hk
 refine ⟨h1, ?_⟩
 cases hk : kindB n v with
 | true =>
   have h2 := h1 hk
   have h3 := h.st.left0 v hv
   have h4 := (havF_bd hn v).1
   rw [getI_hav hv] at h2 h3
   show 0 ≤ gonF _ _ _ _ ∧ gonF _ _ _ _ ≤ 20
   omega
 | false =>
   have := gonF_none (G := nwG n r) (f := floA C) hB hk
   show 0 ≤ gonF _ _ _ _ ∧ gonF _ _ _ _ ≤ 20
   omega
theorem PrvI.op {n : List Ned} {r : List Roa} {C : List Arc} {left p : Nat → Int} (h : PrvI n r C left p) (hn : ndsE n = 0) (hr : rdsE r = 0) : (nwG n r).ext.Op (opnG n r C) (potG n r p) := by
 refine Nw.ext_op (nwG_ok (n := n) hr).1 h.pt fun v hv h0 => ?_
 refine (h.gon hn hv).1 ?_
 cases hk : kindB n v with
 | true => rfl
 | false =>
   rw [getI_hav hv] at h0
   have := kindB_get.1 hk
   unfold havF at h0; omega
theorem opn_cc {n : List Ned} {r : List Roa} {C : List Arc} (hr : rdsE r = 0) : ∀ e, opnG n r C e → -1000000 ≤ (nwG n r).ext.cc e := by
 rintro ⟨k, b⟩ ⟨h1, _, _⟩
 by_cases hk : k < (nwG n r).K
 · rw [(ext_arc hk b).2.2]
   have h2 := (nwG_ok (n := n) hr).1.c0 k hk
   have h3 := (nwG_ok (n := n) hr).2 k hk
   cases b
   · show -1000000 ≤ (nwG n r).c k; omega
   · show -1000000 ≤ - (nwG n r).c k; omega
 · obtain ⟨i, rfl⟩ : ∃ i, k = (nwG n r).K + i := ⟨k - (nwG n r).K, by omega⟩
   rw [(ext_in i b).2.2]; omega
abbrev RelG (n : List Ned) (r : List Roa) (C : List Arc) (p : Nat → Int) (D0 : List Int) (s0 : Int) (D : List Int) (s : Int) (ch : Bool) (Q : Nat × Bool → Prop) : Prop := RelI (nwG n r) (opnG n r C) (potG n r p) (su (potG n r p) ((nwG n r).N + 1)) D0 s0 D s ch Q
theorem RelG.b {n : List Ned} {r : List Roa} {C : List Arc} {left p : Nat → Int} (hI : PrvI n r C left p) (hn : ndsE n = 0) (hr : rdsE r = 0) {D0 D : List Int} {s0 s : Int} {ch : Bool} {Q : Nat × Bool → Prop} (h : RelG n r C p D0 s0 D s ch Q) : D.length = n.length ∧ (∀ v, v < n.length → -10000000 ≤ D.getD v 0 ∧ D.getD v 0 ≤ 0) ∧ -10000000 ≤ s ∧ s ≤ 0 := by
 have hl := (nds_all hn).1
 obtain ⟨h1, h2⟩ := h.bd (C := 1000000) (Nw.ext_ok (nwG_ok (n := n) hr).1) (hI.op hn hr) (by omega) (opn_cc hr)
 have hN : ((nwG n r).N : Int) = n.length := rfl
 refine ⟨h.len, fun v hv => ?_, by omega, by omega⟩
 have := h1 v hv
 omega
theorem RelG.low {n : List Ned} {r : List Roa} {C : List Arc} {left p : Nat → Int} (hI : PrvI n r C left p) (hn : ndsE n = 0) (hr : rdsE r = 0) {D0 D : List Int} {s0 s : Int} {ch : Bool} {Q : Nat × Bool → Prop} (h : RelG n r C p D0 s0 D s ch Q) : -200000000 ≤ su (dst (nwG n r).N D s) ((nwG n r).N + 1) := by
 have hl := (nds_all hn).1
 obtain ⟨_, h1, h2⟩ := h.b hI hn hr
 have : ∀ m, m ≤ (nwG n r).N + 1 → -10000000 * (m : Int) ≤ su (dst (nwG n r).N D s) m := by
  intro m
  induction m with
  | zero => intro _; exact Int.le_refl _
  | succ m ih =>
    intro hm
    have := ih (by omega)
    have h3 : -10000000 ≤ dst (nwG n r).N D s m := by
     unfold dst; split
     · rename_i q; exact (h1 m q).1
     · omega
    rw [su]; omega
 have h3 := this ((nwG n r).N + 1) (Nat.le_refl _)
 have hN : (nwG n r).N = n.length := rfl
 omega
theorem le_su {F : Nat → Int} {n a : Nat} (h : ∀ k, k < n → 0 ≤ F k) (ha : a < n) : F a ≤ su F n := by
 have h1 := su_le (F := fun v => if a = v then F a else 0) (H := F) (n := n) (fun k hk => by
  have := h k hk
  show (if a = k then F a else 0) ≤ F k
  split
  · rename_i q; rw [q]; exact Int.le_refl _
  · exact this)
 rw [su_one ha] at h1; exact h1
theorem relG_init {n : List Ned} {r : List Roa} {C : List Arc} {left p : Nat → Int} (hI : PrvI n r C left p) (hn : ndsE n = 0) (hr : rdsE r = 0) : RelG n r C p (List.replicate n.length 0) 0 (List.replicate n.length 0) 0 false (fun _ => true = false) := by
 have hp := hI.op hn hr
 have hE := Nw.ext_ok (nwG_ok (n := n) hr).1
 have h0 : ∀ v, v < (nwG n r).N + 1 → 0 ≤ potG n r p v := fun v _ => by
  show 0 ≤ (if v < (nwG n r).N then p v else 0)
  split
  · rename_i q; exact hI.pt.p0 v q
  · omega
 refine ⟨List.length_replicate, ⟨fun _ => none, Pw_congr (fun e he => Nw.hd_lt hE (hp.lt e he)) (fun v hv => ?_) (Nw.pw_init fun v hv => le_su h0 hv)⟩, fun _ => ⟨⟨rfl, rfl⟩, fun e _ q => by cases q⟩, fun q => by cases q⟩
 unfold dst
 split
 · rename_i q
   have q : v < n.length := q
   show (List.replicate n.length (0 : Int)).getD v 0 = 0
   rw [List.getD_eq_getElem?_getD, List.getElem?_replicate, if_pos q]; rfl
 · rfl
theorem PrvI.arc {n : List Ned} {r : List Roa} {C : List Arc} {left p : Nat → Int} (h : PrvI n r C left p) (hn : ndsE n = 0) (hr : rdsE r = 0) {k : Nat} (hk : k < C.length) :
 ((C.getD k ar0).fr = ((nwG n r).fr k : Nat) ∧ (C.getD k ar0).to = ((nwG n r).to k : Nat) ∧ (C.getD k ar0).car = (nwG n r).c k) ∧ ((nwG n r).fr k < n.length ∧ (nwG n r).to k < n.length) ∧ (0 ≤ (C.getD k ar0).car ∧ (C.getD k ar0).car ≤ 1000000) ∧ (0 ≤ (C.getD k ar0).flow ∧ (C.getD k ar0).flow ≤ 20) ∧ k < (nwG n r).K := by
 have hlen : (arcs n r).length = (arL n r).length := List.length_map _
 have hk2 : k < (nwG n r).K := by show k < (arL n r).length; have := h.sm.len; omega
 have h1 := h.sm.fld k
 rw [arcs_get] at h1
 have hm := arL_mem (nwG_at hk2)
 have hc := nwG_ok (n := n) hr
 have h0 := h.st.f0 k hk2
 have hg := (h.gon hn hm.1.1).2.2
 have hm2 := gonF_mono (G := nwG n r) (f := floA C) h.st.f0 ((nwG n r).fr k) (k := k + 1) (by omega)
 have hm3 := gonF_mono (G := nwG n r) (f := floA C) h.st.f0 ((nwG n r).fr k) (k := k) (by omega)
 rw [gonF_succ, if_pos rfl] at hm2
 have hg : gonF (nwG n r) (floA C) (nwG n r).K ((nwG n r).fr k) ≤ 20 := hg
 have h0 : 0 ≤ floA C k := h0
 have c1 := hc.1.c0 k hk2
 have c2 := hc.2 k hk2
 have e3 : (C.getD k ar0).car = (nwG n r).c k := h1.2.2
 have e4 : (C.getD k ar0).flow = floA C k := rfl
 exact ⟨⟨h1.1, h1.2.1, e3⟩, ⟨hm.1.1, hm.2.1.1⟩, by omega, by omega, hk2⟩
abbrev prvS (n : List Ned) (C : List Arc) (D : List Int) (s : Int) : List (Nat × Res) := [(24, tpV (havL n) (wntL n) C), (10, .cells 3 [.d (.int .i64 s)]), (40, seqB 3 1 iF 0 D)]
set_option maxHeartbeats 16000000 in
theorem p22 (n : List Ned) (r : List Roa) (hn : ndOk n) (hr : rdOk r) : FSpec Tryz.prog 22 [.d (neds n), .d (roas r)] []
 (fun y q => (∃ l e, y = .tup [.d (pris l), .d (.int .i64 e)] ∧ PriceR n r l e) ∧ q = []) := by
 obtain ⟨E0, hE0⟩ : ∃ e, firstE [ndsE n, rdsE r] = e := ⟨_, rfl⟩
 have s113' := s113 n r hn hr
 rw [hE0] at s113'
 refine spec_of hT (C := []) Tryz.func22 rfl Tryz.call22 rfl rfl rfl ?_
 conv => whnf
 by_cases h0 : firstE [ndsE n, rdsE r] = 0
 · obtain ⟨hn0, hr0⟩ := firstE_two h0
   have hA := arcs_ok hn0 hr0
   have hnl := (nds_all hn0).1
   have hGo := (nwG_ok (n := n) hr0).1
   have hGe := Nw.ext_ok hGo
   repeat' (first | (refine CallX.exact (s113') rfl rfl ?_; rotate_right; conv => whnf) | (refine CallX.of (p59 n r hn0 hr0) [(20, 24), (15, 1000), (18, 1001), (500, 1002)] rfl ⟨lr, lr, trivial⟩ trivial rfl rfl ?_; rintro x rout ⟨rfl, rfl⟩; refine ⟨rfl, ?_⟩; conv => whnf) | (refine CallX.of (p60 (havL n) (wntL n) (arcs n r) (by rw [show (havL n).length = n.length from fillA_length]; exact hA) (by rw [show (havL n).length = n.length from fillA_length]; omega) (by rw [show (havL n).length = n.length from fillA_length]; exact fillA_length) (fun v hv => by rw [getI_hav (by rw [← (show (havL n).length = n.length from fillA_length)]; exact hv)]; have := (havF_bd hn0 v).1; omega) (fun v hv => by rw [getI_wnt (by rw [← (show (havL n).length = n.length from fillA_length)]; exact hv)]; have := (havF_bd hn0 v).2; omega)) [(1000000, 24), (1000001, 1000), (1000002, 1001), (1000003, 1002)] rfl ⟨lr, trivial⟩ ⟨rr, rr, rr, rr, trivial⟩ rfl rfl ?_; rintro x rout ⟨C, ⟨hS0, hR0⟩, rfl⟩; rw [show (havL n).length = n.length from fillA_length, nwA_arcs] at hR0; (rcases hR0 with ⟨left, p, hst, hpt, hcb, rfl⟩ | ⟨hno, c, rfl⟩) <;> (refine ⟨rfl, ?_⟩ <;> (conv => whnf)); conv => whnf) | (refine br_intro ?_ ?_ <;> intro hb <;> (try simp only [brs] at hb) <;> conv => whnf) | (refine RegX.rule (id := 8) hT rfl [] oVPgB22_8 (by decide +kernel) ?_; conv => whnf) | (refine RegX.rule (id := 17) hT rfl [] oVPgB22_17 (by decide +kernel) ?_; conv => whnf) | (refine RegX.rule (id := 18) hT rfl [] oVPgB22_18 (by decide +kernel) ?_; conv => whnf) | (refine RegX.rule (id := 20) hT rfl [] oVPgB22_20 (by decide +kernel) ?_; conv => whnf) | (refine RegX.rule (id := 26) hT rfl [] oVPgB22_26 (by decide +kernel) ?_; conv => whnf) | (refine RegX.rule (id := 27) hT rfl [] oVPgB22_27 (by decide +kernel) ?_; conv => whnf) | (refine RegX.rule (id := 37) hT rfl [] oVPgB22_37 (by decide +kernel) ?_; conv => whnf) | omega | (refine And.intro ?_ ?_; ((try dsimp only); first | omega | (refine szA rfl ?_; omega) | (refine szB rfl ?_; omega) | (unfold inI64; omega) | exact rfl | (simp only [lns] at *; omega) | decide | (unfold inI64; decide)); conv => whnf) | decide | assumption)
   · have hI : PrvI n r C left p := ⟨hS0, hst, hpt⟩
     refine LoopX.freeze 1002 108 4 _ _ rfl ?_
     refine LoopX.rule hT (C := []) (ι := List Int × Int × Bool) (fun (D, s, ch) => RelG n r C p D s D s false (fun e => ch = false)) (fun (D, s, ch) => mkSt [(0, .d (neds n)), (7, .ptr 24 0), (10, .ptr 10 0), (11, .buf 40), (12, .fn 61 []), (13, .d (.bool ch))] (prvS n C D s)) (fun (D, s, ch) => 2 * (su (dst (nwG n r).N D s) ((nwG n r).N + 1) + 200000000).toNat + (if ch = true then 1 else 0)) (List.replicate n.length 0, 0, true) (relG_init hI hn0 hr0) ?_ ?_
     · refine (Entails.froCell 24 1000 1 _ 0 _ rfl rfl rfl).trans ?_
       refine (Entails.froCell 24 1001 1 _ 1 _ rfl rfl rfl).trans ?_
       refine (Entails.froCell 24 1002 4 _ 2 _ rfl rfl rfl).trans ?_
       refine Entails.mk' [(24, 24), (10, 10), (40, 40)] rfl rfl ⟨lr, lr, lr, lr, lr, lr, trivial⟩ ⟨rr, rr, ?_, trivial⟩
       exact Res.le_buf (by rw [List.length_replicate]; exact Int.toNat_natCast _) (fun i hi => by
        have hi : i < n.length := by simpa using hi
        show _ = iF ((List.replicate n.length 0).getD i 0)
        rw [List.getD_eq_getElem?_getD, List.getElem?_replicate, if_pos hi]; rfl)
     rintro ⟨D0, s0, ch0⟩ hR
     have hR : RelG n r C p D0 s0 D0 s0 false (fun _ => ch0 = false) := hR
     have hb0 := hR.b hI hn0 hr0
     have hCl : C.length = (arcs n r).length := hI.sm.len
     have hAl := arcs_ok hn0 hr0
     have hAll := hAl.len
     cases ch0 with
     | false =>
       obtain ⟨y, hy⟩ : ∃ y : Nat → Int, y = fun v => D0.getD v 0 - s0 := ⟨_, rfl⟩
       have hPrc : (nwG n r).Prc (getI (havL n)) (floA C) (gonG n r C) (fun v => dst (nwG n r).N D0 s0 v - dst (nwG n r).N D0 s0 (nwG n r).N) := Nw.ext_prc hGo fun e he => (hR.no rfl).2 e he rfl
       have hye : ∀ v, v < n.length → dst (nwG n r).N D0 s0 v - dst (nwG n r).N D0 s0 (nwG n r).N = y v := fun v hv => by
        have hv : v < (nwG n r).N := hv
        rw [hy]
        unfold dst
        rw [if_pos hv, if_neg (Nat.lt_irrefl _)]; rfl
       have hPy : (nwG n r).Prc (getI (havL n)) (floA C) (gonG n r C) y := by
        have hto := fun k hk => hGo.to k hk
        have hfr := fun k hk => hGo.fr k hk
        refine ⟨fun k hk => ?_, fun k hk hf => ?_, fun v hv h1 h2 => ?_, fun v hv h1 h2 => ?_⟩
        · have := hPrc.ar k hk
          rw [← hye _ (hto k hk), ← hye _ (hfr k hk)]; exact this
        · have := hPrc.tight k hk hf
          rw [← hye _ (hto k hk), ← hye _ (hfr k hk)]; exact this
        · rw [← hye _ hv]; exact hPrc.lo v hv h1 h2
        · rw [← hye _ hv]; exact hPrc.hi v hv h1 h2
       have hyb : ∀ v, v < n.length → -10000000 ≤ y v ∧ y v ≤ 10000000 := fun v hv => by
        have := hb0.2.1 v hv
        rw [hy]; show -10000000 ≤ D0.getD v 0 - s0 ∧ D0.getD v 0 - s0 ≤ 10000000; omega
       have hOpt : (nwG n r).IsOpt (kindB n) (getI (havL n)) (getI (wntL n)) ((nwG n r).cost (floA C)) := by
        obtain ⟨o1, o2⟩ := Nw.opt hGo hst hpt (fun _ _ => rfl)
        have hfl := Nw.Bip.fl (nwG_bip n r) (h := getI (havL n)) (w := getI (wntL n)) (fun v hv hk => by rw [getI_hav hv]; have := kindB_get.1 hk; unfold havF; omega) (fun v hv hk => by rw [getI_wnt hv]; have := kindB_get.2 hk; unfold wntF; omega)
        exact ⟨⟨floA C, (hfl _).1 o1, rfl⟩, fun g hg => o2 g ((hfl g).2 hg)⟩
       have hD0l := hb0.1
       conv => whnf
       repeat' (first | (refine br_intro ?_ ?_ <;> intro hb <;> (try simp only [brs] at hb) <;> conv => whnf) | (refine RegX.rule (id := 8) hT rfl [] oVPgB22_8 (by decide +kernel) ?_; conv => whnf) | (refine RegX.rule (id := 17) hT rfl [] oVPgB22_17 (by decide +kernel) ?_; conv => whnf) | (refine RegX.rule (id := 18) hT rfl [] oVPgB22_18 (by decide +kernel) ?_; conv => whnf) | (refine RegX.rule (id := 20) hT rfl [] oVPgB22_20 (by decide +kernel) ?_; conv => whnf) | (refine RegX.rule (id := 26) hT rfl [] oVPgB22_26 (by decide +kernel) ?_; conv => whnf) | (refine RegX.rule (id := 27) hT rfl [] oVPgB22_27 (by decide +kernel) ?_; conv => whnf) | (refine RegX.rule (id := 37) hT rfl [] oVPgB22_37 (by decide +kernel) ?_; conv => whnf) | omega | (refine And.intro ?_ ?_; ((try dsimp only); first | omega | (refine szA rfl ?_; omega) | (refine szB rfl ?_; omega) | (unfold inI64; omega) | exact rfl | (simp only [lns] at *; omega) | decide | (unfold inI64; decide)); conv => whnf) | decide | assumption)
       all_goals try (exfalso; omega)
       refine LoopX.rule hT (C := []) (ι := Nat) (fun i => i ≤ n.length) (fun i => mkSt [(10, .ptr 10 0), (11, .buf 40), (18, .buf 603), (150, .d (neds n)), (151, .d (.int .i64 n.length)), (152, .d (.int .i64 i))] [(10, .cells 3 [.d (.int .i64 s0)]), (40, seqB 3 1 iF 0 D0), (603, seqB 95 2 puF pr00 (priL n y i))]) (fun i => n.length - i) 0 (by show 0 ≤ _; omega) ?_ ?_
       · refine (Entails.nil 18 603 95 2 (rowF puF pr00 []) rfl rfl (by decide)).trans ?_
         exact Entails.mk' [(10, 10), (40, 40), (603, 603)] rfl rfl ⟨lr, lr, lr, lr, lr, lr, trivial⟩ ⟨rr, rr, rr, trivial⟩
       rintro i hi
       have hi : i ≤ n.length := hi
       have e1 : (i : Int).toNat = i := Int.toNat_natCast i
       have hpl := priL_len n y i
       rcases Nat.lt_or_ge i n.length with hin | hin
       · have hbi := hb0.2.1 i hin
         rw [← e1] at hbi
         conv => whnf
         repeat' (first | (refine br_intro ?_ ?_ <;> intro hb <;> (try simp only [brs] at hb) <;> conv => whnf) | (refine RegX.rule (id := 8) hT rfl [] oVPgB22_8 (by decide +kernel) ?_; conv => whnf) | (refine RegX.rule (id := 17) hT rfl [] oVPgB22_17 (by decide +kernel) ?_; conv => whnf) | (refine RegX.rule (id := 18) hT rfl [] oVPgB22_18 (by decide +kernel) ?_; conv => whnf) | (refine RegX.rule (id := 20) hT rfl [] oVPgB22_20 (by decide +kernel) ?_; conv => whnf) | (refine RegX.rule (id := 26) hT rfl [] oVPgB22_26 (by decide +kernel) ?_; conv => whnf) | (refine RegX.rule (id := 27) hT rfl [] oVPgB22_27 (by decide +kernel) ?_; conv => whnf) | (refine RegX.rule (id := 37) hT rfl [] oVPgB22_37 (by decide +kernel) ?_; conv => whnf) | omega | (refine And.intro ?_ ?_; ((try dsimp only); first | omega | (refine szA rfl ?_; omega) | (refine szB rfl ?_; omega) | (unfold inI64; omega) | exact rfl | (simp only [lns] at *; omega) | decide | (unfold inI64; decide)); conv => whnf) | decide | assumption)
         all_goals try (exfalso; omega)
         · refine ⟨i + 1, hin, by show n.length - (i + 1) < n.length - i; omega, Entails.mk' [(10, 10), (40, 40), (603, 173)] rfl rfl ⟨lr, lr, lr, lr, lr, lr, trivial⟩ ⟨rr, rr, ?_, trivial⟩⟩
           show Res.le _ (seqB 95 2 puF pr00 (priL n y (i + 1)))
           rw [priL_succ, if_pos hb]
           refine Res.le_snocF ?_
           rw [hy]; rfl
         · refine ⟨i + 1, hin, by show n.length - (i + 1) < n.length - i; omega, Entails.mk' [(10, 10), (40, 40), (603, 173)] rfl rfl ⟨lr, lr, lr, lr, lr, lr, trivial⟩ ⟨rr, rr, ?_, trivial⟩⟩
           show Res.le _ (seqB 95 2 puF pr00 (priL n y (i + 1)))
           rw [priL_succ, if_neg (by simpa using hb)]
           exact Res.le_snocF rfl
       · have hin : i = n.length := by omega
         rw [hin]
         conv => whnf
         repeat' (first | (refine br_intro ?_ ?_ <;> intro hb <;> (try simp only [brs] at hb) <;> conv => whnf) | (refine RegX.rule (id := 8) hT rfl [] oVPgB22_8 (by decide +kernel) ?_; conv => whnf) | (refine RegX.rule (id := 17) hT rfl [] oVPgB22_17 (by decide +kernel) ?_; conv => whnf) | (refine RegX.rule (id := 18) hT rfl [] oVPgB22_18 (by decide +kernel) ?_; conv => whnf) | (refine RegX.rule (id := 20) hT rfl [] oVPgB22_20 (by decide +kernel) ?_; conv => whnf) | (refine RegX.rule (id := 26) hT rfl [] oVPgB22_26 (by decide +kernel) ?_; conv => whnf) | (refine RegX.rule (id := 27) hT rfl [] oVPgB22_27 (by decide +kernel) ?_; conv => whnf) | (refine RegX.rule (id := 37) hT rfl [] oVPgB22_37 (by decide +kernel) ?_; conv => whnf) | omega | (refine And.intro ?_ ?_; ((try dsimp only); first | omega | (refine szA rfl ?_; omega) | (refine szB rfl ?_; omega) | (unfold inI64; omega) | exact rfl | (simp only [lns] at *; omega) | decide | (unfold inI64; decide)); conv => whnf) | decide | assumption)
         all_goals try (exfalso; omega)
         refine .freeze _ 603 95 2 _ _ rfl (.weak _ ?_)
         conv => whnf
         exact ⟨.tup [.d (pris (priL n y n.length)), .d (.int .i64 0)], _, SV.le_tup ⟨lr, lr, trivial⟩, ⟨⟨_, _, rfl, .inr ⟨⟨hn0, hr0⟩, .inr ⟨⟨floA C, left, y, hst, hOpt, hPy, hyb, rfl⟩, rfl⟩⟩⟩, rfl⟩, trivial⟩
     | true =>
       conv => whnf
       repeat' (first | (refine br_intro ?_ ?_ <;> intro hb <;> (try simp only [brs] at hb) <;> conv => whnf) | (refine RegX.rule (id := 8) hT rfl [] oVPgB22_8 (by decide +kernel) ?_; conv => whnf) | (refine RegX.rule (id := 17) hT rfl [] oVPgB22_17 (by decide +kernel) ?_; conv => whnf) | (refine RegX.rule (id := 18) hT rfl [] oVPgB22_18 (by decide +kernel) ?_; conv => whnf) | (refine RegX.rule (id := 20) hT rfl [] oVPgB22_20 (by decide +kernel) ?_; conv => whnf) | (refine RegX.rule (id := 26) hT rfl [] oVPgB22_26 (by decide +kernel) ?_; conv => whnf) | (refine RegX.rule (id := 27) hT rfl [] oVPgB22_27 (by decide +kernel) ?_; conv => whnf) | (refine RegX.rule (id := 37) hT rfl [] oVPgB22_37 (by decide +kernel) ?_; conv => whnf) | omega | (refine And.intro ?_ ?_; ((try dsimp only); first | omega | (refine szA rfl ?_; omega) | (refine szB rfl ?_; omega) | (unfold inI64; omega) | exact rfl | (simp only [lns] at *; omega) | decide | (unfold inI64; decide)); conv => whnf) | decide | assumption)
       all_goals try (exfalso; omega)
       refine LoopX.rule hT (C := []) (ι := List Int × List Int × Bool × Nat) (fun (D, E, ch, k) => k ≤ C.length ∧ RelG n r C p D0 s0 D s0 ch (fun e => e.1 < k) ∧ E.length = n.length ∧ ∀ v, v < n.length → getI E v = gonF (nwG n r) (floA C) k v) (fun (D, E, ch, k) => mkSt [(0, .d (neds n)), (7, .ptr 24 0), (10, .ptr 10 0), (11, .buf 40), (12, .fn 61 []), (13, .d (.bool ch)), (14, .buf 44), (48, .d (seqD 4 arF ar0 C)), (49, .d (.int .i64 C.length)), (50, .d (.int .i64 k))] (prvS n C D s0 ++ [(44, seqB 3 1 iF 0 E)])) (fun (_, _, _, k) => C.length - k) (D0, List.replicate n.length 0, false, 0) ⟨by show 0 ≤ _; omega, hR.weak (fun e _ q => absurd q (Nat.not_lt_zero _)), List.length_replicate, fun v hv => ?_⟩ ?_ ?_
       · show (List.replicate n.length (0 : Int)).getD v 0 = 0
         rw [List.getD_eq_getElem?_getD, List.getElem?_replicate, if_pos hv]; rfl
       · refine Entails.mk' [(24, 24), (10, 10), (40, 40), (44, 44)] rfl rfl ⟨lr, lr, lr, lr, lr, lr, lr, lr, lr, lr, trivial⟩ ⟨rr, rr, rr, ?_, trivial⟩
         exact Res.le_buf (by rw [List.length_replicate]; exact Int.toNat_natCast _) (fun i hi => by
          have hi : i < n.length := by simpa using hi
          show _ = iF ((List.replicate n.length 0).getD i 0)
          rw [List.getD_eq_getElem?_getD, List.getElem?_replicate, if_pos hi]; rfl)
       rintro ⟨D, E, ch, k⟩ ⟨hk, hRk, hEl, hEg⟩
       have hk : k ≤ C.length := hk
       have hRk : RelG n r C p D0 s0 D s0 ch (fun e => e.1 < k) := hRk
       have hEl : E.length = n.length := hEl
       have hEg : ∀ v, v < n.length → getI E v = gonF (nwG n r) (floA C) k v := hEg
       have ek : (k : Int).toNat = k := Int.toNat_natCast k
       rcases Nat.lt_or_ge k C.length with hkC | hkC
       · obtain ⟨⟨a1, a2, a3⟩, ⟨a4, a5⟩, a6, a7, a8⟩ := hI.arc hn0 hr0 hkC
         have hbk := hRk.b hI hn0 hr0
         have hEf := hEg _ a4
         have hgm := gonF_mono (G := nwG n r) (f := floA C) hst.f0 ((nwG n r).fr k) (k := k) (by omega)
         have hgl := (hI.gon hn0 a4).2.2
         have hgl : gonF (nwG n r) (floA C) (nwG n r).K ((nwG n r).fr k) ≤ 20 := hgl
         have u1 : (C.getD (k : Int).toNat ar0).fr.toNat = (nwG n r).fr k := by rw [ek, a1, Int.toNat_natCast]
         have u2 : (C.getD (k : Int).toNat ar0).to.toNat = (nwG n r).to k := by rw [ek, a2, Int.toNat_natCast]
         have u3 : (C.getD (k : Int).toNat ar0).car = (nwG n r).c k := by rw [ek]; exact a3
         have w1 : 0 ≤ (C.getD (k : Int).toNat ar0).fr ∧ (C.getD (k : Int).toNat ar0).fr < n.length := by rw [ek]; omega
         have w2 : 0 ≤ (C.getD (k : Int).toNat ar0).to ∧ (C.getD (k : Int).toNat ar0).to < n.length := by rw [ek]; omega
         have w3 : 0 ≤ (C.getD (k : Int).toNat ar0).car ∧ (C.getD (k : Int).toNat ar0).car ≤ 1000000 := by rw [ek]; exact a6
         have w4 : 0 ≤ (C.getD (k : Int).toNat ar0).flow ∧ (C.getD (k : Int).toNat ar0).flow ≤ 20 := by rw [ek]; exact a7
         have w5 : 0 ≤ E.getD (C.getD (k : Int).toNat ar0).fr.toNat 0 ∧ E.getD (C.getD (k : Int).toNat ar0).fr.toNat 0 ≤ 20 := by
          rw [u1]; unfold getI at hEf; omega
         have w6 : -10000000 ≤ D.getD (C.getD (k : Int).toNat ar0).fr.toNat 0 ∧ D.getD (C.getD (k : Int).toNat ar0).fr.toNat 0 ≤ 0 := by rw [u1]; exact hbk.2.1 _ a4
         have hDl := hbk.1
         have hR1 := hRk.arc hGo hGe (hI.op hn0 hr0) a8 (b := false) ⟨by show k < _ + _; omega, (fun _ q => by cases q), fun q => absurd a8 q⟩ (u := (C.getD (k : Int).toNat ar0).fr.toNat) (w := (C.getD (k : Int).toNat ar0).to.toNat) u1.symm u2.symm (x := D.getD (C.getD (k : Int).toNat ar0).fr.toNat 0 + (C.getD (k : Int).toNat ar0).car) (by rw [u3]; rfl)
         obtain ⟨D1, hD1⟩ : ∃ D1, D1 = lwr D (C.getD (k : Int).toNat ar0).to.toNat (D.getD (C.getD (k : Int).toNat ar0).fr.toNat 0 + (C.getD (k : Int).toNat ar0).car) := ⟨_, rfl⟩
         have c1 := p61b D (C.getD (k : Int).toNat ar0).to.toNat (D.getD (C.getD (k : Int).toNat ar0).fr.toNat 0 + (C.getD (k : Int).toNat ar0).car) (by rw [hDl]; omega)
         rw [← hD1] at hR1 c1
         have hb1 := RelG.b hI hn0 hr0 hR1
         have hD1l := hb1.1
         have w7 : -10000000 ≤ D1.getD (C.getD (k : Int).toNat ar0).to.toNat 0 ∧ D1.getD (C.getD (k : Int).toNat ar0).to.toNat 0 ≤ 0 := by rw [u2]; exact hb1.2.1 _ a5
         have hE2 : ∀ v, v < n.length → getI (E.set (C.getD (k : Int).toNat ar0).fr.toNat (E.getD (C.getD (k : Int).toNat ar0).fr.toNat 0 + (C.getD (k : Int).toNat ar0).flow)) v = gonF (nwG n r) (floA C) (k + 1) v := fun v hv => by
          rw [getI_set (by rw [u1]; omega), gonF_succ, u1, ← hEg v hv]
          unfold upd
          by_cases q : v = (nwG n r).fr k
          · rw [if_pos q, if_pos q.symm, q, ek]; rfl
          · rw [if_neg q, if_neg (fun z => q z.symm), Int.add_zero]
         by_cases hfl : 0 < (C.getD k ar0).flow
         · have c2 := p61b D1 (C.getD (k : Int).toNat ar0).fr.toNat (D1.getD (C.getD (k : Int).toNat ar0).to.toNat 0 - (C.getD (k : Int).toNat ar0).car) (by rw [hD1l]; omega)
           have hR2 := hR1.arc hGo hGe (hI.op hn0 hr0) a8 (b := true) ⟨by show k < _ + _; omega, (fun _ _ => hfl), fun q => absurd a8 q⟩ (u := (C.getD (k : Int).toNat ar0).to.toNat) (w := (C.getD (k : Int).toNat ar0).fr.toNat) u2.symm u1.symm (x := D1.getD (C.getD (k : Int).toNat ar0).to.toNat 0 - (C.getD (k : Int).toNat ar0).car) (by rw [u3]; rfl)
           conv => whnf
           repeat' (first | (refine CallX.of c1 [(1000000, 40)] rfl ⟨lr, lr, trivial⟩ ⟨rr, trivial⟩ rfl rfl ?_; rintro x' rout ⟨rfl, rfl⟩; refine ⟨rfl, ?_⟩; conv => whnf) | (refine CallX.of c2 [(1000000, 40)] rfl ⟨lr, lr, trivial⟩ ⟨rr, trivial⟩ rfl rfl ?_; rintro x' rout ⟨rfl, rfl⟩; refine ⟨rfl, ?_⟩; conv => whnf) | (refine br_intro ?_ ?_ <;> intro hb <;> (try simp only [brs] at hb) <;> conv => whnf) | (refine RegX.rule (id := 8) hT rfl [] oVPgB22_8 (by decide +kernel) ?_; conv => whnf) | (refine RegX.rule (id := 17) hT rfl [] oVPgB22_17 (by decide +kernel) ?_; conv => whnf) | (refine RegX.rule (id := 18) hT rfl [] oVPgB22_18 (by decide +kernel) ?_; conv => whnf) | (refine RegX.rule (id := 20) hT rfl [] oVPgB22_20 (by decide +kernel) ?_; conv => whnf) | (refine RegX.rule (id := 26) hT rfl [] oVPgB22_26 (by decide +kernel) ?_; conv => whnf) | (refine RegX.rule (id := 27) hT rfl [] oVPgB22_27 (by decide +kernel) ?_; conv => whnf) | (refine RegX.rule (id := 37) hT rfl [] oVPgB22_37 (by decide +kernel) ?_; conv => whnf) | omega | (refine And.intro ?_ ?_; ((try dsimp only); first | omega | (refine szA rfl ?_; omega) | (refine szB rfl ?_; omega) | (unfold inI64; omega) | exact rfl | (simp only [lns] at *; omega) | decide | (unfold inI64; decide)); conv => whnf) | decide | assumption)
           all_goals try (exfalso; omega)
           all_goals
            refine ⟨(_, _, _, k + 1), ⟨hkC, hR2.weak (fun e he q => ?_), by rw [List.length_set]; exact hEl, hE2⟩, by show C.length - (k + 1) < C.length - k; omega, Entails.mk' [(24, 24), (10, 10), (40, 40), (44, 44)] rfl rfl ⟨lr, lr, lr, lr, lr, SV.le_bool ?_, lr, lr, lr, lr, trivial⟩ ⟨rr, rr, rr, Res.le_upd (fun _ => E.getD (C.getD (k : Int).toNat ar0).fr.toNat 0 + (C.getD (k : Int).toNat ar0).flow) (fun y => rfl), trivial⟩⟩
           all_goals first
            | (have q : e.1 < k + 1 := q
               obtain ⟨e1, e2⟩ := e
               by_cases z : e1 < k
               · exact .inl (.inl z)
               · have z2 : e1 = k := by have : e1 < k + 1 := q; omega
                 subst z2
                 cases e2
                 · exact .inl (.inr rfl)
                 · exact .inr rfl)
            | (rw [decide_eq_true (by simpa only [ek] using hb)]; rfl)
            | (rename_i z1 z2
               rw [decide_eq_false (by simpa only [ek, Int.not_lt] using hb)]
               first
                | (rw [decide_eq_true (by simpa only [ek] using z1)]; rfl)
                | (rw [decide_eq_false (by simpa only [ek, Int.not_lt] using z1)]; rfl))
         · conv => whnf
           repeat' (first | (refine CallX.of c1 [(1000000, 40)] rfl ⟨lr, lr, trivial⟩ ⟨rr, trivial⟩ rfl rfl ?_; rintro x' rout ⟨rfl, rfl⟩; refine ⟨rfl, ?_⟩; conv => whnf) | (refine br_intro ?_ ?_ <;> intro hb <;> (try simp only [brs] at hb) <;> conv => whnf) | (refine RegX.rule (id := 8) hT rfl [] oVPgB22_8 (by decide +kernel) ?_; conv => whnf) | (refine RegX.rule (id := 17) hT rfl [] oVPgB22_17 (by decide +kernel) ?_; conv => whnf) | (refine RegX.rule (id := 18) hT rfl [] oVPgB22_18 (by decide +kernel) ?_; conv => whnf) | (refine RegX.rule (id := 20) hT rfl [] oVPgB22_20 (by decide +kernel) ?_; conv => whnf) | (refine RegX.rule (id := 26) hT rfl [] oVPgB22_26 (by decide +kernel) ?_; conv => whnf) | (refine RegX.rule (id := 27) hT rfl [] oVPgB22_27 (by decide +kernel) ?_; conv => whnf) | (refine RegX.rule (id := 37) hT rfl [] oVPgB22_37 (by decide +kernel) ?_; conv => whnf) | omega | (refine And.intro ?_ ?_; ((try dsimp only); first | omega | (refine szA rfl ?_; omega) | (refine szB rfl ?_; omega) | (unfold inI64; omega) | exact rfl | (simp only [lns] at *; omega) | decide | (unfold inI64; decide)); conv => whnf) | decide | assumption)
           all_goals try (exfalso; omega)
           all_goals
            refine ⟨(_, _, _, k + 1), ⟨hkC, hR1.weak (fun e he q => ?_), by rw [List.length_set]; exact hEl, hE2⟩, by show C.length - (k + 1) < C.length - k; omega, Entails.mk' [(24, 24), (10, 10), (40, 40), (44, 44)] rfl rfl ⟨lr, lr, lr, lr, lr, SV.le_bool ?_, lr, lr, lr, lr, trivial⟩ ⟨rr, rr, rr, Res.le_upd (fun _ => E.getD (C.getD (k : Int).toNat ar0).fr.toNat 0 + (C.getD (k : Int).toNat ar0).flow) (fun y => rfl), trivial⟩⟩
           all_goals first
            | (have q : e.1 < k + 1 := q
               obtain ⟨e1, e2⟩ := e
               by_cases z : e1 < k
               · exact .inl z
               · have z2 : e1 = k := by have : e1 < k + 1 := q; omega
                 subst z2
                 cases e2
                 · exact .inr rfl
                 · exact absurd (he.2.1 a8 rfl) hfl)
            | (rename_i z1
               first
                | (rw [decide_eq_true (by simpa only [ek] using z1)]; rfl)
                | (rw [decide_eq_false (by simpa only [ek, Int.not_lt] using z1)]; rfl))
       · have hkC : k = C.length := by omega
         have hCK : C.length = (nwG n r).K := by rw [hCl]; exact List.length_map _
         have hEK : ∀ v, v < n.length → getI E v = gonG n r C v := fun v hv => by rw [hEg v hv, hkC, hCK]
         rw [hkC]
         conv => whnf
         repeat' (first | (refine br_intro ?_ ?_ <;> intro hb <;> (try simp only [brs] at hb) <;> conv => whnf) | (refine RegX.rule (id := 8) hT rfl [] oVPgB22_8 (by decide +kernel) ?_; conv => whnf) | (refine RegX.rule (id := 17) hT rfl [] oVPgB22_17 (by decide +kernel) ?_; conv => whnf) | (refine RegX.rule (id := 18) hT rfl [] oVPgB22_18 (by decide +kernel) ?_; conv => whnf) | (refine RegX.rule (id := 20) hT rfl [] oVPgB22_20 (by decide +kernel) ?_; conv => whnf) | (refine RegX.rule (id := 26) hT rfl [] oVPgB22_26 (by decide +kernel) ?_; conv => whnf) | (refine RegX.rule (id := 27) hT rfl [] oVPgB22_27 (by decide +kernel) ?_; conv => whnf) | (refine RegX.rule (id := 37) hT rfl [] oVPgB22_37 (by decide +kernel) ?_; conv => whnf) | omega | (refine And.intro ?_ ?_; ((try dsimp only); first | omega | (refine szA rfl ?_; omega) | (refine szB rfl ?_; omega) | (unfold inI64; omega) | exact rfl | (simp only [lns] at *; omega) | decide | (unfold inI64; decide)); conv => whnf) | decide | assumption)
         all_goals try (exfalso; omega)
         refine LoopX.rule hT (C := []) (ι := List Int × Int × Bool × Nat) (fun (D, s, ch, i) => i ≤ n.length ∧ RelG n r C p D0 s0 D s ch (fun e => e.1 < (nwG n r).K + i)) (fun (D, s, ch, i) => mkSt [(0, .d (neds n)), (7, .ptr 24 0), (10, .ptr 10 0), (11, .buf 40), (12, .fn 61 []), (13, .d (.bool ch)), (14, .buf 44), (102, .d (.int .i64 n.length)), (103, .d (.int .i64 i))] (prvS n C D s ++ [(44, seqB 3 1 iF 0 E)])) (fun (_, _, _, i) => n.length - i) (D, s0, ch, 0) ⟨by show 0 ≤ _; omega, hRk.weak (fun e _ q => by have q : e.1 < (nwG n r).K + 0 := q; omega)⟩ ?_ ?_
         · exact Entails.mk' [(24, 24), (10, 10), (40, 40), (44, 44)] rfl rfl ⟨lr, lr, lr, lr, lr, lr, lr, lr, lr, trivial⟩ ⟨rr, rr, rr, rr, trivial⟩
         clear hRk hEg hkC
         rintro ⟨D, s, ch, i⟩ ⟨hi, hRi⟩
         have hi : i ≤ n.length := hi
         have hRi : RelG n r C p D0 s0 D s ch (fun e => e.1 < (nwG n r).K + i) := hRi
         have e1 : (i : Int).toNat = i := Int.toNat_natCast i
         have hbi := hRi.b hI hn0 hr0
         have hDl := hbi.1
         have hhl : (havL n).length = n.length := fillA_length
         rcases Nat.lt_or_ge i n.length with hin | hin
         · have v1 := hbi.2.1 i hin
           have v2 := hEK i hin
           have v3 := (hI.gon hn0 hin).2
           have v4 := (havF_bd hn0 i).1
           rw [← getI_hav hin] at v4
           unfold getI at v2 v4
           have v5 : 0 ≤ gonF (nwG n r) (floA C) (nwG n r).K i ∧ gonF (nwG n r) (floA C) (nwG n r).K i ≤ 20 := v3
           have v2 : E.getD i 0 = gonF (nwG n r) (floA C) (nwG n r).K i := v2
           have hop := hI.op hn0 hr0
           have hKi : (i : Int).toNat < (nwG n r).N := by rw [e1]; exact hin
           have hnK : ¬ (nwG n r).K + (i : Int).toNat < (nwG n r).K := by omega
           have hsub : (nwG n r).K + (i : Int).toNat - (nwG n r).K = i := by omega
           have hsplit : ∀ e : Nat × Bool, e.1 < (nwG n r).K + (i + 1) → e.1 < (nwG n r).K + i ∨ e = ((nwG n r).K + (i : Int).toNat, false) ∨ e = ((nwG n r).K + (i : Int).toNat, true) := fun e q => by
            obtain ⟨a, b⟩ := e
            have q : a < (nwG n r).K + (i + 1) := q
            by_cases z : a < (nwG n r).K + i
            · exact .inl z
            · have : a = (nwG n r).K + (i : Int).toNat := by omega
              subst this
              cases b
              · exact .inr (.inl rfl)
              · exact .inr (.inr rfl)
           have hopn : ∀ b, opnG n r C ((nwG n r).K + (i : Int).toNat, b) → 0 < (havL n).getD i 0 ∧ (b = false → E.getD i 0 < (havL n).getD i 0) ∧ (b = true → 0 < E.getD i 0) := fun b he => by
            have := he.2.2 hnK
            rw [show ((nwG n r).K + (i : Int).toNat, b).1 - (nwG n r).K = i from hsub] at this
            rw [v2]; exact this
           have hmk : ∀ b, 0 < (havL n).getD i 0 → (b = false → E.getD i 0 < (havL n).getD i 0) → (b = true → 0 < E.getD i 0) → opnG n r C ((nwG n r).K + (i : Int).toNat, b) := fun b h1 h2 h3 => by
            refine ⟨by show _ + _ < _ + _; omega, fun q => absurd q hnK, fun _ => ?_⟩
            rw [show ((nwG n r).K + (i : Int).toNat, b).1 - (nwG n r).K = i from hsub]
            rw [v2] at h2 h3
            exact ⟨h1, h2, h3⟩
           by_cases z0 : (havL n).getD i 0 = 0
           · conv => whnf
             repeat' (first | (refine br_intro ?_ ?_ <;> intro hb <;> (try simp only [brs] at hb) <;> conv => whnf) | (refine RegX.rule (id := 8) hT rfl [] oVPgB22_8 (by decide +kernel) ?_; conv => whnf) | (refine RegX.rule (id := 17) hT rfl [] oVPgB22_17 (by decide +kernel) ?_; conv => whnf) | (refine RegX.rule (id := 18) hT rfl [] oVPgB22_18 (by decide +kernel) ?_; conv => whnf) | (refine RegX.rule (id := 20) hT rfl [] oVPgB22_20 (by decide +kernel) ?_; conv => whnf) | (refine RegX.rule (id := 26) hT rfl [] oVPgB22_26 (by decide +kernel) ?_; conv => whnf) | (refine RegX.rule (id := 27) hT rfl [] oVPgB22_27 (by decide +kernel) ?_; conv => whnf) | (refine RegX.rule (id := 37) hT rfl [] oVPgB22_37 (by decide +kernel) ?_; conv => whnf) | omega | (refine And.intro ?_ ?_; ((try dsimp only); first | omega | (refine szA rfl ?_; omega) | (refine szB rfl ?_; omega) | (unfold inI64; omega) | exact rfl | (simp only [lns] at *; omega) | decide | (unfold inI64; decide)); conv => whnf) | decide | assumption)
             all_goals try (exfalso; omega)
             refine ⟨(D, s, ch, i + 1), ⟨hin, hRi.weak (fun e he q => ?_)⟩, by show n.length - (i + 1) < n.length - i; omega, Entails.mk' [(24, 24), (10, 10), (40, 40), (44, 44)] rfl rfl ⟨lr, lr, lr, lr, lr, lr, lr, lr, lr, trivial⟩ ⟨rr, rr, rr, rr, trivial⟩⟩
             rcases hsplit e q with w | rfl | rfl
             · exact w
             · have := (hopn _ he).1; omega
             · have := (hopn _ he).1; omega
           · by_cases z1 : E.getD i 0 < (havL n).getD i 0
             · have hR1 := hRi.inn hGe hop hKi (hmk false (by omega) (fun _ => z1) (fun q => by cases q))
               obtain ⟨D1, hD1⟩ : ∃ D1, D1 = lwr D (i : Int).toNat s := ⟨_, rfl⟩
               have c1 := p61b D (i : Int).toNat s (by rw [hDl]; omega)
               rw [← hD1] at hR1 c1
               have hb1 := RelG.b hI hn0 hr0 hR1
               have hD1l := hb1.1
               by_cases z2 : 0 < E.getD i 0
               · have hR2 := hR1.out hGe hop hKi (hmk true (by omega) (fun q => by cases q) (fun _ => z2))
                 have c2 := p61a s (D1.getD (i : Int).toNat 0)
                 conv => whnf
                 repeat' (first | (refine CallX.of c1 [(1000000, 40)] rfl ⟨lr, lr, trivial⟩ ⟨rr, trivial⟩ rfl rfl ?_; rintro x' rout ⟨rfl, rfl⟩; refine ⟨rfl, ?_⟩; conv => whnf) | (refine CallX.of c2 [(1000000, 10)] rfl ⟨lr, lr, trivial⟩ ⟨rr, trivial⟩ rfl rfl ?_; rintro x' rout ⟨rfl, rfl⟩; refine ⟨rfl, ?_⟩; conv => whnf) | (refine br_intro ?_ ?_ <;> intro hb <;> (try simp only [brs] at hb) <;> conv => whnf) | (refine RegX.rule (id := 8) hT rfl [] oVPgB22_8 (by decide +kernel) ?_; conv => whnf) | (refine RegX.rule (id := 17) hT rfl [] oVPgB22_17 (by decide +kernel) ?_; conv => whnf) | (refine RegX.rule (id := 18) hT rfl [] oVPgB22_18 (by decide +kernel) ?_; conv => whnf) | (refine RegX.rule (id := 20) hT rfl [] oVPgB22_20 (by decide +kernel) ?_; conv => whnf) | (refine RegX.rule (id := 26) hT rfl [] oVPgB22_26 (by decide +kernel) ?_; conv => whnf) | (refine RegX.rule (id := 27) hT rfl [] oVPgB22_27 (by decide +kernel) ?_; conv => whnf) | (refine RegX.rule (id := 37) hT rfl [] oVPgB22_37 (by decide +kernel) ?_; conv => whnf) | omega | (refine And.intro ?_ ?_; ((try dsimp only); first | omega | (refine szA rfl ?_; omega) | (refine szB rfl ?_; omega) | (unfold inI64; omega) | exact rfl | (simp only [lns] at *; omega) | decide | (unfold inI64; decide)); conv => whnf) | decide | assumption)
                 all_goals try (exfalso; omega)
                 all_goals
                  refine ⟨(_, _, _, i + 1), ⟨hin, hR2.weak (fun e he q => ?_)⟩, by show n.length - (i + 1) < n.length - i; omega, Entails.mk' [(24, 24), (10, 10), (40, 40), (44, 44)] rfl rfl ⟨lr, lr, lr, lr, lr, SV.le_bool ?_, lr, lr, lr, trivial⟩ ⟨rr, rr, rr, rr, trivial⟩⟩
                 all_goals first
                  | (rcases hsplit e q with w | rfl | rfl
                     · exact .inl (.inl w)
                     · exact .inl (.inr rfl)
                     · exact .inr rfl)
                  | (rw [decide_eq_true (by simpa only [e1] using hb)]; rfl)
                  | (rename_i z1 z2
                     rw [decide_eq_false (by simpa only [e1, Int.not_lt] using hb)]
                     first
                      | (rw [decide_eq_true (by simpa only [e1] using z1)]; rfl)
                      | (rw [decide_eq_false (by simpa only [e1, Int.not_lt] using z1)]; rfl))
               · conv => whnf
                 repeat' (first | (refine CallX.of c1 [(1000000, 40)] rfl ⟨lr, lr, trivial⟩ ⟨rr, trivial⟩ rfl rfl ?_; rintro x' rout ⟨rfl, rfl⟩; refine ⟨rfl, ?_⟩; conv => whnf) | (refine br_intro ?_ ?_ <;> intro hb <;> (try simp only [brs] at hb) <;> conv => whnf) | (refine RegX.rule (id := 8) hT rfl [] oVPgB22_8 (by decide +kernel) ?_; conv => whnf) | (refine RegX.rule (id := 17) hT rfl [] oVPgB22_17 (by decide +kernel) ?_; conv => whnf) | (refine RegX.rule (id := 18) hT rfl [] oVPgB22_18 (by decide +kernel) ?_; conv => whnf) | (refine RegX.rule (id := 20) hT rfl [] oVPgB22_20 (by decide +kernel) ?_; conv => whnf) | (refine RegX.rule (id := 26) hT rfl [] oVPgB22_26 (by decide +kernel) ?_; conv => whnf) | (refine RegX.rule (id := 27) hT rfl [] oVPgB22_27 (by decide +kernel) ?_; conv => whnf) | (refine RegX.rule (id := 37) hT rfl [] oVPgB22_37 (by decide +kernel) ?_; conv => whnf) | omega | (refine And.intro ?_ ?_; ((try dsimp only); first | omega | (refine szA rfl ?_; omega) | (refine szB rfl ?_; omega) | (unfold inI64; omega) | exact rfl | (simp only [lns] at *; omega) | decide | (unfold inI64; decide)); conv => whnf) | decide | assumption)
                 all_goals try (exfalso; omega)
                 all_goals
                  refine ⟨(_, _, _, i + 1), ⟨hin, hR1.weak (fun e he q => ?_)⟩, by show n.length - (i + 1) < n.length - i; omega, Entails.mk' [(24, 24), (10, 10), (40, 40), (44, 44)] rfl rfl ⟨lr, lr, lr, lr, lr, SV.le_bool ?_, lr, lr, lr, trivial⟩ ⟨rr, rr, rr, rr, trivial⟩⟩
                 all_goals first
                  | (rcases hsplit e q with w | rfl | rfl
                     · exact .inl w
                     · exact .inr rfl
                     · exact absurd ((hopn _ he).2.2 rfl) z2)
                  | (rename_i z1
                     first
                      | (rw [decide_eq_true (by simpa only [e1] using z1)]; rfl)
                      | (rw [decide_eq_false (by simpa only [e1, Int.not_lt] using z1)]; rfl))
             · have z2 : 0 < E.getD i 0 := by omega
               have hR2 := hRi.out hGe hop hKi (hmk true (by omega) (fun q => by cases q) (fun _ => z2))
               have c2 := p61a s (D.getD (i : Int).toNat 0)
               conv => whnf
               repeat' (first | (refine CallX.of c2 [(1000000, 10)] rfl ⟨lr, lr, trivial⟩ ⟨rr, trivial⟩ rfl rfl ?_; rintro x' rout ⟨rfl, rfl⟩; refine ⟨rfl, ?_⟩; conv => whnf) | (refine br_intro ?_ ?_ <;> intro hb <;> (try simp only [brs] at hb) <;> conv => whnf) | (refine RegX.rule (id := 8) hT rfl [] oVPgB22_8 (by decide +kernel) ?_; conv => whnf) | (refine RegX.rule (id := 17) hT rfl [] oVPgB22_17 (by decide +kernel) ?_; conv => whnf) | (refine RegX.rule (id := 18) hT rfl [] oVPgB22_18 (by decide +kernel) ?_; conv => whnf) | (refine RegX.rule (id := 20) hT rfl [] oVPgB22_20 (by decide +kernel) ?_; conv => whnf) | (refine RegX.rule (id := 26) hT rfl [] oVPgB22_26 (by decide +kernel) ?_; conv => whnf) | (refine RegX.rule (id := 27) hT rfl [] oVPgB22_27 (by decide +kernel) ?_; conv => whnf) | (refine RegX.rule (id := 37) hT rfl [] oVPgB22_37 (by decide +kernel) ?_; conv => whnf) | omega | (refine And.intro ?_ ?_; ((try dsimp only); first | omega | (refine szA rfl ?_; omega) | (refine szB rfl ?_; omega) | (unfold inI64; omega) | exact rfl | (simp only [lns] at *; omega) | decide | (unfold inI64; decide)); conv => whnf) | decide | assumption)
               all_goals try (exfalso; omega)
               all_goals
                refine ⟨(_, _, _, i + 1), ⟨hin, hR2.weak (fun e he q => ?_)⟩, by show n.length - (i + 1) < n.length - i; omega, Entails.mk' [(24, 24), (10, 10), (40, 40), (44, 44)] rfl rfl ⟨lr, lr, lr, lr, lr, SV.le_bool ?_, lr, lr, lr, trivial⟩ ⟨rr, rr, rr, rr, trivial⟩⟩
               all_goals first
                | (rcases hsplit e q with w | rfl | rfl
                   · exact .inl w
                   · exact absurd ((hopn _ he).2.1 rfl) z1
                   · exact .inr rfl)
                | (rw [decide_eq_true (by simpa only [e1] using hb)]; rfl)
                | (rw [decide_eq_false (by simpa only [e1, Int.not_lt] using hb)]; rfl)
         · have hin : i = n.length := by omega
           have hall : ∀ e, opnG n r C e → e.1 < (nwG n r).K + i := fun e he => by rw [hin]; exact he.1
           have hlow := hRi.low hI hn0 hr0
           have hnew : RelG n r C p D s D s false (fun _ => ch = false) := ⟨hRi.len, hRi.pw, fun _ => ⟨⟨rfl, rfl⟩, fun e he hc => (hRi.no hc).2 e he (hall e he)⟩, fun q => by cases q⟩
           rw [hin]
           conv => whnf
           repeat' (first | (refine br_intro ?_ ?_ <;> intro hb <;> (try simp only [brs] at hb) <;> conv => whnf) | (refine RegX.rule (id := 8) hT rfl [] oVPgB22_8 (by decide +kernel) ?_; conv => whnf) | (refine RegX.rule (id := 17) hT rfl [] oVPgB22_17 (by decide +kernel) ?_; conv => whnf) | (refine RegX.rule (id := 18) hT rfl [] oVPgB22_18 (by decide +kernel) ?_; conv => whnf) | (refine RegX.rule (id := 20) hT rfl [] oVPgB22_20 (by decide +kernel) ?_; conv => whnf) | (refine RegX.rule (id := 26) hT rfl [] oVPgB22_26 (by decide +kernel) ?_; conv => whnf) | (refine RegX.rule (id := 27) hT rfl [] oVPgB22_27 (by decide +kernel) ?_; conv => whnf) | (refine RegX.rule (id := 37) hT rfl [] oVPgB22_37 (by decide +kernel) ?_; conv => whnf) | omega | (refine And.intro ?_ ?_; ((try dsimp only); first | omega | (refine szA rfl ?_; omega) | (refine szB rfl ?_; omega) | (unfold inI64; omega) | exact rfl | (simp only [lns] at *; omega) | decide | (unfold inI64; decide)); conv => whnf) | decide | assumption)
           all_goals try (exfalso; omega)
           refine ⟨(D, s, ch), hnew, ?_, Entails.mk' [(24, 24), (10, 10), (40, 40)] rfl rfl ⟨lr, lr, lr, lr, lr, lr, trivial⟩ ⟨rr, rr, rr, trivial⟩⟩
           show 2 * (su (dst (nwG n r).N D s) ((nwG n r).N + 1) + 200000000).toNat + (if ch = true then 1 else 0) < 2 * (su (dst (nwG n r).N D0 s0) ((nwG n r).N + 1) + 200000000).toNat + (if true = true then 1 else 0)
           cases hc : ch with
           | false => obtain ⟨⟨q1, q2⟩, _⟩ := hRi.no hc; rw [q1, q2]; simp
           | true => have := hRi.yes hc; simp; omega
   · refine .weak _ ?_
     conv => whnf
     exact ⟨.tup [.d (pris []), .d (.int .i64 12)], _, SV.le_tup ⟨SV.le_nilS, lr, trivial⟩, ⟨⟨[], 12, rfl, .inr ⟨⟨hn0, hr0⟩, .inl ⟨fun g hg => hno g ((Nw.Bip.fl (nwG_bip n r) (fun v hv hk => by rw [getI_hav hv]; have := kindB_get.1 hk; unfold havF; omega) (fun v hv hk => by rw [getI_wnt hv]; have := kindB_get.2 hk; unfold wntF; omega) g).2 hg), rfl, rfl⟩⟩⟩, rfl⟩, trivial⟩
 · repeat' (first | (refine CallX.exact (s113') rfl rfl ?_; rotate_right; conv => whnf) | (refine br_intro ?_ ?_ <;> intro hb <;> (try simp only [brs] at hb) <;> conv => whnf) | (refine RegX.rule (id := 8) hT rfl [] oVPgB22_8 (by decide +kernel) ?_; conv => whnf) | (refine RegX.rule (id := 17) hT rfl [] oVPgB22_17 (by decide +kernel) ?_; conv => whnf) | (refine RegX.rule (id := 18) hT rfl [] oVPgB22_18 (by decide +kernel) ?_; conv => whnf) | (refine RegX.rule (id := 20) hT rfl [] oVPgB22_20 (by decide +kernel) ?_; conv => whnf) | (refine RegX.rule (id := 26) hT rfl [] oVPgB22_26 (by decide +kernel) ?_; conv => whnf) | (refine RegX.rule (id := 27) hT rfl [] oVPgB22_27 (by decide +kernel) ?_; conv => whnf) | (refine RegX.rule (id := 37) hT rfl [] oVPgB22_37 (by decide +kernel) ?_; conv => whnf) | omega | (refine And.intro ?_ ?_; ((try dsimp only); first | omega | (refine szA rfl ?_; omega) | (refine szB rfl ?_; omega) | (unfold inI64; omega) | exact rfl | (simp only [lns] at *; omega) | decide | (unfold inI64; decide)); conv => whnf) | decide | assumption)
   all_goals try (exfalso; omega)
   refine .weak _ ?_
   conv => whnf
   exact ⟨.tup [.d (pris []), .d (.int .i64 E0)], _, SV.le_tup ⟨SV.le_nilS, lr, trivial⟩, ⟨⟨[], E0, rfl, .inl ⟨h0, hE0.symm, rfl⟩⟩, rfl⟩, trivial⟩
abbrev priS (n : List Ned) (l : List Pri) : Prop := n.length = l.length ∧ ∀ i, i < l.length → (n.getD i nd0).st = (l.getD i pr00).st
abbrev priB (l : List Pri) : Prop := ∀ i, i < l.length → -10000000 ≤ (l.getD i pr00).cents ∧ (l.getD i pr00).cents ≤ 10000000
def priE (n : List Ned) (l : List Pri) : Int := if ¬ priS n l then 3 else if ¬ priB l then 1 else 0
theorem priE_zero {n : List Ned} {l : List Pri} (h : priE n l = 0) : priS n l ∧ priB l := by
 unfold priE at h
 split at h
 · cases h
 · rename_i q
   split at h
   · cases h
   · rename_i q2
     exact ⟨Classical.not_not.1 q, Classical.not_not.1 q2⟩
def pc (l : List Pri) (v : Nat) : Int := (l.getD v pr00).cents
def buF (n : List Ned) (l : List Pri) (v : Nat) : Int := wntF n v * pc l v - havF n v * max 0 (pc l v)
def buX (n : List Ned) (l : List Pri) (x : Ar3) : Int := max 0 (pc l x.to - pc l x.fr - x.car) * min (havF n x.fr) (wntF n x.to)
def buC (n : List Ned) (r : List Roa) (l : List Pri) (i k : Nat) : Int := match arCell n r i k with
 | some x => buX n l x
 | none => 0
def bouN (n : List Ned) (r : List Roa) (l : List Pri) : Int := su (buF n l) n.length - su (fun j => buX n l ((arL n r).getD j a30)) (arL n r).length
def lsm {α : Type} (g : α → Int) (l : List α) : Int := (l.map g).sum
theorem lsm_app {α : Type} (g : α → Int) (a b : List α) : lsm g (a ++ b) = lsm g a + lsm g b := by unfold lsm; rw [List.map_append, List.sum_append]
theorem lsm_su {α : Type} (g : α → Int) (d : α) : ∀ l : List α, su (fun j => g (l.getD j d)) l.length = lsm g l := by
 have key : ∀ (l : List α) (k : Nat), k ≤ l.length → su (fun j => g (l.getD j d)) k = lsm g (l.take k) := by
  intro l k
  induction k with
  | zero => intro _; rfl
  | succ k ih =>
    intro hk
    rw [su, ih (by omega), take_getD (d := d) (by omega), lsm_app]
    congr 1
    unfold lsm; simp
 intro l
 rw [key l l.length (Nat.le_refl _), List.take_length]
theorem arPre_sum (n : List Ned) (r : List Roa) (l : List Pri) : ∀ i k, lsm (buX n l) (arPre n r i k) = su (fun i' => su (buC n r l i') n.length) i + su (buC n r l i) k
 | 0, 0 => rfl
 | i + 1, 0 => by
   rw [← arPre_next, arPre_sum n r l i n.length]
   show _ = su (fun i' => su (buC n r l i') n.length) i + su (buC n r l i) n.length + 0
   rw [Int.add_zero]
 | i, k + 1 => by
   rw [arPre_succ, lsm_app, arPre_sum n r l i k, su, Int.add_assoc]
   congr 2
   unfold buC
   cases arCell n r i k with
   | none => rfl
   | some x => show (List.map (buX n l) [x]).sum = _; simp
theorem bouN_eq (n : List Ned) (r : List Roa) (l : List Pri) : bouN n r l = su (fun i => buF n l i - su (fun k => buC n r l k i) n.length) n.length := by
 unfold bouN
 rw [lsm_su, ← arPre_all, arPre_sum]
 show _ - (_ + 0) = _
 rw [Int.add_zero, su_swap (fun i' k => buC n r l i' k) n.length n.length, su_sub]
theorem mul_bd {x y a b : Int} (h1 : 0 ≤ x ∧ x ≤ a) (h2 : -b ≤ y ∧ y ≤ b) : -(a * b) ≤ x * y ∧ x * y ≤ a * b := by
 have hb : 0 ≤ b := by omega
 have e1 : x * b ≤ a * b := Int.mul_le_mul_of_nonneg_right h1.2 hb
 have e2 : x * y ≤ x * b := Int.mul_le_mul_of_nonneg_left h2.2 h1.1
 have e3 : x * (-b) ≤ x * y := Int.mul_le_mul_of_nonneg_left h2.1 h1.1
 rw [Int.mul_neg] at e3
 omega
theorem mul_nb {x y a b : Int} (h1 : 0 ≤ x ∧ x ≤ a) (h2 : 0 ≤ y ∧ y ≤ b) : 0 ≤ x * y ∧ x * y ≤ a * b :=
 ⟨Int.mul_nonneg h1.1 h2.1, Int.mul_le_mul h1.2 h2.2 h2.1 (by omega)⟩
theorem pc_bd {l : List Pri} (h : priB l) (v : Nat) : -10000000 ≤ pc l v ∧ pc l v ≤ 10000000 := by
 rcases Nat.lt_or_ge v l.length with q | q
 · exact h v q
 · unfold pc; rw [List.getD_eq_getElem?_getD, List.getElem?_eq_none q]; decide
theorem buF_bd {n : List Ned} {l : List Pri} (hn : ndsE n = 0) (hl : priB l) (v : Nat) : -400000000 ≤ buF n l v ∧ buF n l v ≤ 400000000 := by
 have h1 := havF_bd hn v
 have h2 := pc_bd hl v
 have h3 := mul_bd h1.2 (b := 10000000) ⟨h2.1, h2.2⟩
 have h4 := mul_nb h1.1 (y := max 0 (pc l v)) (b := 10000000) ⟨by omega, by omega⟩
 unfold buF; omega
theorem buX_bd {n : List Ned} {l : List Pri} (hn : ndsE n = 0) (hl : priB l) {x : Ar3} (hx : 0 ≤ x.car) : 0 ≤ buX n l x ∧ buX n l x ≤ 400000000 := by
 have h1 := havF_bd hn x.fr
 have h2 := havF_bd hn x.to
 have h3 := pc_bd hl x.fr
 have h4 := pc_bd hl x.to
 have := mul_nb (x := max 0 (pc l x.to - pc l x.fr - x.car)) (a := 20000000) (y := min (havF n x.fr) (wntF n x.to)) (b := 20) ⟨by omega, by omega⟩ ⟨by omega, by omega⟩
 unfold buX; omega
theorem arCell_some {n : List Ned} {r : List Roa} {i k : Nat} {x : Ar3} (h : arCell n r i k = some x) : (x.fr = i ∧ x.to = k) ∧ (0 < manyP n i ∧ manyP n k < 0) ∧ wayO n r i k = some x.car := by
 unfold arCell at h
 split at h
 · rename_i q
   rw [Option.map_eq_some_iff] at h
   obtain ⟨c, hc, rfl⟩ := h
   exact ⟨⟨rfl, rfl⟩, q, hc⟩
 · cases h
theorem wayO_bd {n : List Ned} {r : List Roa} (hr : rdsE r = 0) {i k : Nat} {c : Int} (h : wayO n r i k = some c) : 0 ≤ c ∧ c ≤ 1000000 := by
 unfold wayO at h
 rw [Option.map_eq_some_iff] at h
 obtain ⟨x, hx, e⟩ := h
 have := (roadO_bd hr hx).1
 omega
theorem buC_bd {n : List Ned} {r : List Roa} {l : List Pri} (hn : ndsE n = 0) (hr : rdsE r = 0) (hl : priB l) (i k : Nat) : 0 ≤ buC n r l i k ∧ buC n r l i k ≤ 400000000 := by
 unfold buC
 cases h : arCell n r i k with
 | none => show 0 ≤ (0 : Int) ∧ (0 : Int) ≤ 400000000; omega
 | some x => exact buX_bd hn hl (wayO_bd hr (arCell_some h).2.2).1
theorem su_sb {F : Nat → Int} {b : Int} (hb : 0 ≤ b) : ∀ {n : Nat}, (∀ v, v < n → -b ≤ F v ∧ F v ≤ b) → -(b * n) ≤ su F n ∧ su F n ≤ b * n
 | 0, _ => by simp [su]
 | n + 1, h => by
   have := su_sb hb (n := n) (fun v hv => h v (by omega))
   have h2 := h n (by omega)
   have h3 : b * ((n + 1 : Nat) : Int) = b * n + b := by rw [Int.natCast_add, Int.mul_add]; simp
   rw [su]; omega
end Go.Proofs.YteehenjdddlnnaaGreatDoor
