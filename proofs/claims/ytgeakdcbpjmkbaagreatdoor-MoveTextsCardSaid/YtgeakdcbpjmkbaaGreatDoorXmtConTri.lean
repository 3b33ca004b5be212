/- MoveTexts is proved: for every input the law returns true, and its argument reads afterwards as it read before. Conditions: those of the given row alone. -/
import Derived.Test.YtgeakdcbpjmkbaaGreatDoorXmtConTwo
import Derived.Test.YtgeakdcbpjmkbaaGreatDoorXmtConOne
import Derived.Test.YtgeakdcbpjmkbaaGreatDoorXmtEngTwo
set_option linter.unusedVariables false
set_option linter.unusedSimpArgs false
set_option maxRecDepth 20000
namespace Go.Proofs.YtgeakdcbpjmkbaaGreatDoor
open Go Go.Eng
theorem Res.le_mapW {ag va : Bool} {ks : List KK} {zr : List DV} {has has' : List DV → Bool} {val val' : List DV → List DV} (h : ∀ key, wk ks key = true → has key = has' key ∧ (has key = true → ∀ G v, RowDen G va (val key) v → RowDen G va (val' key) v) ∧ (has key = false → val' key = zr)) :
 Res.le (.map ag va ks zr has val) (.map ag va ks zr has' val') := by
 refine ⟨rfl, fun G β w d => ?_⟩
 rintro ⟨r, es, clock, l, h1, h2, h3, h4, h5, h6⟩
 refine ⟨r, es, clock, l, h1, h2, h3, h4, h5, fun key hk => ?_⟩
 have := h6 key hk
 obtain ⟨q1, q2, q3⟩ := h key hk
 split at this
 · exact ⟨by rw [← q1]; exact this.1, q2 this.1 _ _ this.2⟩
 · exact ⟨by rw [← q1]; exact this.1, q3 this.1⟩
theorem KB_stamp {ks : List KK} {has : List DV → Bool} {clock : Nat} {kb : List (List DV × Nat)} (hk : KB ks has clock kb) {p q : List DV × Nat} (hp : p ∈ kb) (hq : q ∈ kb) : (p.2 = q.2 ↔ p.1 = q.1) := by
 obtain ⟨i, hi, rfl⟩ := List.getElem_of_mem hp
 obtain ⟨j, hj, rfl⟩ := List.getElem_of_mem hq
 have h1 : ∀ i j (hi : i < kb.length) (hj : j < kb.length), i < j → kb[i].2 < kb[j].2 := fun i j hi hj hij => by
  have := List.pairwise_iff_getElem.1 hk.ki i j (by simpa using hi) (by simpa using hj) hij
  simpa using this
 have h2 : ∀ i j (hi : i < kb.length) (hj : j < kb.length), i < j → kb[i].1 ≠ kb[j].1 := fun i j hi hj hij e => by
  have := List.pairwise_iff_getElem.1 hk.kd i j (by simpa using hi) (by simpa using hj) hij
  rw [List.getElem_map, List.getElem_map, ← e, keyEq_refl (hk.kw _ (List.getElem_mem hi))] at this
  cases this
 rcases Nat.lt_trichotomy i j with c | c | c
 · have := h1 i j hi hj c
   exact ⟨fun e => by omega, fun e => absurd e (h2 i j hi hj c)⟩
 · subst c; exact ⟨fun _ => rfl, fun _ => rfl⟩
 · have := h1 j i hj hi c
   exact ⟨fun e => by omega, fun e => absurd e.symm (h2 j i hj hi c)⟩
def bndM (J L : Nat) (C : Int) (M : PMap Mov) : Prop := ∀ σ q, M σ = some q → (q.l.length ≤ L ∧ ∀ m ∈ q.l, mvS m) ∧ (0 ≤ q.cost ∧ q.cost ≤ C) ∧ σ.length = J
theorem insM_c {J L : Nat} {C : Int} {M : PMap Mov} (h : bndM J L C M) {σ : List UInt8} {p : Pla Mov} (hp : (p.l.length ≤ L ∧ ∀ m ∈ p.l, mvS m) ∧ (0 ≤ p.cost ∧ p.cost ≤ C) ∧ σ.length = J) : bndM J L C (insM mvC M σ p) := by
 intro τ q hq
 unfold insM at hq
 split at hq
 · rename_i e
   subst e
   cases hM : M τ with
   | none => rw [hM] at hq; cases hq; exact hp
   | some old =>
     rw [hM] at hq
     simp only at hq
     split at hq
     · cases hq; exact hp
     · cases hq; exact h τ _ hM
 · exact h τ q hq
theorem rep_c {J L : Nat} {C : Int} {F : Int → PMap Mov → PMap Mov} : ∀ {n : Nat} {M : PMap Mov}, bndM J L C M → (∀ k M, 1 ≤ k → k ≤ (n : Int) → bndM J L C M → bndM J L C (F k M)) → bndM J L C (rep F n M)
 | 0, _, h, _ => h
 | n + 1, M, h, hF => by
   rw [rep]
   exact hF _ _ (by omega) (by omega) (rep_c h fun k M h1 h2 hM => hF k M h1 (by omega) hM)
theorem sendM_c {r : List Roa} {fr : List UInt8} {want : List (List UInt8)} {s : Stn Mov} (hs : SndO r fr want s) (hr : rdsE r = 0) {L : Nat} {C : Int} : ∀ (d k : Nat) (st : List UInt8) (left : Int) (p : Pla Mov) (M : PMap Mov), k + d = want.length → st.length = want.length → (p.l.length + d ≤ L ∧ ∀ m ∈ p.l, mvS m) → (0 ≤ left ∧ left ≤ 20) → 0 ≤ p.cost → p.cost + left * 1000000 ≤ C → bndM want.length L C M → bndM want.length L C (sendM mvC s d k st left p M) := by
 intro d
 induction d with
 | zero => intro k st left p M _ hst hp h1 h2 h3 hM; rw [sendM]; exact insM_c hM ⟨⟨by omega, hp.2⟩, ⟨h2, by omega⟩, hst⟩
 | succ d ih =>
   intro k st left p M hk hst hp h1 h2 h3 hM
   have h0 := ih (k + 1) st left p M (by omega) hst ⟨by omega, hp.2⟩ h1 h2 h3 hM
   rw [sendM, hs.way k (by omega)]
   cases q : roadO r fr (want.getD k []) with
   | none => exact h0
   | some x =>
     have hx := (roadO_bd hr q).1
     refine rep_c h0 fun n M' n1 n2 hM' => ?_
     have hm : 0 ≤ n * x.car := Int.mul_nonneg (by omega) hx.1
     have hm2 : n * x.car ≤ n * 1000000 := Int.mul_le_mul_of_nonneg_left hx.2 (by omega)
     have hm3 : (left - n) * 1000000 = left * 1000000 - n * 1000000 := Int.sub_mul _ _ _
     rw [hs.mv k n (by omega)]
     refine ih (k + 1) _ _ _ _ (by omega) (by rw [stL_len]; exact hst) ⟨?_, fun m hm => ?_⟩ (by omega) ?_ ?_ hM'
     · show (p.l ++ _).length + d ≤ L
       rw [List.length_append]; simp; omega
     · rcases List.mem_append.1 hm with z | z
       · exact hp.2 m z
       · have : m = ⟨fr, want.getD k [], n⟩ := by simpa using z
         subst this
         exact ⟨by show -1000000 ≤ n; omega, by show n ≤ 1000000; omega⟩
     · show 0 ≤ p.cost + n * x.car; omega
     · show p.cost + n * x.car + (left - n) * 1000000 ≤ C; omega
def filK (p : Nat → Bool) (i : Nat) : List Nat := (List.range i).filter p
theorem filK_succ (p : Nat → Bool) (i : Nat) : filK p (i + 1) = filK p i ++ (if p i = true then [i] else []) := by
 unfold filK
 rw [List.range_succ, List.filter_append]
 by_cases h : p i = true
 · rw [if_pos h, List.filter_cons_of_pos h]; rfl
 · rw [if_neg h, List.filter_cons_of_neg h]; rfl
theorem filK_len (p : Nat → Bool) (i : Nat) : (filK p i).length ≤ i := by
 have := List.length_filter_le p (List.range i)
 rw [List.length_range] at this; exact this
theorem filK_at (p : Nat → Bool) {i : Nat} (hp : p i = true) : ∀ {N : Nat}, i < N → (filK p N)[(filK p i).length]? = some i
 | 0, h => absurd h (Nat.not_lt_zero _)
 | N + 1, h => by
   rw [filK_succ]
   by_cases e : i = N
   · subst e
     rw [if_pos hp, List.getElem?_append_right (Nat.le_refl _)]; simp
   · have := filK_at p hp (N := N) (by omega)
     rw [List.getElem?_append_left (List.getElem?_eq_some_iff.1 this).1]; exact this
def srcP (n : List Ned) (i : Nat) : Bool := decide (0 < manyP n i)
def dstP (n : List Ned) (i : Nat) : Bool := decide (manyP n i < 0)
def wanS (n : List Ned) (i : Nat) : List (List UInt8) := (filK (dstP n) i).map fun k => (n.getD k nd0).st
def byS (n : List Ned) (i : Nat) : List UInt8 := (filK (dstP n) i).map fun k => UInt8.ofNat (0 - manyP n k).toNat
theorem nsN_at {n : List Ned} {i : Nat} (hi : i < n.length) (h : srcP n i = true) : nsN n (filK (srcP n) i).length = i := by
 have := filK_at (srcP n) h hi
 unfold nsN
 rw [List.getD_eq_getElem?_getD, show srcL n = filK (srcP n) n.length from rfl, this]; rfl
theorem sndO_at {n : List Ned} {r : List Roa} {i : Nat} (hi : i < n.length) (h : srcP n i = true) : SndO r (n.getD i nd0).st (wanS n n.length) (stnN n r (filK (srcP n) i).length) := by
 have e : ∀ k, k < (wanS n n.length).length → (wanS n n.length).getD k [] = (n.getD (nwN n k) nd0).st := fun k hk => by
  unfold wanS at hk ⊢
  rw [List.length_map] at hk
  unfold nwN
  have e2 : (dstL n).getD k 0 = (filK (dstP n) n.length)[k] := by rw [show dstL n = filK (dstP n) n.length from rfl, List.getD_eq_getElem?_getD, List.getElem?_eq_getElem hk]; rfl
  rw [e2, List.getD_eq_getElem?_getD, List.getElem?_map, List.getElem?_eq_getElem hk]; rfl
 refine ⟨fun k hk => ?_, fun k v hk => ?_⟩
 · show wayO n r (nsN n _) (nwN n k) = _
   rw [nsN_at hi h, e k hk]; rfl
 · show Mov.mk (n.getD (nsN n _) nd0).st (n.getD (nwN n k) nd0).st v = _
   rw [nsN_at hi h, e k hk]
def plL : Option (Pla Mov) → List Mov
 | none => []
 | some q => q.l
theorem plan_nil {X : Nat → Prop} {G : Hp} {v : Value} (h : RowDen G true [.nilsl, .int .i64 0] v) : RowDen G true (pzF X ⟨[], 0⟩) v := by
 obtain ⟨vs, h1, h2, h3⟩ := h
 refine ⟨vs, h1, h2, fun i x u hx hu => ?_⟩
 match i, hx with
 | 0, hx =>
   have := h3 0 .nilsl u rfl hu
   cases this
   cases hx
   exact .frsnil _ _ _ _
 | 1, hx => cases hx; exact h3 1 _ u rfl hu
theorem pmR_one {X : Nat → Prop} (σ0 : List UInt8) : Res.le (.map false true [.str] [.nilsl, .int .i64 0] (fun q => keyEq q [.str σ0] || false) (fun q => bif keyEq q [.str σ0] then [.nilsl, .int .i64 0] else [.nilsl, .int .i64 0])) (pmR X fun τ => if τ = σ0 then some ⟨[], 0⟩ else none) := Res.le_mapW fun K hK => by
 obtain ⟨s, rfl⟩ := wk_str hK
 rw [keyEq_str]
 unfold pmH pmV
 show (decide (s = σ0) || false) = (if s = σ0 then some (⟨[], 0⟩ : Pla Mov) else none).isSome ∧ _ ∧ _
 by_cases q : s = σ0
 · rw [decide_eq_true q, if_pos q]
   refine ⟨rfl, fun _ G v h => ?_, fun h => (by cases h)⟩
   show RowDen G true (pzV X (if s = σ0 then some ⟨[], 0⟩ else none)) v
   rw [if_pos q]; exact plan_nil h
 · rw [decide_eq_false q, if_neg q]
   refine ⟨rfl, fun h => (by cases h), fun _ => ?_⟩
   show pzV X (if s = σ0 then some ⟨[], 0⟩ else none) = _
   rw [if_neg q]; rfl
theorem runPM_snoc (s : Stn Mov) (J : Nat) (E : List (List UInt8 × Pla Mov)) (e : List UInt8 × Pla Mov) (M : PMap Mov) : runPM mvC s J (E ++ [e]) M = sendM mvC s J 0 e.1 s.many e.2 (runPM mvC s J E M) := by
 unfold runPM; rw [List.foldl_append]; rfl
theorem wanS_succ (n : List Ned) (i : Nat) : wanS n (i + 1) = wanS n i ++ (if manyP n i < 0 then [(n.getD i nd0).st] else []) := by
 unfold wanS
 rw [filK_succ, List.map_append]
 congr 1
 unfold dstP
 by_cases h : manyP n i < 0
 · rw [if_pos h, if_pos (decide_eq_true h)]; rfl
 · rw [if_neg h, if_neg (by simpa using h)]; rfl
theorem byS_succ (n : List Ned) (i : Nat) : byS n (i + 1) = byS n i ++ (if manyP n i < 0 then [UInt8.ofNat (0 - manyP n i).toNat] else []) := by
 unfold byS
 rw [filK_succ, List.map_append]
 congr 1
 unfold dstP
 by_cases h : manyP n i < 0
 · rw [if_pos h, if_pos (decide_eq_true h)]; rfl
 · rw [if_neg h, if_neg (by simpa using h)]; rfl
theorem byS_len (n : List Ned) (i : Nat) : (byS n i).length = (wanS n i).length := by unfold byS wanS; rw [List.length_map, List.length_map]
theorem wanS_len (n : List Ned) (i : Nat) : (wanS n i).length ≤ i := by unfold wanS; rw [List.length_map]; exact filK_len _ _
structure NowI (n : List Ned) (r : List Roa) (i : Nat) (M : PMap Mov) : Prop where
 min : MinOf mvC M (Full (wanS n n.length).length (byS n n.length) (firstL (stnN n r) (filK (srcP n) i).length))
 bnd : bndM (wanS n n.length).length (i * (wanS n n.length).length) ((i : Int) * 20000000) M
theorem nowI_init (n : List Ned) (r : List Roa) : NowI n r 0 (fun τ => if τ = byS n n.length then some ⟨[], 0⟩ else none) := by
 refine ⟨now_init mvC mvC_ord _ _, fun σ q h => ?_⟩
 split at h
 · rename_i e
   cases h
   refine ⟨⟨by simp, fun m hm => by cases hm⟩, ⟨Int.le_refl _, by simp⟩, by rw [e]; exact byS_len _ _⟩
 · cases h
theorem NowI.skip {n : List Ned} {r : List Roa} {i : Nat} {M : PMap Mov} (h : NowI n r i M) (hp : ¬ 0 < manyP n i) : NowI n r (i + 1) M := by
 have e : filK (srcP n) (i + 1) = filK (srcP n) i := by
  rw [filK_succ, if_neg (by unfold srcP; simpa using hp), List.append_nil]
 refine ⟨by rw [e]; exact h.min, fun σ q hq => ?_⟩
 obtain ⟨⟨h1, h2⟩, h3, h4⟩ := h.bnd σ q hq
 have e2 : (i + 1) * (wanS n n.length).length = i * (wanS n n.length).length + (wanS n n.length).length := Nat.succ_mul _ _
 exact ⟨⟨by omega, h2⟩, ⟨h3.1, by omega⟩, h4⟩
theorem NowI.next {n : List Ned} {r : List Roa} {i : Nat} {M : PMap Mov} (h : NowI n r i M) (hi : i < n.length) (hp : 0 < manyP n i) (hp2 : manyP n i ≤ 20) (hr : rdsE r = 0) {E : List (List UInt8 × Pla Mov)} (hE : ∀ σ p, (σ, p) ∈ E ↔ M σ = some p) :
 NowI n r (i + 1) (runPM mvC (stnN n r (filK (srcP n) i).length) (wanS n n.length).length E fun _ => none) := by
 have hs : srcP n i = true := decide_eq_true hp
 have hns := nsN_at hi hs
 have hlen : (filK (srcP n) (i + 1)).length = (filK (srcP n) i).length + 1 := by rw [filK_succ, if_pos hs, List.length_append]; rfl
 refine ⟨?_, ?_⟩
 · rw [hlen]
   exact now_step (num := fun m : Mov => m.many) mvC_ord (fun s hs k v => by obtain ⟨j, _, rfl⟩ := firstL_mem hs; rfl) _ h.min hE
 · have e2 : (i + 1) * (wanS n n.length).length = i * (wanS n n.length).length + (wanS n n.length).length := Nat.succ_mul _ _
   have hmany : (stnN n r (filK (srcP n) i).length).many = manyP n i := by show manyP n (nsN n _) = _; rw [hns]
   have key : ∀ E' : List (List UInt8 × Pla Mov), (∀ e ∈ E', M e.1 = some e.2) → ∀ N, bndM (wanS n n.length).length ((i + 1) * (wanS n n.length).length) (((i + 1 : Nat) : Int) * 20000000) N → bndM (wanS n n.length).length ((i + 1) * (wanS n n.length).length) (((i + 1 : Nat) : Int) * 20000000) (runPM mvC (stnN n r (filK (srcP n) i).length) (wanS n n.length).length E' N) := by
    intro E'
    induction E' with
    | nil => intro _ N hN; exact hN
    | cons e E' ih =>
      intro hE' N hN
      obtain ⟨⟨h1, h2⟩, h3, h4⟩ := h.bnd _ _ (hE' e (by simp))
      show bndM _ _ _ (runPM mvC _ _ E' (sendM mvC _ _ 0 e.1 _ e.2 N))
      refine ih (fun e' he' => hE' e' (by simp [he'])) _ ?_
      rw [hmany]
      exact sendM_c (sndO_at hi hs) hr _ 0 _ _ _ _ (Nat.zero_add _) h4 ⟨by omega, h2⟩ ⟨by omega, hp2⟩ h3.1 (by omega) hN
   exact key E (fun e he => (hE e.1 e.2).1 he) _ (fun σ q hq => by cases hq)
theorem Entails.froSlot {s : St} (i d kk n : Nat) (g : Nat → List DV) (hi : s.tmps i = .buf d) (hd : s.res d = some (.fro kk n g)) :
 Entails s (s.app ⟨some i, .d (.ro kk n g), [], []⟩) := by
 refine ⟨fun A a w => ?_⟩
 rintro ⟨h0, G, β, h⟩
 refine ⟨h0, G, β, h.sz, h.g0, h.e0, h.gw, h.gn, h.keep, fun j => ?_, h.rs, h.dj, h.og, h.sc⟩
 simp only [St.app, putT_apply]
 by_cases e : i = j
 · subst e
   simp only [if_true]
   have ht := h.tm i
   rw [hi] at ht
   generalize a.tmps.getD i Go.undef = v at ht
   obtain ⟨u, hu, hro⟩ := h.rs _ _ hd
   cases ht with | buf _ _ hb _ =>
   rw [hb] at hu; cases hu
   exact .d _ _ hro
 · rw [if_neg (by simp [e])]
   exact h.tm j
theorem bytes_zero (J : Nat) {g : Nat → List DV} (hg : ∀ i, g i = [.int .u8 0]) : bytesOf ((J : Int).toNat) g (List.replicate J 0) := by
 refine ⟨by simp, fun i hi => ?_⟩
 have hi : i < J := by simpa using hi
 rw [hg, List.getD_eq_getElem?_getD, List.getElem?_replicate, if_pos hi]; rfl
set_option maxHeartbeats 16000000 in
theorem p35x (X : Nat → Prop) (n : List Ned) (r : List Roa) (hn : ndsE n = 0) (hr : rdsE r = 0) : FSpec Tryz.prog 115 [.d (neds n), .d (roas r)] [(1000007, .inX X)]
 (fun y q => (∃ o, (∃ M, NowI n r n.length M ∧ o = M (List.replicate (wanS n n.length).length 0)) ∧ y = .tup [.d (.frs 67 3 (plL o).length X (rowF mvF mv0 (plL o))), .d (.bool o.isSome)]) ∧ q = [(1000007, .inX X)]) := by
 have hl := (nds_all hn).1
 have hrl := (rds_all hr).1
 have hmn := ned_many hn
 refine spec_of hT (C := [18]) Tryz.func115 rfl Tryz.call115 rfl rfl rfl ?_
 conv => whnf
 repeat' (first | (refine br_intro ?_ ?_ <;> intro hb <;> (try simp only [brs] at hb) <;> conv => whnf) | omega | (refine And.intro ?_ ?_; ((try dsimp only); first | omega | (refine szA rfl ?_; omega) | (refine szB rfl ?_; omega) | (unfold inI64; omega) | exact rfl | (simp only [List.toList_toArray, List.length_cons, List.length_nil]; omega) | (simp only [lns] at *; omega) | decide | (unfold inI64; decide)); conv => whnf) | decide | assumption)
 refine LoopX.rule hT (C := [18]) (ι := Nat) (fun i => i ≤ n.length) (fun i => mkSt [(0, .d (neds n)), (1, .d (roas r)), (6, .buf 601), (7, .buf 602), (19, .d (neds n)), (20, .d (.int .i64 n.length)), (21, .d (.int .i64 i))] [(1000007, .inX X), (601, seqB 9 1 sF [] (wanS n i)), (602, seqB 5 1 byteD 0 (byS n i))]) (fun i => n.length - i) 0 (by show 0 ≤ _; omega) ?_ ?_
 · refine (Entails.nil 6 601 9 1 (rowF sF [] []) rfl rfl (by decide)).trans ?_
   exact Entails.mk' [(1000007, 1000007), (601, 601), (602, 18)] rfl rfl ⟨lr, lr, lr, lr, lr, lr, lr, trivial⟩ ⟨rr, rr, Res.le_lit rfl rfl, trivial⟩
 rintro i hi
 have hi : i ≤ n.length := hi
 have e1 : (i : Int).toNat = i := Int.toNat_natCast i
 have hmi := hmn i
 unfold manyP at hmi
 rw [← e1] at hmi
 have hwl := wanS_len n i
 have hbl := byS_len n i
 rcases Nat.lt_or_ge i n.length with hin | hin
 · conv => whnf
   repeat' (first | (refine br_intro ?_ ?_ <;> intro hb <;> (try simp only [brs] at hb) <;> conv => whnf) | omega | (refine And.intro ?_ ?_; ((try dsimp only); first | omega | (refine szA rfl ?_; omega) | (refine szB rfl ?_; omega) | (unfold inI64; omega) | exact rfl | (simp only [List.toList_toArray, List.length_cons, List.length_nil]; omega) | (simp only [lns] at *; omega) | decide | (unfold inI64; decide)); conv => whnf) | decide | assumption)
   all_goals try (exfalso; omega)
   · have hbm : manyP n i < 0 := hb
     refine ⟨i + 1, by omega, by omega, Entails.mk' [(1000007, 1000007), (601, 32), (602, 39)] rfl rfl ⟨lr, lr, lr, lr, lr, lr, lr, trivial⟩ ⟨rr, ?_, ?_, trivial⟩⟩
     · show Res.le _ (seqB 9 1 sF [] (wanS n (i + 1)))
       rw [wanS_succ, if_pos hbm]
       exact Res.le_snocF rfl
     · show Res.le _ (seqB 5 1 byteD 0 (byS n (i + 1)))
       rw [byS_succ, if_pos hbm]
       refine Res.le_snocF ?_
       have hv : IntKind.u8.wrap (0 - manyP n i) = ((UInt8.ofNat (0 - manyP n i).toNat).toNat : Int) := by
        have := hmn i
        rw [IntWalk.u8_in _ (by omega), UInt8.toNat_ofNat']; omega
       exact congrArg (fun z => [DV.int IntKind.u8 z]) hv
   · have hbm : ¬ manyP n i < 0 := by unfold manyP; omega
     refine ⟨i + 1, by omega, by omega, Entails.mk' [(1000007, 1000007), (601, 601), (602, 602)] rfl rfl ⟨lr, lr, lr, lr, lr, lr, lr, trivial⟩ ⟨rr, ?_, ?_, trivial⟩⟩
     · show Res.le _ (seqB 9 1 sF [] (wanS n (i + 1)))
       rw [wanS_succ, if_neg hbm, List.append_nil]; exact rr
     · show Res.le _ (seqB 5 1 byteD 0 (byS n (i + 1)))
       rw [byS_succ, if_neg hbm, List.append_nil]; exact rr
 · have hin : i = n.length := by omega
   rw [hin] at hwl hbl ⊢
   clear hmi
   conv => whnf
   repeat' (first | (refine ⟨byS n n.length, ⟨rfl, fun _ _ => rfl⟩, ?_⟩; conv => whnf) | (refine br_intro ?_ ?_ <;> intro hb <;> (try simp only [brs] at hb) <;> conv => whnf) | omega | (refine And.intro ?_ ?_; ((try dsimp only); first | omega | (refine szA rfl ?_; omega) | (refine szB rfl ?_; omega) | (unfold inI64; omega) | exact rfl | (simp only [List.toList_toArray, List.length_cons, List.length_nil]; omega) | (simp only [lns] at *; omega) | decide | (unfold inI64; decide)); conv => whnf) | decide | assumption)
   all_goals try (exfalso; omega)
   refine LoopX.freeze 601 9 1 _ _ rfl ?_
   refine LoopX.rule hT (C := [18]) (ι := Nat × PMap Mov) (fun (i, M) => i ≤ n.length ∧ NowI n r i M) (fun (i, M) => mkSt [(1, .d (roas r)), (6, .d (strs (wanS n n.length))), (10, .mp 41), (46, .d (neds n)), (47, .d (.int .i64 n.length)), (48, .d (.int .i64 i))] [(1000007, .inX X), (41, pmR X M)]) (fun (i, _) => n.length - i) (0, fun τ => if τ = byS n n.length then some ⟨[], 0⟩ else none) ⟨by show 0 ≤ _; omega, nowI_init n r⟩ ?_ ?_
   · refine (Entails.froSlot 6 601 1 _ _ rfl rfl).trans ?_
     exact Entails.mk' [(1000007, 1000007), (41, 41)] rfl rfl ⟨lr, lr, lr, lr, lr, lr, trivial⟩ ⟨rr, pmR_one _, trivial⟩
   clear hin e1
   rintro ⟨i, M⟩ ⟨hi, hN⟩
   have hi : i ≤ n.length := hi
   have hN : NowI n r i M := hN
   have e1 : (i : Int).toNat = i := Int.toNat_natCast i
   have hmi := hmn i
   unfold manyP at hmi
   rw [← e1] at hmi
   rcases Nat.lt_or_ge i n.length with hin | hin
   · by_cases hpos : 0 < manyP n i
     · have hso := sndO_at (r := r) hin (decide_eq_true hpos)
       obtain ⟨s, hs⟩ : ∃ s, s = stnN n r (filK (srcP n) i).length := ⟨_, rfl⟩
       have hsm : s.many = (n.getD (i : Int).toNat nd0).many := by rw [hs, e1]; show manyP n (nsN n _) = _; rw [nsN_at hin (decide_eq_true hpos)]; rfl
       rw [← hs] at hso
       rw [← e1] at hso
       conv => whnf
       repeat' (first | (intro clock kb hkb; conv => whnf) | (refine br_intro ?_ ?_ <;> intro hb <;> (try simp only [brs] at hb) <;> conv => whnf) | omega | (refine And.intro ?_ ?_; ((try dsimp only); first | omega | (refine szA rfl ?_; omega) | (refine szB rfl ?_; omega) | (unfold inI64; omega) | exact rfl | (simp only [List.toList_toArray, List.length_cons, List.length_nil]; omega) | (simp only [lns] at *; omega) | decide | (unfold inI64; decide)); conv => whnf) | decide | assumption)
       all_goals try (exfalso; unfold manyP at hpos; omega)
       refine LoopX.rule hT (C := [18]) (ι := List Nat × List (List UInt8 × Pla Mov)) (fun (seen, E) => (∀ e ∈ E, M e.1 = some e.2) ∧ (∀ σ b, ([DV.str σ], b) ∈ kb → b ∈ seen → ∃ p, (σ, p) ∈ E) ∧ mapB (runPM mvC s (wanS n n.length).length E fun _ => none))
        (fun (seen, E) => mkSt [(1, .d (roas r)), (6, .d (strs (wanS n n.length))), (12, .ptr 12 0), (13, .mp 55), (46, .d (neds n)), (47, .d (.int .i64 n.length)), (48, .d (.int .i64 i)), (57, .ptr 57 0)] [(1000007, .inX X), (41, .mapB false true [.str] [.nilsl, .int .i64 0] (pmH M) (pmV X M) clock kb), (55, pmR X (runPM mvC s (wanS n n.length).length E fun _ => none)), (57, .iter 41 clock seen), (12, .cells 150 ((ndF (n.getD (i : Int).toNat nd0)).map .d))])
        (fun (seen, _) => (kb.filter fun p => !seen.contains p.2).length) ([], []) ⟨(fun e he => by cases he), (fun σ b _ hb => by cases hb), (fun σ q hq => by cases hq)⟩ ?_ ?_
       · exact Entails.mk' [(1000007, 1000007), (41, 41), (55, 55), (57, 57), (12, 12)] rfl rfl ⟨lr, lr, lr, lr, lr, lr, lr, lr, trivial⟩ ⟨rr, rr, Res.le_map (fun _ _ => ⟨rfl, rfl⟩), rr, rr, trivial⟩
       rintro ⟨seen, E⟩ ⟨g1, g2, g3⟩
       have g1 : ∀ e ∈ E, M e.1 = some e.2 := g1
       have g2 : ∀ σ b, ([DV.str σ], b) ∈ kb → b ∈ seen → ∃ p, (σ, p) ∈ E := g2
       have g3 : mapB (runPM mvC s (wanS n n.length).length E fun _ => none) := g3
       conv => whnf
       repeat' (first | (refine br_intro ?_ ?_ <;> intro hb <;> (try simp only [brs] at hb) <;> conv => whnf) | omega | (refine And.intro ?_ ?_; ((try dsimp only); first | omega | (refine szA rfl ?_; omega) | (refine szB rfl ?_; omega) | (unfold inI64; omega) | exact rfl | (simp only [List.toList_toArray, List.length_cons, List.length_nil]; omega) | (simp only [lns] at *; omega) | decide | (unfold inI64; decide)); conv => whnf) | decide | assumption)
       refine ⟨rfl, fun key b hkb1 hseen => ?_, fun hall => ?_⟩
       · obtain ⟨σ, rfl⟩ := wk_str (hkb.kw _ hkb1)
         have hhas : pmH M [.str σ] = true := (hkb.kh _ (hkb.kw _ hkb1)).2 ⟨_, hkb1⟩
         obtain ⟨p, hMp⟩ : ∃ p, M σ = some p := by
          have : (M σ).isSome = true := hhas
          cases h : M σ with
          | none => rw [h] at this; cases this
          | some p => exact ⟨p, rfl⟩
         have hv : pmV X M [.str σ] = pzF X p := by unfold pmV; rw [show M (keyS [.str σ]) = some p from hMp]; rfl
         obtain ⟨⟨b1, b2⟩, b3, b4⟩ := hN.bnd σ p hMp
         have hij : i * (wanS n n.length).length ≤ 10 * 10 := Nat.mul_le_mul (by omega) (by omega)
         have hroom : roomP p (n.getD (i : Int).toNat nd0).many (wanS n n.length).length := ⟨⟨by omega, b2⟩, ⟨by have : 0 < (n.getD i nd0).many := hpos; rw [e1]; omega, by omega⟩, b3.1, by omega⟩
         have h69 := p69 (X := X) hso hr (by omega) (wanS n n.length).length 0 σ (n.getD (i : Int).toNat nd0).many p (runPM mvC s (wanS n n.length).length E fun _ => none) (Nat.zero_add _) b4 hroom g3
         have hg3 : mapB (runPM mvC s (wanS n n.length).length (E ++ [(σ, p)]) fun _ => none) := by
          rw [runPM_snoc]
          refine sendM_b hso hr _ 0 _ _ _ _ (Nat.zero_add _) ?_ g3
          rw [hsm]; exact hroom
         conv => whnf
         repeat' (first | (rw [hv]; conv => whnf) | (refine ⟨rfl, _, hkb1, ?_⟩; conv => whnf) | (refine CallX.of h69 [(1000000, 55), (1000007, 1000007)] rfl ⟨lr, lr, lr, lr, lr, lr, lr, lr, trivial⟩ ⟨rr, rr, trivial⟩ rfl rfl ?_; rintro x' rout ⟨rfl, rfl⟩; refine ⟨rfl, ?_⟩; conv => whnf) | (refine br_intro ?_ ?_ <;> intro hb <;> (try simp only [brs] at hb) <;> conv => whnf) | omega | (refine And.intro ?_ ?_; ((try dsimp only); first | omega | (refine szA rfl ?_; omega) | (refine szB rfl ?_; omega) | (unfold inI64; omega) | exact rfl | (simp only [List.toList_toArray, List.length_cons, List.length_nil]; omega) | (simp only [lns] at *; omega) | decide | (unfold inI64; decide)); conv => whnf) | decide | assumption)
         all_goals try (exfalso; omega)
         refine ⟨(b :: seen, E ++ [(σ, p)]), ⟨fun e he => ?_, fun τ b2' hk2 hb2 => ?_, hg3⟩, ?_, Entails.mk' [(1000007, 1000007), (41, 41), (55, 55), (57, 57), (12, 12)] rfl rfl ⟨lr, lr, lr, lr, lr, lr, lr, lr, trivial⟩ ⟨rr, rr, ?_, rr, rr, trivial⟩⟩
         · rcases List.mem_append.1 he with q | q
           · exact g1 e q
           · have : e = (σ, p) := by simpa using q
             rw [this]; exact hMp
         · rcases List.mem_cons.1 hb2 with q | q
           · have hst := KB_stamp hkb hk2 hkb1
             have : ([DV.str τ] : List DV) = [.str σ] := hst.1 q
             have : τ = σ := by simpa using this
             exact ⟨p, List.mem_append_right _ (by rw [this]; simp)⟩
           · obtain ⟨p', hp'⟩ := g2 τ b2' hk2 q
             exact ⟨p', List.mem_append_left _ hp'⟩
         · show (kb.filter fun p => !(b :: seen).contains p.2).length < (kb.filter fun p => !seen.contains p.2).length
           have e : kb.filter (fun p => !(b :: seen).contains p.2) = (kb.filter fun p => !seen.contains p.2).filter fun p => !(p.2 == b) := by
            rw [List.filter_filter]
            refine List.filter_congr fun p _ => ?_
            simp [List.contains_cons, Bool.and_comm]
            rfl
           rw [e]
           refine Nat.lt_of_le_of_ne (List.length_filter_le _ _) (fun q => ?_)
           have := (List.length_filter_eq_length_iff.1 q) ([.str σ], b) (List.mem_filter.2 ⟨hkb1, by simpa using hseen⟩)
           simp at this
         · show Res.le _ (pmR X (runPM mvC s (wanS n n.length).length (E ++ [(σ, p)]) fun _ => none))
           refine pmR_eq fun s' => ?_
           rw [runPM_snoc, hsm]
       · have hE : ∀ σ p, (σ, p) ∈ E ↔ M σ = some p := fun σ p => ⟨fun h => g1 _ h, fun h => by
          have hhas : pmH M [.str σ] = true := by unfold pmH; rw [show M (keyS [.str σ]) = some p from h]; rfl
          obtain ⟨b, hb⟩ := (hkb.kh [.str σ] (by simp [wk, wk1])).1 hhas
          obtain ⟨p', hp'⟩ := g2 σ b hb (hall _ hb)
          have := g1 _ hp'
          have h3 : M σ = some p' := this
          rw [h] at h3; cases h3; exact hp'⟩
         have hnx := hN.next hin hpos (by have := hmn i; omega) hr hE
         rw [← hs] at hnx
         conv => whnf
         repeat' (first | (refine br_intro ?_ ?_ <;> intro hb <;> (try simp only [brs] at hb) <;> conv => whnf) | omega | (refine And.intro ?_ ?_; ((try dsimp only); first | omega | (refine szA rfl ?_; omega) | (refine szB rfl ?_; omega) | (unfold inI64; omega) | exact rfl | (simp only [List.toList_toArray, List.length_cons, List.length_nil]; omega) | (simp only [lns] at *; omega) | decide | (unfold inI64; decide)); conv => whnf) | decide | assumption)
         all_goals try (exfalso; omega)
         exact ⟨(i + 1, runPM mvC s (wanS n n.length).length E fun _ => none), ⟨by show i + 1 ≤ n.length; omega, hnx⟩, by show n.length - (i + 1) < n.length - i; omega, Entails.mk' [(1000007, 1000007), (41, 55)] rfl rfl ⟨lr, lr, lr, lr, lr, lr, trivial⟩ ⟨rr, rr, trivial⟩⟩
     · conv => whnf
       repeat' (first | (refine br_intro ?_ ?_ <;> intro hb <;> (try simp only [brs] at hb) <;> conv => whnf) | omega | (refine And.intro ?_ ?_; ((try dsimp only); first | omega | (refine szA rfl ?_; omega) | (refine szB rfl ?_; omega) | (unfold inI64; omega) | exact rfl | (simp only [List.toList_toArray, List.length_cons, List.length_nil]; omega) | (simp only [lns] at *; omega) | decide | (unfold inI64; decide)); conv => whnf) | decide | assumption)
       all_goals try (exfalso; unfold manyP at hpos; omega)
       exact ⟨(i + 1, M), ⟨by show i + 1 ≤ n.length; omega, hN.skip hpos⟩, by show n.length - (i + 1) < n.length - i; omega, Entails.mk' [(1000007, 1000007), (41, 41)] rfl rfl ⟨lr, lr, lr, lr, lr, lr, trivial⟩ ⟨rr, rr, trivial⟩⟩
   · have hin : i = n.length := by omega
     subst hin
     have hZ : ∀ o, M (List.replicate (wanS n n.length).length 0) = o → pmV X M [.str (List.replicate (wanS n n.length).length 0)] = pzV X o ∧ pmH M [.str (List.replicate (wanS n n.length).length 0)] = o.isSome := fun o h => by
      unfold pmV pmH
      rw [show M (keyS [.str (List.replicate (wanS n n.length).length 0)]) = o from h]
      exact ⟨rfl, rfl⟩
     cases hMo : M (List.replicate (wanS n n.length).length 0) with
     | none =>
       obtain ⟨hv, hh⟩ := hZ _ hMo
       have hv : pmV X M [.str (List.replicate (wanS n n.length).length 0)] = [.nilsl, .int .i64 0] := hv
       have hh : pmH M [.str (List.replicate (wanS n n.length).length 0)] = false := hh
       conv => whnf
       repeat' (first | (refine And.intro (rfl : zrow _ = some [.nilsl, .int .i64 0]) ?_; conv => whnf) | (refine ⟨List.replicate (wanS n n.length).length 0, bytes_zero _ (fun _ => rfl), ?_⟩; conv => whnf) | (rw [hv, hh]; conv => whnf) | (refine br_intro ?_ ?_ <;> intro hb <;> (try simp only [brs] at hb) <;> conv => whnf) | omega | (refine And.intro ?_ ?_; ((try dsimp only); first | omega | (refine szA rfl ?_; omega) | (refine szB rfl ?_; omega) | (unfold inI64; omega) | exact rfl | (simp only [List.toList_toArray, List.length_cons, List.length_nil]; omega) | (simp only [lns] at *; omega) | decide | (unfold inI64; decide)); conv => whnf) | decide | assumption)
       all_goals try (exfalso; omega)
       refine .weak _ ?_
       conv => whnf
       exact ⟨.tup [.d (frsM X []), .d (.bool false)], _, SV.le_tup ⟨SV.le_nilF, lr, trivial⟩, ⟨⟨none, ⟨M, hN, hMo.symm⟩, rfl⟩, rfl⟩, rr, trivial⟩
     | some q =>
       obtain ⟨hv, hh⟩ := hZ _ hMo
       have hv : pmV X M [.str (List.replicate (wanS n n.length).length 0)] = pzF X q := hv
       have hh : pmH M [.str (List.replicate (wanS n n.length).length 0)] = true := hh
       conv => whnf
       repeat' (first | (refine And.intro (rfl : zrow _ = some [.nilsl, .int .i64 0]) ?_; conv => whnf) | (refine ⟨List.replicate (wanS n n.length).length 0, bytes_zero _ (fun _ => rfl), ?_⟩; conv => whnf) | (rw [hv, hh]; conv => whnf) | (refine br_intro ?_ ?_ <;> intro hb <;> (try simp only [brs] at hb) <;> conv => whnf) | omega | (refine And.intro ?_ ?_; ((try dsimp only); first | omega | (refine szA rfl ?_; omega) | (refine szB rfl ?_; omega) | (unfold inI64; omega) | exact rfl | (simp only [List.toList_toArray, List.length_cons, List.length_nil]; omega) | (simp only [lns] at *; omega) | decide | (unfold inI64; decide)); conv => whnf) | decide | assumption)
       all_goals try (exfalso; omega)
       refine .weak _ ?_
       conv => whnf
       exact ⟨.tup [.d (frsM X q.l), .d (.bool true)], _, SV.le_tup ⟨lr, lr, trivial⟩, ⟨⟨some q, ⟨M, hN, hMo.symm⟩, rfl⟩, rfl⟩, rr, trivial⟩
theorem p35 (n : List Ned) (r : List Roa) (hn : ndsE n = 0) (hr : rdsE r = 0) : FSpec Tryz.prog 115 [.d (neds n), .d (roas r)] []
 (fun y q => ∃ o, (∃ M, NowI n r n.length M ∧ o = M (List.replicate (wanS n n.length).length 0)) ∧ (((plL o).length = 0 ∧ y = .tup [.d (.ro 3 0 (rowF mvF mv0 (plL o))), .d (.bool o.isSome)] ∧ q = []) ∨ (0 < (plL o).length ∧ y = .tup [.buf 7, .d (.bool o.isSome)] ∧ q = [(7, .buf 67 3 (plL o).length (rowF mvF mv0 (plL o)))]))) :=
 FSpec.thaw (S := fun o => ∃ M, NowI n r n.length M ∧ o = M (List.replicate (wanS n n.length).length 0)) (N := fun o => (plL o).length) (Gt := fun o => rowF mvF mv0 (plL o)) (B := fun o => o.isSome) (by decide) (fun X => p35x X n r hn hr) fun o _ i j x _ hx => by
  unfold rowF mvF at hx
  match j, hx with
  | 0, hx => cases hx; rfl
  | 1, hx => cases hx; rfl
  | 2, hx => cases hx; rfl
theorem pof_best {n : List Ned} {r : List Roa} {M : PMap Mov} (hn : ndsE n = 0) (hr : rdsE r = 0) (h : NowI n r n.length M) :
 match M (List.replicate (wanS n n.length).length 0) with
 | none => ∀ x, ¬ (nwG n r).Fl (kindB n) (getI (havL n)) (getI (wntL n)) x
 | some q => ∃ x, (nwG n r).Best (kindB n) (getI (havL n)) (getI (wntL n)) q.cost x ∧ q.l = lsV (mvN n r) (nwG n r).K 0 x := by
 have hJ : (wanS n n.length).length = (dstL n).length := by unfold wanS; rw [List.length_map]; rfl
 have hS : (filK (srcP n) n.length).length = (srcL n).length := rfl
 have hnow := h.min
 rw [hJ, hS] at hnow
 rw [hJ]
 have z1 : ∀ i, i < (srcL n).length → 0 ≤ (stnN n r i).many := fun i hi => by
  have := (srcL_at hi).2
  show 0 ≤ manyP n (nsN n i); omega
 have z2 : (byS n n.length).length = (dstL n).length := by
  rw [byS_len, hJ]
 have z3 : ∀ i, i < (srcL n).length → getI (havL n) (nsN n i) = (stnN n r i).many := fun i hi => by
  have := srcL_at hi
  rw [getI_hav this.1]
  show havF n (nsN n i) = manyP n (nsN n i)
  unfold havF; omega
 have z4 : ∀ v, v < (nwG n r).N → kindB n v = true → (∀ j, j < (srcL n).length → v ≠ nsN n j) → 0 ≤ getI (havL n) v := fun v hv _ _ => by
  rw [getI_hav hv]; exact (havF_bd hn v).1.1
 have z5 : ∀ k, k < (dstL n).length → getI (wntL n) (nwN n k) = (((byS n n.length).getD k 0).toNat : Int) := fun k hk => by
  have h1 := dstL_at hk
  rw [getI_wnt h1.1]
  have h2 := ned_many hn (nwN n k)
  have h3 : (byS n n.length).getD k 0 = UInt8.ofNat (0 - manyP n (nwN n k)).toNat := by
   have e2 : (dstL n).getD k 0 = (dstL n)[k] := by rw [List.getD_eq_getElem?_getD, List.getElem?_eq_getElem hk]; rfl
   unfold byS nwN
   rw [e2, List.getD_eq_getElem?_getD, List.getElem?_map, show filK (dstP n) n.length = dstL n from rfl, List.getElem?_eq_getElem hk]; rfl
  rw [h3, UInt8.toNat_ofNat']
  unfold wntF; omega
 have z6 : ∀ a b u v, a < b → b < (nwG n r).K → mvC (mvN n r a u) (mvN n r b v) < 0 := fun a b u v hab hb => by
  have h1 := nwG_inc (n := n) (r := r) hab hb
  refine mvC_ends ?_
  rcases h1 with q | ⟨q1, q2⟩
  · exact .inl (nds_inc hn q (arL_mem (nwG_at hb)).1.1)
  · exact .inr ⟨by rw [q1], nds_inc hn q2 (arL_mem (nwG_at hb)).2.1.1⟩
 have key := planOf_best (h := getI (havL n)) (w := getI (wntL n)) mvC_ord (num := fun m : Mov => m.many) (nwG_bip n r) (layN n r) (posN_zero n r) z1 z2 z3 z4 z5 (fun _ _ => rfl) (fun _ _ _ => rfl) (fun a u v huv => mvC_many huv) z6 hnow
 cases hM : M (List.replicate (dstL n).length 0) with
 | none => rw [hM] at key; exact key
 | some q => rw [hM] at key; exact key
theorem s221_0 : FSpec Tryz.prog 233 [.d (.int .u64 0)] [] (fun y r => (∃ m : Int, y = .d (.int .i64 m)) ∧ r = []) := by
 refine spec_of hT (C := []) Tryz.func233 rfl Tryz.call233 rfl rfl rfl ?_
 conv => whnf
 repeat' (first | (refine br_intro ?_ ?_ <;> intro hb <;> (try simp only [brs] at hb) <;> conv => whnf) | omega | (refine And.intro ?_ ?_; ((try dsimp only); first | omega | (refine szA rfl ?_; omega) | (refine szB rfl ?_; omega) | (unfold inI64; omega) | exact rfl | (simp only [List.toList_toArray, List.length_cons, List.length_nil]; omega) | (simp only [lns] at *; omega) | decide | (unfold inI64; decide)); conv => whnf) | decide | assumption)
 refine .ret _ ?_
 conv => whnf
 exact ⟨[], ⟨⟨_, rfl⟩, rfl⟩, trivial⟩
theorem s221_1 : FSpec Tryz.prog 233 [.d (.int .u64 1)] [] (fun y r => (∃ m : Int, y = .d (.int .i64 m)) ∧ r = []) := by
 refine spec_of hT (C := []) Tryz.func233 rfl Tryz.call233 rfl rfl rfl ?_
 conv => whnf
 repeat' (first | (refine br_intro ?_ ?_ <;> intro hb <;> (try simp only [brs] at hb) <;> conv => whnf) | omega | (refine And.intro ?_ ?_; ((try dsimp only); first | omega | (refine szA rfl ?_; omega) | (refine szB rfl ?_; omega) | (unfold inI64; omega) | exact rfl | (simp only [List.toList_toArray, List.length_cons, List.length_nil]; omega) | (simp only [lns] at *; omega) | decide | (unfold inI64; decide)); conv => whnf) | decide | assumption)
 refine .ret _ ?_
 conv => whnf
 exact ⟨[], ⟨⟨_, rfl⟩, rfl⟩, trivial⟩
theorem s221_2 : FSpec Tryz.prog 233 [.d (.int .u64 2)] [] (fun y r => (∃ m : Int, y = .d (.int .i64 m)) ∧ r = []) := by
 refine spec_of hT (C := []) Tryz.func233 rfl Tryz.call233 rfl rfl rfl ?_
 conv => whnf
 repeat' (first | (refine br_intro ?_ ?_ <;> intro hb <;> (try simp only [brs] at hb) <;> conv => whnf) | omega | (refine And.intro ?_ ?_; ((try dsimp only); first | omega | (refine szA rfl ?_; omega) | (refine szB rfl ?_; omega) | (unfold inI64; omega) | exact rfl | (simp only [List.toList_toArray, List.length_cons, List.length_nil]; omega) | (simp only [lns] at *; omega) | decide | (unfold inI64; decide)); conv => whnf) | decide | assumption)
 refine .ret _ ?_
 conv => whnf
 exact ⟨[], ⟨⟨_, rfl⟩, rfl⟩, trivial⟩
theorem s221_3 : FSpec Tryz.prog 233 [.d (.int .u64 3)] [] (fun y r => (∃ m : Int, y = .d (.int .i64 m)) ∧ r = []) := by
 refine spec_of hT (C := []) Tryz.func233 rfl Tryz.call233 rfl rfl rfl ?_
 conv => whnf
 repeat' (first | (refine br_intro ?_ ?_ <;> intro hb <;> (try simp only [brs] at hb) <;> conv => whnf) | omega | (refine And.intro ?_ ?_; ((try dsimp only); first | omega | (refine szA rfl ?_; omega) | (refine szB rfl ?_; omega) | (unfold inI64; omega) | exact rfl | (simp only [List.toList_toArray, List.length_cons, List.length_nil]; omega) | (simp only [lns] at *; omega) | decide | (unfold inI64; decide)); conv => whnf) | decide | assumption)
 refine .ret _ ?_
 conv => whnf
 exact ⟨[], ⟨⟨_, rfl⟩, rfl⟩, trivial⟩
theorem s221_4 : FSpec Tryz.prog 233 [.d (.int .u64 4)] [] (fun y r => (∃ m : Int, y = .d (.int .i64 m)) ∧ r = []) := by
 refine spec_of hT (C := []) Tryz.func233 rfl Tryz.call233 rfl rfl rfl ?_
 conv => whnf
 repeat' (first | (refine br_intro ?_ ?_ <;> intro hb <;> (try simp only [brs] at hb) <;> conv => whnf) | omega | (refine And.intro ?_ ?_; ((try dsimp only); first | omega | (refine szA rfl ?_; omega) | (refine szB rfl ?_; omega) | (unfold inI64; omega) | exact rfl | (simp only [List.toList_toArray, List.length_cons, List.length_nil]; omega) | (simp only [lns] at *; omega) | decide | (unfold inI64; decide)); conv => whnf) | decide | assumption)
 refine .ret _ ?_
 conv => whnf
 exact ⟨[], ⟨⟨_, rfl⟩, rfl⟩, trivial⟩
theorem s221_5 : FSpec Tryz.prog 233 [.d (.int .u64 5)] [] (fun y r => (∃ m : Int, y = .d (.int .i64 m)) ∧ r = []) := by
 refine spec_of hT (C := []) Tryz.func233 rfl Tryz.call233 rfl rfl rfl ?_
 conv => whnf
 repeat' (first | (refine br_intro ?_ ?_ <;> intro hb <;> (try simp only [brs] at hb) <;> conv => whnf) | omega | (refine And.intro ?_ ?_; ((try dsimp only); first | omega | (refine szA rfl ?_; omega) | (refine szB rfl ?_; omega) | (unfold inI64; omega) | exact rfl | (simp only [List.toList_toArray, List.length_cons, List.length_nil]; omega) | (simp only [lns] at *; omega) | decide | (unfold inI64; decide)); conv => whnf) | decide | assumption)
 refine .ret _ ?_
 conv => whnf
 exact ⟨[], ⟨⟨_, rfl⟩, rfl⟩, trivial⟩
theorem s221_6 : FSpec Tryz.prog 233 [.d (.int .u64 6)] [] (fun y r => (∃ m : Int, y = .d (.int .i64 m)) ∧ r = []) := by
 refine spec_of hT (C := []) Tryz.func233 rfl Tryz.call233 rfl rfl rfl ?_
 conv => whnf
 repeat' (first | (refine br_intro ?_ ?_ <;> intro hb <;> (try simp only [brs] at hb) <;> conv => whnf) | omega | (refine And.intro ?_ ?_; ((try dsimp only); first | omega | (refine szA rfl ?_; omega) | (refine szB rfl ?_; omega) | (unfold inI64; omega) | exact rfl | (simp only [List.toList_toArray, List.length_cons, List.length_nil]; omega) | (simp only [lns] at *; omega) | decide | (unfold inI64; decide)); conv => whnf) | decide | assumption)
 refine .ret _ ?_
 conv => whnf
 exact ⟨[], ⟨⟨_, rfl⟩, rfl⟩, trivial⟩
theorem s221_7 : FSpec Tryz.prog 233 [.d (.int .u64 7)] [] (fun y r => (∃ m : Int, y = .d (.int .i64 m)) ∧ r = []) := by
 refine spec_of hT (C := []) Tryz.func233 rfl Tryz.call233 rfl rfl rfl ?_
 conv => whnf
 repeat' (first | (refine br_intro ?_ ?_ <;> intro hb <;> (try simp only [brs] at hb) <;> conv => whnf) | omega | (refine And.intro ?_ ?_; ((try dsimp only); first | omega | (refine szA rfl ?_; omega) | (refine szB rfl ?_; omega) | (unfold inI64; omega) | exact rfl | (simp only [List.toList_toArray, List.length_cons, List.length_nil]; omega) | (simp only [lns] at *; omega) | decide | (unfold inI64; decide)); conv => whnf) | decide | assumption)
 refine .ret _ ?_
 conv => whnf
 exact ⟨[], ⟨⟨_, rfl⟩, rfl⟩, trivial⟩
theorem s221_8 : FSpec Tryz.prog 233 [.d (.int .u64 8)] [] (fun y r => (∃ m : Int, y = .d (.int .i64 m)) ∧ r = []) := by
 refine spec_of hT (C := []) Tryz.func233 rfl Tryz.call233 rfl rfl rfl ?_
 conv => whnf
 repeat' (first | (refine br_intro ?_ ?_ <;> intro hb <;> (try simp only [brs] at hb) <;> conv => whnf) | omega | (refine And.intro ?_ ?_; ((try dsimp only); first | omega | (refine szA rfl ?_; omega) | (refine szB rfl ?_; omega) | (unfold inI64; omega) | exact rfl | (simp only [List.toList_toArray, List.length_cons, List.length_nil]; omega) | (simp only [lns] at *; omega) | decide | (unfold inI64; decide)); conv => whnf) | decide | assumption)
 refine .ret _ ?_
 conv => whnf
 exact ⟨[], ⟨⟨_, rfl⟩, rfl⟩, trivial⟩
theorem s221_9 : FSpec Tryz.prog 233 [.d (.int .u64 9)] [] (fun y r => (∃ m : Int, y = .d (.int .i64 m)) ∧ r = []) := by
 refine spec_of hT (C := []) Tryz.func233 rfl Tryz.call233 rfl rfl rfl ?_
 conv => whnf
 repeat' (first | (refine br_intro ?_ ?_ <;> intro hb <;> (try simp only [brs] at hb) <;> conv => whnf) | omega | (refine And.intro ?_ ?_; ((try dsimp only); first | omega | (refine szA rfl ?_; omega) | (refine szB rfl ?_; omega) | (unfold inI64; omega) | exact rfl | (simp only [List.toList_toArray, List.length_cons, List.length_nil]; omega) | (simp only [lns] at *; omega) | decide | (unfold inI64; decide)); conv => whnf) | decide | assumption)
 refine .ret _ ?_
 conv => whnf
 exact ⟨[], ⟨⟨_, rfl⟩, rfl⟩, trivial⟩
theorem s221_10 : FSpec Tryz.prog 233 [.d (.int .u64 10)] [] (fun y r => (∃ m : Int, y = .d (.int .i64 m)) ∧ r = []) := by
 refine spec_of hT (C := []) Tryz.func233 rfl Tryz.call233 rfl rfl rfl ?_
 conv => whnf
 repeat' (first | (refine br_intro ?_ ?_ <;> intro hb <;> (try simp only [brs] at hb) <;> conv => whnf) | omega | (refine And.intro ?_ ?_; ((try dsimp only); first | omega | (refine szA rfl ?_; omega) | (refine szB rfl ?_; omega) | (unfold inI64; omega) | exact rfl | (simp only [List.toList_toArray, List.length_cons, List.length_nil]; omega) | (simp only [lns] at *; omega) | decide | (unfold inI64; decide)); conv => whnf) | decide | assumption)
 refine .ret _ ?_
 conv => whnf
 exact ⟨[], ⟨⟨_, rfl⟩, rfl⟩, trivial⟩
theorem s221_11 : FSpec Tryz.prog 233 [.d (.int .u64 11)] [] (fun y r => (∃ m : Int, y = .d (.int .i64 m)) ∧ r = []) := by
 refine spec_of hT (C := []) Tryz.func233 rfl Tryz.call233 rfl rfl rfl ?_
 conv => whnf
 repeat' (first | (refine br_intro ?_ ?_ <;> intro hb <;> (try simp only [brs] at hb) <;> conv => whnf) | omega | (refine And.intro ?_ ?_; ((try dsimp only); first | omega | (refine szA rfl ?_; omega) | (refine szB rfl ?_; omega) | (unfold inI64; omega) | exact rfl | (simp only [List.toList_toArray, List.length_cons, List.length_nil]; omega) | (simp only [lns] at *; omega) | decide | (unfold inI64; decide)); conv => whnf) | decide | assumption)
 refine .ret _ ?_
 conv => whnf
 exact ⟨[], ⟨⟨_, rfl⟩, rfl⟩, trivial⟩
theorem s221_12 : FSpec Tryz.prog 233 [.d (.int .u64 12)] [] (fun y r => (∃ m : Int, y = .d (.int .i64 m)) ∧ r = []) := by
 refine spec_of hT (C := []) Tryz.func233 rfl Tryz.call233 rfl rfl rfl ?_
 conv => whnf
 repeat' (first | (refine br_intro ?_ ?_ <;> intro hb <;> (try simp only [brs] at hb) <;> conv => whnf) | omega | (refine And.intro ?_ ?_; ((try dsimp only); first | omega | (refine szA rfl ?_; omega) | (refine szB rfl ?_; omega) | (unfold inI64; omega) | exact rfl | (simp only [List.toList_toArray, List.length_cons, List.length_nil]; omega) | (simp only [lns] at *; omega) | decide | (unfold inI64; decide)); conv => whnf) | decide | assumption)
 refine .ret _ ?_
 conv => whnf
 exact ⟨[], ⟨⟨_, rfl⟩, rfl⟩, trivial⟩
theorem s221 (n : Nat) (hn : n ≤ 12) : FSpec Tryz.prog 233 [.d (.int .u64 n)] [] (fun y r => (∃ m : Int, y = .d (.int .i64 m)) ∧ r = []) := by
 match n, hn with
 | 0, _ => exact s221_0
 | 1, _ => exact s221_1
 | 2, _ => exact s221_2
 | 3, _ => exact s221_3
 | 4, _ => exact s221_4
 | 5, _ => exact s221_5
 | 6, _ => exact s221_6
 | 7, _ => exact s221_7
 | 8, _ => exact s221_8
 | 9, _ => exact s221_9
 | 10, _ => exact s221_10
 | 11, _ => exact s221_11
 | 12, _ => exact s221_12
 | n + 13, h => omega
theorem wrap_u64 (n : Nat) (hn : n ≤ 12) : IntKind.u64.wrap n = n := by
 match n, hn with
 | 0, _ | 1, _ | 2, _ | 3, _ | 4, _ | 5, _ | 6, _ | 7, _ | 8, _ | 9, _ | 10, _ | 11, _ | 12, _ => decide
 | n + 13, h => omega
theorem sBitsLen (n : Nat) (hn : n ≤ 12) : FSpec Tryz.prog 185 [.d (.int .u64 (IntKind.u64.wrap n))] [] (fun y r => (∃ m : Int, y = .d (.int .i64 m)) ∧ r = []) := by
 rw [wrap_u64 n hn]
 refine spec_of hT (C := []) Tryz.func185 rfl Tryz.call185 rfl rfl rfl ?_
 conv => whnf
 repeat' (first | (refine br_intro ?_ ?_ <;> intro hb <;> (try simp only [brs] at hb) <;> conv => whnf) | omega | (refine And.intro ?_ ?_; ((try dsimp only); first | omega | (refine szA rfl ?_; omega) | (refine szB rfl ?_; omega) | (unfold inI64; omega) | exact rfl | (simp only [List.toList_toArray, List.length_cons, List.length_nil]; omega) | (simp only [lns] at *; omega) | decide | (unfold inI64; decide)); conv => whnf) | decide | assumption)
 refine CallX.of (s221 n hn) [] rfl ⟨lr, trivial⟩ trivial rfl rfl ?_
 rintro x rout ⟨⟨m, rfl⟩, rfl⟩
 refine ⟨rfl, ?_⟩
 conv => whnf
 refine .ret _ ?_
 conv => whnf
 exact ⟨[], ⟨⟨_, rfl⟩, rfl⟩, trivial⟩
structure Prg where
 a : Int
 b : Int
theorem prg_eq {a b : Prg} : a = b ↔ a.a = b.a ∧ a.b = b.b := by cases a; cases b; simp
instance : DecidableEq Prg := fun _ _ => decidable_of_iff _ prg_eq.symm
abbrev MSt := List Prg × Int
structure mOk (a b : List Mrk) (m : MSt) : Prop where
 ins : ∀ p ∈ m.1, ∃ i k : Nat, p = ⟨i, k⟩ ∧ i < a.length ∧ k < b.length
 sum : 0 ≤ m.2 ∧ m.2 ≤ 100000000 * m.1.length
def oXMvB224_4 : List (Nat × List Nat) := [(0, []), (1, [0]), (2, []), (3, []), (4, []), (5, [4]), (6, [4, 5]), (7, [4]), (8, [4]), (9, [4, 5, 6, 7, 8]), (10, [4, 5, 6, 7, 8, 9]), (11, [4, 5, 6, 7, 8, 9]), (12, [4, 5, 6, 7, 8]), (13, [4, 5, 6, 7, 8]), (14, []), (15, []), (16, [])]
def oXMvB224_6 : List (Nat × List Nat) := [(0, []), (1, [0]), (2, [0, 1]), (3, [0, 1, 2]), (4, [0, 1, 2]), (5, [0, 1, 2, 3, 4]), (6, [0, 1, 2, 3, 4, 5]), (7, [0, 1, 2, 3, 4, 5]), (8, [0, 1, 2, 3, 4]), (9, [0, 1, 2, 3, 4]), (10, [0, 1, 2, 3, 4, 5, 6, 7, 8, 9]), (11, [0, 1, 2, 3, 4, 5, 6, 7, 8, 9, 10]), (12, [0, 1, 2, 3, 4, 5, 6, 7, 8, 9]), (13, [0, 1, 2, 3, 4, 5, 6, 7, 8, 9]), (14, [2, 3, 4]), (15, [2, 3, 4]), (16, []), (17, [])]
def oXMvB184_17 : List (Nat × List Nat) := [(0, []), (1, []), (2, []), (3, []), (4, [3]), (5, [3, 4]), (6, [3, 4]), (7, [3]), (8, [3]), (9, [3, 4, 5, 6, 7, 8]), (10, [3, 4, 5, 6, 7, 8, 9]), (11, [3, 4, 5, 6, 7, 8]), (12, [3, 4, 5, 6, 7, 8]), (13, []), (14, []), (15, []), (16, [])]
def oXMvB119_6 : List (Nat × List Nat) := [(0, []), (1, [0]), (2, [0, 1]), (3, [0]), (4, [0]), (5, [0, 1, 2, 3, 4]), (6, [0, 1, 2, 3, 4, 5]), (7, [0, 1, 2, 3, 4, 5]), (8, [0, 1, 2, 3, 4]), (9, [0, 1, 2, 3, 4]), (10, [])]
def oXMvB119_11 : List (Nat × List Nat) := [(0, []), (1, [0]), (2, [0, 1]), (3, [0]), (4, [0]), (5, [0, 1, 2, 3, 4]), (6, [0, 1, 2, 3, 4, 5]), (7, [0, 1, 2, 3, 4, 5]), (8, [0, 1, 2, 3, 4]), (9, [0, 1, 2, 3, 4]), (10, []), (11, [])]
abbrev mvB (l : List Mov) : Res := seqB 67 3 mvF mv0 l
theorem z249 (g : FuncId) (cmp : Mov → Mov → Int) (l : List Mov) (hl : l.length ≤ 2^40)
 (hcmp : ∀ p q, p ∈ l → q ∈ l → FSpec Tryz.prog g [.agg ((mvF p).map .d), .agg ((mvF q).map .d)] [] (fun y r => y = .d (.int .i64 (cmp p q)) ∧ r = [])) :
 FSpec Tryz.prog 224 [.buf 1000001, .d (.int .i64 0), .d (.int .i64 l.length), .fn g []] [(1000001, seqB 67 3 mvF mv0 l)]
  (fun y r => y = .tup [] ∧ ∃ c, sameL l c ∧ r = [(1000001, seqB 67 3 mvF mv0 c)]) := by
 refine spec_of hT (C := []) Tryz.func224 rfl Tryz.call224 rfl rfl rfl ?_
 conv => whnf
 repeat' (first | (refine br_intro ?_ ?_ <;> intro hb <;> (try simp only [brs] at hb) <;> conv => whnf) | (refine RegX.rule (id := 4) hT rfl [] oXMvB224_4 (by decide +kernel) ?_; conv => whnf) | (refine RegX.rule (id := 6) hT rfl [] oXMvB224_6 (by decide +kernel) ?_; conv => whnf) | omega | (refine And.intro ?_ ?_; ((try dsimp only); first | omega | (refine szA rfl ?_; omega) | (refine szB rfl ?_; omega) | (unfold inI64; omega) | exact rfl | (simp only [List.toList_toArray, List.length_cons, List.length_nil]; omega) | (simp only [lns] at *; omega) | decide | (unfold inI64; decide)); conv => whnf) | decide | assumption)
 refine LoopX.rule hT (C := []) (ι := Nat × List Mov) (fun (i, c) => 1 ≤ i ∧ (i ≤ l.length ∨ i = 1) ∧ sameL l c)
  (fun (i, c) => mkSt [(0, .buf 1000001), (1, .d (.int .i64 0)), (2, .d (.int .i64 l.length)), (3, .fn g []), (8, .d (.int .i64 i))] [(1000001, seqB 67 3 mvF mv0 c)])
  (fun (i, _) => l.length - i) (1, l) ⟨by simp, by simp, rfl, fun x h => h⟩ (by (refine Entails.mk' [(1000001, 1000001)] rfl rfl ?_ ?_ <;> repeat' (first | exact True.intro | exact lr | exact rr | exact SV.le_int (by omega) | exact SV.le_any _ | refine And.intro ?_ ?_)); done) ?_
 rintro ⟨i, c⟩ ⟨p1, p2, p3⟩
 have hc0 := p3.1
 conv => whnf
 repeat' (first | (refine br_intro ?_ ?_ <;> intro hb <;> (try simp only [brs] at hb) <;> conv => whnf) | (refine RegX.rule (id := 4) hT rfl [] oXMvB224_4 (by decide +kernel) ?_; conv => whnf) | (refine RegX.rule (id := 6) hT rfl [] oXMvB224_6 (by decide +kernel) ?_; conv => whnf) | omega | (refine And.intro ?_ ?_; ((try dsimp only); first | omega | (refine szA rfl ?_; omega) | (refine szB rfl ?_; omega) | (unfold inI64; omega) | exact rfl | (simp only [List.toList_toArray, List.length_cons, List.length_nil]; omega) | (simp only [lns] at *; omega) | decide | (unfold inI64; decide)); conv => whnf) | decide | assumption)
 · refine LoopX.rule hT (C := []) (ι := Nat × List Mov) (fun (j, c) => j ≤ i ∧ sameL l c)
    (fun (j, c) => mkSt [(0, .buf 1000001), (1, .d (.int .i64 0)), (2, .d (.int .i64 l.length)), (3, .fn g []), (8, .d (.int .i64 i)), (9, .d (.int .i64 j))] [(1000001, seqB 67 3 mvF mv0 c)])
    (fun (j, _) => j) (i, c) ⟨Nat.le_refl _, p3⟩ (by (refine Entails.mk' [(1000001, 1000001)] rfl rfl ?_ ?_ <;> repeat' (first | exact True.intro | exact lr | exact rr | exact SV.le_int (by omega) | exact SV.le_any _ | refine And.intro ?_ ?_)); done) ?_
   rintro ⟨j, b⟩ ⟨q1, q3⟩
   have hb0 := q3.1
   conv => whnf
   repeat' (first | (refine br_intro ?_ ?_ <;> intro hb <;> (try simp only [brs] at hb) <;> conv => whnf) | (refine RegX.rule (id := 4) hT rfl [] oXMvB224_4 (by decide +kernel) ?_; conv => whnf) | (refine RegX.rule (id := 6) hT rfl [] oXMvB224_6 (by decide +kernel) ?_; conv => whnf) | omega | (refine And.intro ?_ ?_; ((try dsimp only); first | omega | (refine szA rfl ?_; omega) | (refine szB rfl ?_; omega) | (unfold inI64; omega) | exact rfl | (simp only [List.toList_toArray, List.length_cons, List.length_nil]; omega) | (simp only [lns] at *; omega) | decide | (unfold inI64; decide)); conv => whnf) | decide | assumption)
   · refine CallX.of (hcmp (b.getD (j : Int).toNat mv0) (b.getD ((j : Int) - 1).toNat mv0) (q3.2 _ (getD_mem (by omega))) (q3.2 _ (getD_mem (by omega)))) [] rfl ⟨lr, lr, trivial⟩ trivial rfl rfl ?_
     rintro x rout ⟨rfl, rfl⟩
     refine ⟨rfl, ?_⟩
     conv => whnf
     repeat' (first | (refine br_intro ?_ ?_ <;> intro hb <;> (try simp only [brs] at hb) <;> conv => whnf) | (refine RegX.rule (id := 4) hT rfl [] oXMvB224_4 (by decide +kernel) ?_; conv => whnf) | (refine RegX.rule (id := 6) hT rfl [] oXMvB224_6 (by decide +kernel) ?_; conv => whnf) | omega | (refine And.intro ?_ ?_; ((try dsimp only); first | omega | (refine szA rfl ?_; omega) | (refine szB rfl ?_; omega) | (unfold inI64; omega) | exact rfl | (simp only [List.toList_toArray, List.length_cons, List.length_nil]; omega) | (simp only [lns] at *; omega) | decide | (unfold inI64; decide)); conv => whnf) | decide | assumption)
     · refine ⟨(j - 1, _), ⟨by omega, sameL_set (sameL_set q3 (q3.2 _ (getD_mem (i := ((j : Int) - 1).toNat) (x := mv0) (by omega)))) (q3.2 _ (getD_mem (i := (j : Int).toNat) (x := mv0) (by omega)))⟩, by show j - 1 < j; omega, Entails.mk' [(1000001, 1000001)] rfl rfl ⟨lr, lr, lr, lr, lr, SV.le_int (by omega), trivial⟩ ⟨Res.le_put2 (fun _ => rfl) (fun _ => rfl), trivial⟩⟩
     · exact ⟨(i + 1, b), ⟨by omega, by omega, q3⟩, by show l.length - (i + 1) < l.length - i; omega, (by (refine Entails.mk' [(1000001, 1000001)] rfl rfl ?_ ?_ <;> repeat' (first | exact True.intro | exact lr | exact rr | exact SV.le_int (by omega) | exact SV.le_any _ | refine And.intro ?_ ?_)); done)⟩
   · exact ⟨(i + 1, b), ⟨by omega, by omega, q3⟩, by show l.length - (i + 1) < l.length - i; omega, (by (refine Entails.mk' [(1000001, 1000001)] rfl rfl ?_ ?_ <;> repeat' (first | exact True.intro | exact lr | exact rr | exact SV.le_int (by omega) | exact SV.le_any _ | refine And.intro ?_ ?_)); done)⟩
 · refine .ret _ ?_
   conv => whnf
   exact ⟨_, ⟨rfl, c, p3, rfl⟩, rr, trivial⟩
theorem z200 (g : FuncId) (cmp : Mov → Mov → Int) (l : List Mov) (hl : l.length ≤ 12) (lim : Int)
 (hcmp : ∀ p q, p ∈ l → q ∈ l → FSpec Tryz.prog g [.agg ((mvF p).map .d), .agg ((mvF q).map .d)] [] (fun y r => y = .d (.int .i64 (cmp p q)) ∧ r = [])) :
 FSpec Tryz.prog 184 [.buf 1000001, .d (.int .i64 0), .d (.int .i64 l.length), .d (.int .i64 lim), .fn g []] [(1000001, seqB 67 3 mvF mv0 l)]
  (fun y r => y = .tup [] ∧ ∃ c, sameL l c ∧ r = [(1000001, seqB 67 3 mvF mv0 c)]) := by
 refine spec_of hT (C := []) Tryz.func184 rfl Tryz.call184 rfl rfl rfl ?_
 conv => whnf
 refine LoopX.unroll hT (C := []) (fun _ _ h => h) (fun _ h => h) ?_
 conv => whnf
 repeat' (first | (refine br_intro ?_ ?_ <;> intro hb <;> (try simp only [brs] at hb) <;> conv => whnf) | (refine RegX.rule (id := 17) hT rfl [] oXMvB184_17 (by decide +kernel) ?_; conv => whnf) | omega | (refine And.intro ?_ ?_; ((try dsimp only); first | omega | (refine szA rfl ?_; omega) | (refine szB rfl ?_; omega) | (unfold inI64; omega) | exact rfl | (simp only [List.toList_toArray, List.length_cons, List.length_nil]; omega) | (simp only [lns] at *; omega) | decide | (unfold inI64; decide)); conv => whnf) | decide | assumption)
 refine CallX.of (z249 g cmp l (by omega) hcmp) [(1000001, 1000001)] rfl ⟨lr, lr, lr, lr, trivial⟩ ⟨rr, trivial⟩ rfl rfl ?_
 rintro x rout ⟨rfl, c, hc, rfl⟩
 refine ⟨rfl, ?_⟩
 conv => whnf
 refine .ret _ ?_
 conv => whnf
 exact ⟨_, ⟨rfl, c, hc, rfl⟩, rr, trivial⟩
theorem z99 (g : FuncId) (cmp : Mov → Mov → Int) (l : List Mov) (hl : l.length ≤ 12)
 (hcmp : ∀ p q, p ∈ l → q ∈ l → FSpec Tryz.prog g [.agg ((mvF p).map .d), .agg ((mvF q).map .d)] [] (fun y r => y = .d (.int .i64 (cmp p q)) ∧ r = [])) :
 FSpec Tryz.prog 116 [.buf 1000001, .fn g []] [(1000001, seqB 67 3 mvF mv0 l)]
  (fun y r => y = .tup [] ∧ ∃ c, sameL l c ∧ r = [(1000001, seqB 67 3 mvF mv0 c)]) := by
 refine spec_of hT (C := []) Tryz.func116 rfl Tryz.call116 rfl rfl rfl ?_
 conv => whnf
 repeat' (first | (refine br_intro ?_ ?_ <;> intro hb <;> (try simp only [brs] at hb) <;> conv => whnf) | omega | (refine And.intro ?_ ?_; ((try dsimp only); first | omega | (refine szA rfl ?_; omega) | (refine szB rfl ?_; omega) | (unfold inI64; omega) | exact rfl | (simp only [List.toList_toArray, List.length_cons, List.length_nil]; omega) | (simp only [lns] at *; omega) | decide | (unfold inI64; decide)); conv => whnf) | decide | assumption)
 refine CallX.of (sBitsLen l.length hl) [] rfl ⟨lr, trivial⟩ trivial rfl rfl ?_
 rintro x rout ⟨⟨lim, rfl⟩, rfl⟩
 refine ⟨rfl, ?_⟩
 conv => whnf
 repeat' (first | (refine br_intro ?_ ?_ <;> intro hb <;> (try simp only [brs] at hb) <;> conv => whnf) | omega | (refine And.intro ?_ ?_; ((try dsimp only); first | omega | (refine szA rfl ?_; omega) | (refine szB rfl ?_; omega) | (unfold inI64; omega) | exact rfl | (simp only [List.toList_toArray, List.length_cons, List.length_nil]; omega) | (simp only [lns] at *; omega) | decide | (unfold inI64; decide)); conv => whnf) | decide | assumption)
 refine CallX.of (z200 g cmp l hl lim hcmp) [(1000001, 1000001)] rfl ⟨lr, lr, lr, lr, lr, trivial⟩ ⟨rr, trivial⟩ rfl rfl ?_
 rintro x rout ⟨rfl, c, hc, rfl⟩
 refine ⟨rfl, ?_⟩
 conv => whnf
 refine .ret _ ?_
 conv => whnf
 exact ⟨_, ⟨rfl, c, hc, rfl⟩, rr, trivial⟩
theorem z102 (g : FuncId) (eq : Mov → Mov → Bool) (l : List Mov) (hl : l.length ≤ 2^20)
 (heq : ∀ p q, p ∈ l → q ∈ l → FSpec Tryz.prog g [.agg ((mvF p).map .d), .agg ((mvF q).map .d)] [] (fun y r => y = .d (.bool (eq p q)) ∧ r = [])) :
 FSpec Tryz.prog 119 [.buf 1000001, .fn g []] [(1000001, seqB 67 3 mvF mv0 l)]
  (fun y r => ∃ c, subL l c ∧ ∃ d, (d = 1000001 ∨ d = 64) ∧ y = .buf d ∧ r = [(d, seqB 67 3 mvF mv0 c)]) := by
 refine spec_of hT (C := []) Tryz.func119 rfl Tryz.call119 rfl rfl rfl ?_
 conv => whnf
 repeat' (first | (refine br_intro ?_ ?_ <;> intro hb <;> (try simp only [brs] at hb) <;> conv => whnf) | (refine RegX.rule (id := 6) hT rfl [] oXMvB119_6 (by decide +kernel) ?_; conv => whnf) | (refine RegX.rule (id := 11) hT rfl [] oXMvB119_11 (by decide +kernel) ?_; conv => whnf) | omega | (refine And.intro ?_ ?_; ((try dsimp only); first | omega | (refine szA rfl ?_; omega) | (refine szB rfl ?_; omega) | (unfold inI64; omega) | exact rfl | (simp only [List.toList_toArray, List.length_cons, List.length_nil]; omega) | (simp only [lns] at *; omega) | decide | (unfold inI64; decide)); conv => whnf) | decide | assumption)
 · refine .ret _ ?_
   conv => whnf
   exact ⟨_, ⟨l, ⟨Nat.le_refl _, fun x h => h⟩, 1000001, .inl rfl, rfl, rfl⟩, rr, trivial⟩
 refine LoopX.rule hT (C := []) (ι := Nat) (fun k => 1 ≤ k ∧ k ≤ l.length) (fun k => mkSt [(0, .buf 1000001), (1, .fn g []), (5, .d (.int .i64 k))] [(1000001, seqB 67 3 mvF mv0 l)]) (fun k => l.length - k) 1 ⟨by omega, by omega⟩ (by (refine Entails.mk' [(1000001, 1000001)] rfl rfl ?_ ?_ <;> repeat' (first | exact True.intro | exact lr | exact rr | exact SV.le_int (by omega) | exact SV.le_any _ | refine And.intro ?_ ?_)); done) ?_
 rintro k ⟨p1, p2⟩
 conv => whnf
 repeat' (first | (refine CallX.of (heq (l.getD (k : Int).toNat mv0) (l.getD ((k : Int) - 1).toNat mv0) (getD_mem (by omega)) (getD_mem (by omega))) [] rfl ⟨lr, lr, trivial⟩ trivial rfl rfl ?_; rintro x rout ⟨rfl, rfl⟩; refine ⟨rfl, ?_⟩; conv => whnf) | (refine br_intro ?_ ?_ <;> intro hb <;> (try simp only [brs] at hb) <;> conv => whnf) | (refine RegX.rule (id := 6) hT rfl [] oXMvB119_6 (by decide +kernel) ?_; conv => whnf) | (refine RegX.rule (id := 11) hT rfl [] oXMvB119_11 (by decide +kernel) ?_; conv => whnf) | omega | (refine And.intro ?_ ?_; ((try dsimp only); first | omega | (refine szA rfl ?_; omega) | (refine szB rfl ?_; omega) | (unfold inI64; omega) | exact rfl | (simp only [List.toList_toArray, List.length_cons, List.length_nil]; omega) | (simp only [lns] at *; omega) | decide | (unfold inI64; decide)); conv => whnf) | decide | assumption)
 · refine .look rfl ?_
   conv => whnf
   repeat' (first | (refine br_intro ?_ ?_ <;> intro hb <;> (try simp only [brs] at hb) <;> conv => whnf) | (refine RegX.rule (id := 6) hT rfl [] oXMvB119_6 (by decide +kernel) ?_; conv => whnf) | (refine RegX.rule (id := 11) hT rfl [] oXMvB119_11 (by decide +kernel) ?_; conv => whnf) | omega | (refine And.intro ?_ ?_; ((try dsimp only); first | omega | (refine szA rfl ?_; omega) | (refine szB rfl ?_; omega) | (unfold inI64; omega) | exact rfl | (simp only [List.toList_toArray, List.length_cons, List.length_nil]; omega) | (simp only [lns] at *; omega) | decide | (unfold inI64; decide)); conv => whnf) | decide | assumption)
   have hsub : SV.le (SV.sub 1000001 3 (k : Int).toNat (((l.length : Nat) : Int) - (k : Int)).toNat) (SV.sub 1000001 3 k (l.length - k)) := by
    rw [show (k : Int).toNat = k by omega, show (((l.length : Nat) : Int) - (k : Int)).toNat = l.length - k by omega]; exact lr
   refine LoopX.rule hT (C := []) (ι := Nat × Nat × List Mov) (fun (q, m, c) => k ≤ q ∧ q < k + m ∧ 1 ≤ m ∧ k + m ≤ l.length ∧ sameL l c)
    (fun (q, m, c) => mkSt [(0, .buf 1000001), (1, .fn g []), (5, .d (.int .i64 q)), (6, .sub 1000001 3 k (l.length - k)), (7, .d (.int .i64 m))] [(1000001, seqB 67 3 mvF mv0 c)])
    (fun (_, m, _) => l.length - m) (k, 1, l) ⟨by omega, by omega, by omega, by omega, rfl, fun x h => h⟩ (by (refine Entails.mk' [(1000001, 1000001)] rfl rfl ?_ ?_ <;> repeat' (first | exact True.intro | exact lr | exact rr | (exact hsub) | exact SV.le_int (by omega) | exact SV.le_any _ | refine And.intro ?_ ?_)); done) ?_
   rintro ⟨q, m, c⟩ ⟨r1, r2, r3, r4, r5⟩
   have hc0 := r5.1
   conv => whnf
   repeat' (first | (refine CallX.of (heq (c.getD (k + (m : Int).toNat) mv0) (c.getD (k + ((m : Int) - 1).toNat) mv0) (r5.2 _ (getD_mem (by omega))) (r5.2 _ (getD_mem (by omega)))) [] rfl ⟨lr, lr, trivial⟩ trivial rfl rfl ?_; rintro x rout ⟨rfl, rfl⟩; refine ⟨rfl, ?_⟩; conv => whnf) | (refine SliceX.first (lo := none) rfl ?_; conv => whnf) | (refine SliceX.look (lo := some _) rfl ?_; conv => whnf) | (refine br_intro ?_ ?_ <;> intro hb <;> (try simp only [brs] at hb) <;> conv => whnf) | (refine RegX.rule (id := 6) hT rfl [] oXMvB119_6 (by decide +kernel) ?_; conv => whnf) | (refine RegX.rule (id := 11) hT rfl [] oXMvB119_11 (by decide +kernel) ?_; conv => whnf) | omega | (refine And.intro ?_ ?_; ((try dsimp only); first | omega | (refine szA rfl ?_; omega) | (refine szB rfl ?_; omega) | (unfold inI64; omega) | exact rfl | (simp only [List.toList_toArray, List.length_cons, List.length_nil]; omega) | (simp only [lns] at *; omega) | decide | (unfold inI64; decide)); conv => whnf) | decide | assumption)
   · have e1 : ∀ z, z = k + (m : Int).toNat → z < l.length → c.getD z mv0 ∈ l := fun z _ h => r5.2 _ (getD_mem (by omega))
     refine ⟨(q + 1, m + 1, _), ⟨by omega, by omega, by omega, by omega, sameL_set r5 (e1 _ rfl (by omega))⟩, by show l.length - (m + 1) < l.length - m; omega, Entails.mk' [(1000001, 1000001)] rfl rfl ⟨lr, lr, SV.le_int (by omega), lr, SV.le_int (by omega), trivial⟩ ⟨Res.le_putF (fun _ _ => rfl), trivial⟩⟩
   · exact ⟨(q, m + 1, c), ⟨by omega, by omega, by omega, by omega, r5⟩, by show l.length - (m + 1) < l.length - m; omega, (by (refine Entails.mk' [(1000001, 1000001)] rfl rfl ?_ ?_ <;> repeat' (first | exact True.intro | exact lr | exact rr | exact SV.le_int (by omega) | exact SV.le_any _ | refine And.intro ?_ ?_)); done)⟩
   · refine .ret _ ?_
     conv => whnf
     refine ⟨_, ⟨c.take q, ⟨by rw [List.length_take]; omega, fun x hx => r5.2 x (List.mem_of_mem_take hx)⟩, 64, .inr rfl, rfl, rfl⟩, Res.le_buf (by rw [List.length_take]; omega) (fun i hi => ?_), trivial⟩
     have hi : i < q := by
      have : i < (q : Int).toNat := hi
      omega
     have h1 : Nat.ble (q : Int).toNat i = false := by
      rw [← Bool.not_eq_true, Nat.ble_eq]; omega
     show (bif Nat.ble (q : Int).toNat i && _ then _ else rowF mvF mv0 c i) = _
     rw [h1]
     simp only [Bool.false_and, cond_false, rowF]
     rw [List.getD_eq_getElem?_getD, List.getD_eq_getElem?_getD, List.getElem?_take_of_lt hi]
 · exact ⟨k + 1, ⟨by omega, by omega⟩, by omega, (by (refine Entails.mk' [(1000001, 1000001)] rfl rfl ?_ ?_ <;> repeat' (first | exact True.intro | exact lr | exact rr | exact SV.le_int (by omega) | exact SV.le_any _ | refine And.intro ?_ ?_)); done)⟩
 · refine .ret _ ?_
   conv => whnf
   exact ⟨_, ⟨l, ⟨Nat.le_refl _, fun x h => h⟩, 1000001, .inl rfl, rfl, rfl⟩, rr, trivial⟩
def mvKey (x : Mov) : List UInt8 := x.a ++ [32] ++ x.b
theorem z100 (x y : Mov) (hx : x.a.length ≤ 8 ∧ x.b.length ≤ 8) (hy : y.a.length ≤ 8 ∧ y.b.length ≤ 8) : FSpec Tryz.prog 117 [.agg ((mvF x).map .d), .agg ((mvF y).map .d)] [] (fun v r => v = .d (.int .i64 (cmpS (mvKey x) (mvKey y))) ∧ r = []) := by
 refine spec_of hT (C := []) Tryz.func117 rfl Tryz.call117 rfl rfl rfl ?_
 conv => whnf
 repeat' (first | (refine CallX.exact (s190 _ _) rfl rfl ?_; rotate_right; conv => whnf) | (refine br_intro ?_ ?_ <;> intro hb <;> (try simp only [brs] at hb) <;> conv => whnf) | omega | (refine And.intro ?_ ?_; ((try dsimp only); first | omega | (refine szA rfl ?_; omega) | (refine szB rfl ?_; omega) | (unfold inI64; omega) | exact rfl | (simp only [List.toList_toArray, List.length_cons, List.length_nil]; omega) | (simp only [lns] at *; omega) | decide | (unfold inI64; decide)); conv => whnf) | decide | assumption)
 refine .ret _ ?_
 conv => whnf
 refine ⟨[], ⟨?_, rfl⟩, trivial⟩
 conv => lhs; whnf
 all_goals rfl
theorem z103 (x y : Mov) : FSpec Tryz.prog 120 [.agg ((mvF x).map .d), .agg ((mvF y).map .d)] [] (fun v r => v = .d (.bool (x.a == y.a && x.b == y.b)) ∧ r = []) := by
 refine spec_of hT (C := []) Tryz.func120 rfl Tryz.call120 rfl rfl rfl ?_
 conv => whnf
 repeat' (first | (refine br_intro ?_ ?_ <;> intro hb <;> (try simp only [brs] at hb) <;> conv => whnf) | omega | (refine And.intro ?_ ?_; ((try dsimp only); first | omega | (refine szA rfl ?_; omega) | (refine szB rfl ?_; omega) | (unfold inI64; omega) | exact rfl | (simp only [List.toList_toArray, List.length_cons, List.length_nil]; omega) | (simp only [lns] at *; omega) | decide | (unfold inI64; decide)); conv => whnf) | decide | assumption)
 all_goals
  refine .ret _ ?_
  conv => whnf
  refine ⟨[], ⟨?_, rfl⟩, trivial⟩
  conv => lhs; whnf
  congr 2
  grind
abbrev spcell : Res := .cells 23 [.ptr 1000000 0]
theorem z105 (n : Nat) (L : Nat → Int) (hL : Rok n L) (a : Int) (h0 : 0 ≤ a) (ha : a ≤ 2^38) (x : Mov) : FSpec Tryz.prog 122 [.agg ((mvF x).map .d), .ptr 1000002 0] [(1000000, strm n L a), (1000002, spcell)] (fun y r => (∃ b : Bool, y = .d (.bool b)) ∧ ∃ c, (a ≤ c ∧ c ≤ a + 1) ∧ r = [(1000000, strm n L c), (1000002, spcell)]) := by
 refine spec_of hT (C := []) Tryz.func122 rfl Tryz.call122 rfl rfl rfl ?_
 conv => whnf
 repeat' (first | (refine CallX.of (s84 n L hL _ ?_ ?_ _ ?_) [(1000000, 1000000)] rfl ⟨lr, lr, trivial⟩ ⟨rr, trivial⟩ rfl rfl ?_; rotate_right; rintro x rout ⟨⟨f, rfl⟩, ⟨c, c1, c2, rfl⟩⟩; refine ⟨rfl, ?_⟩; conv => whnf) | (refine br_intro ?_ ?_ <;> intro hb <;> (try simp only [brs] at hb) <;> conv => whnf) | omega | (refine And.intro ?_ ?_; ((try dsimp only); first | omega | (refine szA rfl ?_; omega) | (refine szB rfl ?_; omega) | (unfold inI64; omega) | exact rfl | (simp only [List.toList_toArray, List.length_cons, List.length_nil]; omega) | (simp only [lns] at *; omega) | decide | (unfold inI64; decide)); conv => whnf) | decide | assumption)
 all_goals first
  | (refine .ret _ ?_
     conv => whnf
     exact ⟨[(1000000, strm n L c), (1000002, spcell)], ⟨⟨_, rfl⟩, c, ⟨by omega, by omega⟩, rfl⟩, rr, rr, trivial⟩)
  | (refine .ret _ ?_
     conv => whnf
     exact ⟨[(1000000, strm n L a), (1000002, spcell)], ⟨⟨_, rfl⟩, a, ⟨by omega, by omega⟩, rfl⟩, rr, rr, trivial⟩)
theorem z203 (n : Nat) (L : Nat → Int) (hL : Rok n L) (a : Int) (h0 : 0 ≤ a) (ha : a ≤ 2^37) (l : List Mov) (hl : l.length ≤ 1000) :
 FSpec Tryz.prog 187 [.buf 1000001, .fn 122 [.ptr 1000002 0]] [(1000000, strm n L a), (1000001, mvB l), (1000002, spcell)] (fun y r => (∃ j : Int, -1 ≤ j ∧ j < l.length ∧ y = .d (.int .i64 j)) ∧ ∃ c, (a ≤ c ∧ c ≤ a + l.length) ∧ r = [(1000000, strm n L c), (1000001, mvB l), (1000002, spcell)]) := by
 refine spec_of hT (C := []) Tryz.func187 rfl Tryz.call187 rfl rfl rfl ?_
 conv => whnf
 refine LoopX.rule hT (C := []) (ι := Nat × Int) (fun (i, b) => i ≤ l.length ∧ a ≤ b ∧ b ≤ a + i) (fun (i, b) => mkSt [(0, .buf 1000001), (1, .fn 122 [.ptr 1000002 0]), (7, .d (.int .i64 l.length)), (8, .d (.int .i64 i))] [(1000000, strm n L b), (1000001, mvB l), (1000002, spcell)]) (fun (i, _) => l.length - i) (0, a) ⟨by simp, by simp, by simp⟩ (by (refine Entails.mk' [(1000000, 1000000), (1000001, 1000001), (1000002, 1000002)] rfl rfl ?_ ?_ <;> repeat' (first | exact True.intro | exact lr | exact rr | exact SV.le_int (by omega) | exact SV.le_any _ | refine And.intro ?_ ?_)); done) ?_
 rintro ⟨i, b⟩ ⟨p1, p2, p3⟩
 have p1 : i ≤ l.length := p1
 have p2 : a ≤ b := p2
 have p3 : b ≤ a + i := p3
 conv => whnf
 repeat' (first | (refine CallX.of (z105 n L hL b (by omega) (by omega) (l.getD (i : Int).toNat mv0)) [(1000000, 1000000), (1000002, 1000002)] rfl ⟨lr, lr, trivial⟩ ⟨rr, rr, trivial⟩ rfl rfl ?_; rintro x rout ⟨⟨f, rfl⟩, c, ⟨hc1, hc2⟩, rfl⟩; refine ⟨rfl, ?_⟩; conv => whnf) | (refine br_intro ?_ ?_ <;> intro hb <;> (try simp only [brs] at hb) <;> conv => whnf) | omega | (refine And.intro ?_ ?_; ((try dsimp only); first | omega | (refine szA rfl ?_; omega) | (refine szB rfl ?_; omega) | (unfold inI64; omega) | exact rfl | (simp only [List.toList_toArray, List.length_cons, List.length_nil]; omega) | (simp only [lns] at *; omega) | decide | (unfold inI64; decide)); conv => whnf) | decide | assumption)
 all_goals first
  | exact ⟨(i + 1, c), ⟨by omega, by omega, by omega⟩, (show l.length - (i + 1) < l.length - i by omega), (by (refine Entails.mk' [(1000000, 1000000), (1000001, 1000001), (1000002, 1000002)] rfl rfl ?_ ?_ <;> repeat' (first | exact True.intro | exact lr | exact rr | exact SV.le_int (by omega) | exact SV.le_any _ | refine And.intro ?_ ?_)); done)⟩
  | (refine .ret _ ?_
     conv => whnf
     exact ⟨[(1000000, strm n L c), (1000001, mvB l), (1000002, spcell)], ⟨⟨_, by omega, by omega, rfl⟩, c, ⟨by omega, by omega⟩, rfl⟩, rr, rr, rr, trivial⟩)
  | (refine .ret _ ?_
     conv => whnf
     exact ⟨[(1000000, strm n L b), (1000001, mvB l), (1000002, spcell)], ⟨⟨_, by omega, by omega, rfl⟩, b, ⟨by omega, by omega⟩, rfl⟩, rr, rr, rr, trivial⟩)
set_option maxHeartbeats 1000000 in
theorem z104 (n : Nat) (L : Nat → Int) (hL : Rok n L) (a : Int) (h0 : 0 ≤ a) (ha : a ≤ 2^36) (l : List Mov) (hl : l.length ≤ 1000) :
 FSpec Tryz.prog 121 [.buf 1000001, .fn 122 [.ptr 1000002 0]] [(1000000, strm n L a), (1000001, mvB l), (1000002, spcell)] (fun y r => ∃ c, subL l c ∧ ∃ d, (d = 1000001 ∨ d = 41) ∧ y = .buf d ∧ ∃ b, (a ≤ b ∧ b ≤ a + 2 * l.length) ∧ r = [(1000000, strm n L b), (d, mvB c), (1000002, spcell)]) := by
 refine spec_of hT (C := []) Tryz.func121 rfl Tryz.call121 rfl rfl rfl ?_
 conv => whnf
 refine CallX.of (z203 n L hL a h0 (by omega) l hl) [(1000000, 1000000), (1000001, 1000001), (1000002, 1000002)] rfl ⟨lr, lr, trivial⟩ ⟨rr, rr, rr, trivial⟩ rfl rfl ?_
 rintro x rout ⟨⟨j, hj1, hj2, rfl⟩, b0, ⟨hb1, hb2⟩, rfl⟩
 refine ⟨rfl, ?_⟩
 conv => whnf
 repeat' (first | (refine br_intro ?_ ?_ <;> intro hb <;> (try simp only [brs] at hb) <;> conv => whnf) | omega | (refine And.intro ?_ ?_; ((try dsimp only); first | omega | (refine szA rfl ?_; omega) | (refine szB rfl ?_; omega) | (unfold inI64; omega) | exact rfl | (simp only [List.toList_toArray, List.length_cons, List.length_nil]; omega) | (simp only [lns] at *; omega) | decide | (unfold inI64; decide)); conv => whnf) | decide | assumption)
 · refine .ret _ ?_
   conv => whnf
   exact ⟨_, ⟨l, ⟨Nat.le_refl _, fun x h => h⟩, 1000001, .inl rfl, rfl, b0, ⟨by omega, by omega⟩, rfl⟩, rr, rr, rr, trivial⟩
 obtain ⟨jN, rfl⟩ : ∃ jN : Nat, j = jN := ⟨j.toNat, by omega⟩
 refine LoopX.rule hT (C := []) (ι := Nat × Nat × Int × List Mov) (fun (i, k, b, c) => (i < k ∧ k ≤ l.length ∧ a ≤ b ∧ b ≤ a + l.length + k) ∧ sameL l c)
  (fun (i, k, b, c) => mkSt [(0, .buf 1000001), (1, .fn 122 [.ptr 1000002 0]), (5, .d (.int .i64 i)), (6, .d (.int .i64 k))] [(1000000, strm n L b), (1000001, mvB c), (1000002, spcell)]) (fun (_, k, _, _) => l.length - k) (jN, jN + 1, b0, l) ⟨⟨by show jN < jN + 1; omega, by show jN + 1 ≤ l.length; omega, by show a ≤ b0; omega, by show b0 ≤ a + l.length + ((jN + 1 : Nat) : Int); omega⟩, rfl, fun x h => h⟩ (by (refine Entails.mk' [(1000000, 1000000), (1000001, 1000001), (1000002, 1000002)] rfl rfl ?_ ?_ <;> repeat' (first | exact True.intro | exact lr | exact rr | exact SV.le_int (by omega) | exact SV.le_any _ | refine And.intro ?_ ?_)); done) ?_
 rintro ⟨i, k, b, c⟩ ⟨⟨r1, r2, r3, r4⟩, r5⟩
 have r1 : i < k := r1
 have r2 : k ≤ l.length := r2
 have r3 : a ≤ b := r3
 have r4 : b ≤ a + l.length + k := r4
 have hc0 := r5.1
 conv => whnf
 repeat' (first | (refine CallX.of (z105 n L hL b (by omega) (by omega) (c.getD (k : Int).toNat mv0)) [(1000000, 1000000), (1000002, 1000002)] rfl ⟨lr, lr, trivial⟩ ⟨rr, rr, trivial⟩ rfl rfl ?_; rintro x rout ⟨⟨f, rfl⟩, c5, ⟨hc1, hc2⟩, rfl⟩; refine ⟨rfl, ?_⟩; conv => whnf) | (refine SliceX.first (lo := none) rfl ?_; conv => whnf) | (refine SliceX.look (lo := some _) rfl ?_; conv => whnf) | (refine br_intro ?_ ?_ <;> intro hb <;> (try simp only [brs] at hb) <;> conv => whnf) | omega | (refine And.intro ?_ ?_; ((try dsimp only); first | omega | (refine szA rfl ?_; omega) | (refine szB rfl ?_; omega) | (unfold inI64; omega) | exact rfl | (simp only [List.toList_toArray, List.length_cons, List.length_nil]; omega) | (simp only [lns] at *; omega) | decide | (unfold inI64; decide)); conv => whnf) | decide | assumption)
 · exact ⟨(i + 1, k + 1, c5, c.set (i : Int).toNat (c.getD (k : Int).toNat mv0)), ⟨⟨by omega, by omega, by omega, by omega⟩, sameL_set r5 (r5.2 _ (getD_mem (by omega)))⟩, (show l.length - (k + 1) < l.length - k by omega), Entails.mk' [(1000000, 1000000), (1000001, 1000001), (1000002, 1000002)] rfl rfl ⟨lr, lr, SV.le_int (by omega), SV.le_int (by omega), trivial⟩ ⟨rr, Res.le_putF (fun _ _ => rfl), rr, trivial⟩⟩
 · exact ⟨(i, k + 1, c5, c), ⟨⟨by omega, by omega, by omega, by omega⟩, r5⟩, (show l.length - (k + 1) < l.length - k by omega), (by (refine Entails.mk' [(1000000, 1000000), (1000001, 1000001), (1000002, 1000002)] rfl rfl ?_ ?_ <;> repeat' (first | exact True.intro | exact lr | exact rr | exact SV.le_int (by omega) | exact SV.le_any _ | refine And.intro ?_ ?_)); done)⟩
 · refine .ret _ ?_
   conv => whnf
   refine ⟨_, ⟨c.take i, ⟨by rw [List.length_take]; omega, fun x hx => r5.2 x (List.mem_of_mem_take hx)⟩, 41, .inr rfl, rfl, b, ⟨by omega, by omega⟩, rfl⟩, rr, Res.le_buf (by rw [List.length_take]; omega) (fun s hs => ?_), rr, trivial⟩
   have hs : s < i := by
    have : s < (i : Int).toNat := hs
    omega
   have h1 : Nat.ble (i : Int).toNat s = false := by
    rw [← Bool.not_eq_true, Nat.ble_eq]; omega
   show (bif Nat.ble (i : Int).toNat s && _ then _ else rowF mvF mv0 c s) = _
   rw [h1]
   simp only [Bool.false_and, cond_false, rowF]
   rw [List.getD_eq_getElem?_getD, List.getD_eq_getElem?_getD, List.getElem?_take_of_lt hs]
def oXRoA126_14 : List (Nat × List Nat) := [(0, []), (1, [0]), (2, [0, 1]), (3, [0, 1, 2]), (4, [0, 1, 2, 3]), (5, [0, 1, 2, 3]), (6, [0, 1, 2, 3]), (7, [0, 1, 2, 3]), (8, [0, 1, 2, 3]), (10, [0, 1, 2, 3, 4, 5, 6, 7, 8]), (11, [0, 1, 2, 3, 4, 5, 6, 7, 8, 10]), (12, [0, 1, 2, 3, 4, 5, 6, 7, 8, 10]), (13, [0, 1, 2, 3, 4, 5, 6, 7, 8, 10]), (14, [0, 1, 2, 3, 4, 5, 6, 7, 8, 10]), (15, [0, 1, 2, 3, 4, 5, 6, 7, 8, 10]), (17, [0, 1, 2, 3, 4, 5, 6, 7, 8, 10, 11, 12, 13, 14, 15]), (9, [0, 1, 2, 10, 11, 12, 13, 14, 15, 17]), (16, [0, 1, 2, 17]), (18, [0, 1, 2]), (19, [1, 2]), (20, [1, 2]), (21, [1, 2]), (22, [2]), (23, [2]), (24, [2]), (25, []), (26, []), (27, [])]
def tE : List (List UInt8) := [[97], [98], [99], [100], [101]]
def rdS (x : Roa) : Prop := x.a.length ≤ 8 ∧ x.b.length ≤ 8
theorem tE_len {i : Nat} : (tE.getD i []).length ≤ 1 := by
 rcases Nat.lt_or_ge i 5 with h | h
 · have : i = 0 ∨ i = 1 ∨ i = 2 ∨ i = 3 ∨ i = 4 := by omega
   rcases this with rfl | rfl | rfl | rfl | rfl <;> decide
 · rw [List.getD_eq_getElem?_getD, List.getElem?_eq_none (by simpa [tE] using h)]; simp
theorem three_len {u x y z : List UInt8} (h : u ∈ [x, y, z]) (hx : x.length ≤ 8) (hy : y.length ≤ 8) (hz : z.length ≤ 8) : u.length ≤ 8 := by
 simp at h
 rcases h with rfl | rfl | rfl <;> assumption
abbrev rdB (l : List Roa) : Res := seqB 153 4 rdF rd0 l
set_option maxHeartbeats 2000000 in
theorem sRds (n : Nat) (L : Nat → Int) (hL : Rok n L) (a : Int) (h0 : 0 ≤ a) (ha : a ≤ 2^38) :
 FSpec Tryz.prog 126 [.ptr 1000000 0] [(1000000, strm n L a)] (fun y r => (∃ l : List Roa, allK rdS 25 l ∧ y = .d (roas l)) ∧ Moved n L a 100 r) := by
 refine spec_of hT (C := []) Tryz.func126 rfl Tryz.call126 rfl rfl rfl ?_
 conv => whnf
 repeat' (first | (refine br_intro ?_ ?_ <;> intro hb <;> (try simp only [brs] at hb) <;> conv => whnf) | (refine RegX.rule (id := 14) hT rfl [] oXRoA126_14 (by decide +kernel) ?_; conv => whnf) | omega | (refine And.intro ?_ ?_; ((try dsimp only); first | omega | (refine szA rfl ?_; omega) | (refine szB rfl ?_; omega) | (unfold inI64; omega) | exact rfl | (simp only [List.toList_toArray, List.length_cons, List.length_nil]; omega) | (simp only [lns] at *; omega) | decide | (unfold inI64; decide)); conv => whnf) | decide | assumption)
 refine LoopX.rule hT (C := []) (ι := Int × Nat × List Roa) (fun (b, i, l) => (a ≤ b ∧ b ≤ a + 15 * i ∧ i ≤ 5) ∧ allK rdS (5 * i) l)
  (fun (b, i, l) => mkSt [(0, .ptr 1000000 0), (3, .buf 3), (9, .d (strs tE)), (10, .d (.int .i64 5)), (11, .d (.int .i64 i))] [(1000000, strm n L b), (3, rdB l)]) (fun (_, i, _) => 5 - i) (a, 0, []) ⟨by simp, by simp [allK]⟩ ?_ ?_
 · exact (Entails.nil 3 3 153 4 (rowF rdF rd0 []) rfl rfl (by decide)).trans (by (refine Entails.mk' [(1000000, 1000000), (3, 3)] rfl rfl ?_ ?_ <;> repeat' (first | exact True.intro | exact lr | exact rr | (exact SV.le_lit rfl rfl) | exact SV.le_int (by omega) | exact SV.le_any _ | refine And.intro ?_ ?_)); done)
 rintro ⟨b, i, l⟩ ⟨⟨p1, p2, p3⟩, p4⟩
 have p1 : a ≤ b := p1
 have p2 : b ≤ a + 15 * i := p2
 have p3 : i ≤ 5 := p3
 have p4 : allK rdS (5 * i) l := p4
 have hll := p4.1
 have htl : tE.length = 5 := rfl
 conv => whnf
 repeat' (first | (refine br_intro ?_ ?_ <;> intro hb <;> (try simp only [brs] at hb) <;> conv => whnf) | (refine RegX.rule (id := 14) hT rfl [] oXRoA126_14 (by decide +kernel) ?_; conv => whnf) | omega | (refine And.intro ?_ ?_; ((try dsimp only); first | omega | (refine szA rfl ?_; omega) | (refine szB rfl ?_; omega) | (unfold inI64; omega) | exact rfl | (simp only [List.toList_toArray, List.length_cons, List.length_nil]; omega) | (simp only [lns] at *; omega) | decide | (unfold inI64; decide)); conv => whnf) | decide | assumption)
 · refine LoopX.rule hT (C := []) (ι := Int × Nat × List Roa) (fun (c, j, l) => (a ≤ c ∧ c ≤ a + 15 * i + 3 * j ∧ j ≤ 5) ∧ allK rdS (5 * i + j) l)
    (fun (c, j, l) => mkSt [(0, .ptr 1000000 0), (3, .buf 3), (5, .d (.str (tE.getD i []))), (9, .d (strs tE)), (10, .d (.int .i64 5)), (11, .d (.int .i64 i)), (15, .d (strs tE)), (16, .d (.int .i64 5)), (17, .d (.int .i64 j))] [(1000000, strm n L c), (3, rdB l)]) (fun (_, j, _) => 5 - j) (b, 0, l) ⟨by simp; omega, by simpa using p4⟩ ?_ ?_
   · exact (by (refine Entails.mk' [(1000000, 1000000), (3, 3)] rfl rfl ?_ ?_ <;> repeat' (first | exact True.intro | exact lr | exact rr | (exact SV.le_lit rfl rfl) | exact SV.le_int (by omega) | exact SV.le_any _ | refine And.intro ?_ ?_)); done)
   rintro ⟨c, j, l⟩ ⟨⟨r1, r2, r3⟩, r4⟩
   have r1 : a ≤ c := r1
   have r2 : c ≤ a + 15 * i + 3 * j := r2
   have r3 : j ≤ 5 := r3
   have r4 : allK rdS (5 * i + j) l := r4
   have hlj := r4.1
   have hi5 : i < 5 := by omega
   conv => whnf
   repeat' (first | (refine CallX.of (s84 n L hL _ ?_ ?_ _ ?_) [(1000000, 1000000)] rfl ⟨lr, lr, trivial⟩ ⟨rr, trivial⟩ rfl rfl ?_; rotate_right; rintro x rout ⟨⟨f, rfl⟩, ⟨c, c1, c2, rfl⟩⟩; refine ⟨rfl, ?_⟩; conv => whnf) | (refine CallX.of (s33 n L hL _ ?_ ?_ [0, 1, 3, 5, 5, 8, 20] ?_ ?_) [(1000000, 1000000)] rfl ⟨lr, SV.le_lit rfl rfl, trivial⟩ ⟨rr, trivial⟩ rfl rfl ?_; rotate_right; rintro x rout ⟨⟨u1, hu1, rfl⟩, ⟨c, c1, c2, rfl⟩⟩; refine ⟨rfl, ?_⟩; conv => whnf) | (refine CallX.of (s33 n L hL _ ?_ ?_ [0, 1, 2, 4] ?_ ?_) [(1000000, 1000000)] rfl ⟨lr, SV.le_lit rfl rfl, trivial⟩ ⟨rr, trivial⟩ rfl rfl ?_; rotate_right; rintro x rout ⟨⟨u2, hu2, rfl⟩, ⟨c, c1, c2, rfl⟩⟩; refine ⟨rfl, ?_⟩; conv => whnf) | (refine br_intro ?_ ?_ <;> intro hb <;> (try simp only [brs] at hb) <;> conv => whnf) | (refine RegX.rule (id := 14) hT rfl [] oXRoA126_14 (by decide +kernel) ?_; conv => whnf) | omega | (refine And.intro ?_ ?_; ((try dsimp only); first | omega | (refine szA rfl ?_; omega) | (refine szB rfl ?_; omega) | (unfold inI64; omega) | exact rfl | (simp only [List.toList_toArray, List.length_cons, List.length_nil]; omega) | (simp only [lns] at *; omega) | decide | (unfold inI64; decide)); conv => whnf) | decide | assumption)
   all_goals first
    | (refine ⟨(_, j + 1, l ++ [⟨tE.getD i [], tE.getD j [], u1, u2⟩]), ⟨⟨by omega, ?_, by omega⟩, allK_snoc r4 (by omega) ⟨Nat.le_trans tE_len (by decide), Nat.le_trans tE_len (by decide)⟩⟩, (show 5 - (j + 1) < 5 - j by omega), Entails.mk' [(1000000, 1000000), (3, 40)] rfl rfl ⟨lr, lr, lr, lr, lr, lr, lr, lr, lr, trivial⟩ ⟨rr, Res.le_snocF rfl, trivial⟩⟩
       show _ ≤ a + 15 * (i : Int) + 3 * ((j + 1 : Nat) : Int)
       omega)
    | (refine ⟨(_, j + 1, l), ⟨⟨by omega, ?_, by omega⟩, allK_le r4 (by omega)⟩, (show 5 - (j + 1) < 5 - j by omega), Entails.mk' [(1000000, 1000000), (3, 3)] rfl rfl ⟨lr, lr, lr, lr, lr, lr, lr, lr, lr, trivial⟩ ⟨rr, rr, trivial⟩⟩
       show _ ≤ a + 15 * (i : Int) + 3 * ((j + 1 : Nat) : Int)
       omega)
    | (refine ⟨(c, i + 1, l), ⟨⟨by omega, by show c ≤ a + 15 * ((i + 1 : Nat) : Int); omega, by omega⟩, allK_le r4 (by omega)⟩, (show 5 - (i + 1) < 5 - i by omega), Entails.mk' [(1000000, 1000000), (3, 3)] rfl rfl ⟨lr, lr, lr, lr, lr, trivial⟩ ⟨rr, rr, trivial⟩⟩)
 all_goals
  have p5 : allK rdS 25 l := allK_le p4 (by omega)
  have hl25 := p5.1
  repeat' (first | (refine CallX.of (s84 n L hL _ ?_ ?_ _ ?_) [(1000000, 1000000)] rfl ⟨lr, lr, trivial⟩ ⟨rr, trivial⟩ rfl rfl ?_; rotate_right; rintro x rout ⟨⟨f, rfl⟩, ⟨c, c1, c2, rfl⟩⟩; refine ⟨rfl, ?_⟩; conv => whnf) | (refine CallX.of (s86 n L hL _ ?_ ?_ _ ?_) [(1000000, 1000000)] rfl ⟨lr, lr, trivial⟩ ⟨rr, trivial⟩ rfl rfl ?_; rotate_right; rintro x rout ⟨⟨j, hj1, hj2, hj3, rfl⟩, ⟨c, c1, c2, rfl⟩⟩; refine ⟨rfl, ?_⟩; conv => whnf) | (refine CallX.of (s15 n L hL _ ?_ ?_ [(l.getD j.toNat rd0).a, [], [98]] (by simp) (by simp)) [(1000000, 1000000)] rfl ⟨lr, SV.le_lit rfl rfl, trivial⟩ ⟨rr, trivial⟩ rfl rfl ?_; rotate_right; rintro x rout ⟨⟨u1, hu1, rfl⟩, ⟨c, c1, c2, rfl⟩⟩; refine ⟨rfl, ?_⟩; conv => whnf) | (refine CallX.of (s15 n L hL _ ?_ ?_ [(l.getD j.toNat rd0).b, [65], [98]] (by simp) (by simp)) [(1000000, 1000000)] rfl ⟨lr, SV.le_lit rfl rfl, trivial⟩ ⟨rr, trivial⟩ rfl rfl ?_; rotate_right; rintro x rout ⟨⟨u2, hu2, rfl⟩, ⟨c, c1, c2, rfl⟩⟩; refine ⟨rfl, ?_⟩; conv => whnf) | (refine CallX.of (s104 n L hL _ ?_ ?_ 0 1000000 ?_ ?_ ?_) [(1000000, 1000000)] rfl ⟨lr, lr, lr, trivial⟩ ⟨rr, trivial⟩ rfl rfl ?_; rotate_right; rintro x rout ⟨⟨u3, hk1, hk2, rfl⟩, ⟨c, c1, c2, rfl⟩⟩; refine ⟨rfl, ?_⟩; conv => whnf) | (refine br_intro ?_ ?_ <;> intro hb <;> (try simp only [brs] at hb) <;> conv => whnf) | (refine RegX.rule (id := 14) hT rfl [] oXRoA126_14 (by decide +kernel) ?_; conv => whnf) | omega | (refine And.intro ?_ ?_; ((try dsimp only); first | omega | (refine szA rfl ?_; omega) | (refine szB rfl ?_; omega) | (unfold inI64; omega) | exact rfl | (simp only [List.toList_toArray, List.length_cons, List.length_nil]; omega) | (simp only [lns] at *; omega) | decide | (unfold inI64; decide)); conv => whnf) | decide | assumption)
 all_goals first
  | (refine .freeze _ 3 153 4 _ _ rfl (.weak _ ?_)
     (conv => whnf)
     have hx := p5.2 (l.getD j.toNat rd0) (getD_mem (by omega))
     have hq1 := three_len hu1 hx.1 (by decide) (by decide)
     have hq2 := three_len hu2 hx.2 (by decide) (by decide)
     exact ⟨_, [(1000000, strm n L _)], SV.le_upd3 (f := rdF) (d := rd0) (fun y : Roa => { y with a := u1 }) (fun y => { y with b := u2 }) (fun y => { y with car := u3 }) (fun _ => rfl) (fun _ => rfl) (fun _ => rfl), ⟨⟨_, allK_upd (g := fun y : Roa => { y with car := u3 }) (allK_upd (g := fun y : Roa => { y with b := u2 }) (allK_upd (g := fun y : Roa => { y with a := u1 }) p5 (fun y hy => ⟨hq1, hy.2⟩)) (fun y hy => ⟨hy.1, hq2⟩)) (fun y hy => hy), rfl⟩, _, by omega, by omega, rfl⟩, rr, trivial⟩)
  | (refine .freeze _ 3 153 4 _ _ rfl (.weak _ ?_)
     (conv => whnf)
     exact ⟨_, [(1000000, strm n L _)], lr, ⟨⟨l, p5, rfl⟩, _, by omega, by omega, rfl⟩, rr, trivial⟩)
theorem z97n : FSpec Tryz.prog 114 [.d .nilsl] [] (fun y r => y = .d .nilsl ∧ r = []) := by
 refine spec_of hT (C := []) Tryz.func114 rfl Tryz.call114 rfl rfl rfl ?_
 conv => whnf
 repeat' (first | (refine br_intro ?_ ?_ <;> intro hb <;> (try simp only [brs] at hb) <;> conv => whnf) | omega | (refine And.intro ?_ ?_; ((try dsimp only); first | omega | (refine szA rfl ?_; omega) | (refine szB rfl ?_; omega) | (unfold inI64; omega) | exact rfl | (simp only [List.toList_toArray, List.length_cons, List.length_nil]; omega) | (simp only [lns] at *; omega) | decide | (unfold inI64; decide)); conv => whnf) | decide | assumption)
 refine .ret _ ?_
 conv => whnf
 refine ⟨[], ⟨?_, rfl⟩, trivial⟩
 conv => lhs; whnf
set_option maxHeartbeats 4000000 in
theorem z98n : FSpec Tryz.prog 115 [.d .nilsl, .d .nilsl] [] (fun y r => y = .tup [.d .nilsl, .d (.bool true)] ∧ r = []) := by
 refine spec_of hT (C := []) Tryz.func115 rfl Tryz.call115 rfl rfl rfl ?_
 conv => whnf
 repeat' (first | (refine ⟨[], ⟨rfl, fun i hi => absurd hi (by simp)⟩, ?_⟩; conv => whnf) | (refine LoopX.run hT (C := []) 8 rfl [0, 1, 6, 7, 19, 20, 21] [] (fun _ _ h => h) (fun _ h => h) ?_; conv => whnf) | (refine LoopX.run hT (C := []) 24 rfl [1, 6, 10, 46, 47, 48] [] (fun _ _ h => h) (fun _ h => h) ?_; conv => whnf) | (refine LoopX.run hT (C := []) 34 rfl [1, 6, 12, 13, 46, 47, 48, 57] [] (fun _ _ h => h) (fun _ h => h) ?_; conv => whnf) | (refine br_intro ?_ ?_ <;> intro hb <;> (try simp only [brs] at hb) <;> conv => whnf) | omega | (refine And.intro ?_ ?_; ((try dsimp only); first | omega | (refine szA rfl ?_; omega) | (refine szB rfl ?_; omega) | (unfold inI64; omega) | exact rfl | (simp only [List.toList_toArray, List.length_cons, List.length_nil]; omega) | (simp only [lns] at *; omega) | decide | (unfold inI64; decide)); conv => whnf) | decide | assumption)
 refine .ret _ ?_
 conv => whnf
 refine ⟨[], ⟨congrArg SV.tup ?_, rfl⟩, trivial⟩
 repeat' (refine cons_eq ?_ ?_)
 all_goals (conv => lhs; whnf)
 all_goals try (with_reducible rfl)
 all_goals rfl
def oXMvD33_11 : List (Nat × List Nat) := [(0, []), (1, [0]), (2, [0, 1]), (3, [0, 1]), (8, [0, 1, 2, 3]), (9, [0, 1, 2, 3, 8]), (4, [0, 8, 9]), (5, [8, 9]), (6, [8, 9]), (7, [8, 9]), (10, [0, 5, 6, 7]), (11, []), (12, []), (13, []), (14, [])]
def oXMvD33_16 : List (Nat × List Nat) := [(0, []), (1, [0]), (2, [0, 1]), (4, [0, 1, 2]), (5, [0, 1, 2, 4]), (7, [0, 1, 2, 4, 5]), (8, [0, 1, 2, 4, 5, 7]), (3, [0, 4, 5, 7, 8]), (6, [0, 7, 8]), (9, [0]), (10, [0]), (11, [0]), (12, []), (13, [])]
def oXMvD33_23 : List (Nat × List Nat) := [(0, []), (1, [0]), (2, [0, 1]), (3, [0, 1, 2]), (4, [0, 1, 2]), (5, [0, 1, 2]), (6, [0, 1, 2]), (7, [0, 1, 2]), (9, [0, 1, 2, 3, 4, 5, 6, 7]), (8, [0, 1, 9]), (10, [0, 1]), (11, [1]), (12, [1]), (13, [1]), (14, []), (15, []), (16, [])]
def mvG (x : Mov) : Prop := (x.a.length ≤ 8 ∧ x.b.length ≤ 8) ∧ (-2^41 ≤ x.many ∧ x.many ≤ 2^41)
set_option maxHeartbeats 8000000 in
theorem sMov (n : Nat) (L : Nat → Int) (hL : Rok n L) (a : Int) (h0 : 0 ≤ a) (ha : a ≤ 2^35) :
 FSpec Tryz.prog 33 [.ptr 1000000 0, .d .nilsl, .d .nilsl] [(1000000, strm n L a)] (fun y r => (∃ l : List Mov, allK mvG 5 l ∧ y = .d (movs l)) ∧ Moved n L a 60 r) := by
 have h20 := z20 [] ⟨by simp, fun x hx => by cases hx⟩
 rw [show ndsE [] = 0 from rfl] at h20
 have h21 := z21 [] ⟨by simp, fun x hx => by cases hx⟩
 rw [show rdsE [] = 0 from rfl] at h21
 refine spec_of hT (C := []) Tryz.func33 rfl Tryz.call33 rfl rfl rfl ?_
 conv => whnf
 repeat' (first | (refine CallX.pure h20 ⟨SV.le_nilS, trivial⟩ rfl ?_; conv => whnf) | (refine CallX.pure h21 ⟨SV.le_nilS, trivial⟩ rfl ?_; conv => whnf) | (refine CallX.of (s84 n L hL _ ?_ ?_ _ ?_) [(1000000, 1000000)] rfl ⟨lr, lr, trivial⟩ ⟨rr, trivial⟩ rfl rfl ?_; rotate_right; rintro x rout ⟨⟨f, rfl⟩, ⟨c, c1, c2, rfl⟩⟩; refine ⟨rfl, ?_⟩; conv => whnf) | (refine CallX.exact (z97n) rfl rfl ?_; rotate_right; conv => whnf) | (refine br_intro ?_ ?_ <;> intro hb <;> (try simp only [brs] at hb) <;> conv => whnf) | (refine RegX.rule (id := 11) hT rfl [] oXMvD33_11 (by decide +kernel) ?_; conv => whnf) | (refine RegX.rule (id := 16) hT rfl [] oXMvD33_16 (by decide +kernel) ?_; conv => whnf) | (refine RegX.rule (id := 23) hT rfl [] oXMvD33_23 (by decide +kernel) ?_; conv => whnf) | omega | (refine And.intro ?_ ?_; ((try dsimp only); first | omega | (refine szA rfl ?_; omega) | (refine szB rfl ?_; omega) | (unfold inI64; omega) | exact rfl | (simp only [List.toList_toArray, List.length_cons, List.length_nil]; omega) | (simp only [lns] at *; omega) | decide | (unfold inI64; decide)); conv => whnf) | decide | assumption)
 · refine LoopX.unroll hT (C := []) (fun _ _ h => h) (fun _ h => h) ?_
   conv => whnf
   repeat' (first | (refine CallX.exact (z98n) rfl rfl ?_; rotate_right; conv => whnf) | (refine CallX.of (s84 n L hL _ ?_ ?_ _ ?_) [(1000000, 1000000)] rfl ⟨lr, lr, trivial⟩ ⟨rr, trivial⟩ rfl rfl ?_; rotate_right; rintro x rout ⟨⟨f, rfl⟩, ⟨c, c1, c2, rfl⟩⟩; refine ⟨rfl, ?_⟩; conv => whnf) | (refine br_intro ?_ ?_ <;> intro hb <;> (try simp only [brs] at hb) <;> conv => whnf) | (refine RegX.rule (id := 11) hT rfl [] oXMvD33_11 (by decide +kernel) ?_; conv => whnf) | (refine RegX.rule (id := 16) hT rfl [] oXMvD33_16 (by decide +kernel) ?_; conv => whnf) | (refine RegX.rule (id := 23) hT rfl [] oXMvD33_23 (by decide +kernel) ?_; conv => whnf) | omega | (refine And.intro ?_ ?_; ((try dsimp only); first | omega | (refine szA rfl ?_; omega) | (refine szB rfl ?_; omega) | (unfold inI64; omega) | exact rfl | (simp only [List.toList_toArray, List.length_cons, List.length_nil]; omega) | (simp only [lns] at *; omega) | decide | (unfold inI64; decide)); conv => whnf) | decide | assumption)
   refine .weak _ ?_
   conv => whnf
   exact ⟨_, [(1000000, strm n L _)], SV.le_nilS, ⟨⟨[], ⟨by simp, fun x hx => by cases hx⟩, rfl⟩, _, by omega, by omega, rfl⟩, rr, trivial⟩
 repeat' (first | (refine CallX.of (s64 n L hL _ ?_ ?_ 0 5 ?_ ?_ ?_ ?_) [(1000000, 1000000)] rfl ⟨lr, lr, lr, trivial⟩ ⟨rr, trivial⟩ rfl rfl ?_; rotate_right; rintro x rout ⟨⟨k, hk1, hk2, rfl⟩, ⟨c, c1, c2, rfl⟩⟩; refine ⟨rfl, ?_⟩; conv => whnf) | (refine br_intro ?_ ?_ <;> intro hb <;> (try simp only [brs] at hb) <;> conv => whnf) | (refine RegX.rule (id := 11) hT rfl [] oXMvD33_11 (by decide +kernel) ?_; conv => whnf) | (refine RegX.rule (id := 16) hT rfl [] oXMvD33_16 (by decide +kernel) ?_; conv => whnf) | (refine RegX.rule (id := 23) hT rfl [] oXMvD33_23 (by decide +kernel) ?_; conv => whnf) | omega | (refine And.intro ?_ ?_; ((try dsimp only); first | omega | (refine szA rfl ?_; omega) | (refine szB rfl ?_; omega) | (unfold inI64; omega) | exact rfl | (simp only [List.toList_toArray, List.length_cons, List.length_nil]; omega) | (simp only [lns] at *; omega) | decide | (unfold inI64; decide)); conv => whnf) | decide | assumption)
 refine LoopX.rule hT (C := []) (ι := Int × List Mov × Nat) (fun (b, l, i) => (a ≤ b ∧ b ≤ a + 2 + 3 * i ∧ (i : Int) ≤ k) ∧ allK mvG i l)
  (fun (b, l, i) => mkSt [(3, .ptr 3 0), (11, .buf 11), (70, .d (.int .i64 k)), (71, .d (.int .i64 i))] [(1000000, strm n L b), (3, .cells 23 [.ptr 1000000 0]), (11, mvB l)])
  (fun (_, _, i) => (k - i).toNat) (c, [], 0) ⟨⟨by show a ≤ c; omega, by show c ≤ a + 2 + 3 * ((0 : Nat) : Int); omega, by show ((0 : Nat) : Int) ≤ k; omega⟩, ⟨by simp, fun x hx => by cases hx⟩⟩ ?_ ?_
 · exact (Entails.nil 11 11 67 3 (rowF mvF mv0 []) rfl rfl (by decide)).trans (by (refine Entails.mk' [(1000000, 1000000), (3, 3), (11, 11)] rfl rfl ?_ ?_ <;> repeat' (first | exact True.intro | exact lr | exact rr | exact SV.le_int (by omega) | exact SV.le_any _ | refine And.intro ?_ ?_)); done)
 rintro ⟨b, l, i⟩ ⟨⟨p1, p2, p3⟩, p4⟩
 have p1 : a ≤ b := p1
 have p2 : b ≤ a + 2 + 3 * i := p2
 have p3 : (i : Int) ≤ k := p3
 have p4 : allK mvG i l := p4
 have hl1 := p4.1
 conv => whnf
 repeat' (first | (refine CallX.of (s15 n L hL _ ?_ ?_ [[97], [98], [99], [100]] (by simp) (by simp)) [(1000000, 1000000)] rfl ⟨lr, SV.le_lit rfl rfl, trivial⟩ ⟨rr, trivial⟩ rfl rfl ?_; rotate_right; rintro x rout ⟨⟨u1, hu1, rfl⟩, ⟨c, c1, c2, rfl⟩⟩; have hw1 := mem_len hu1 rfl; refine ⟨rfl, ?_⟩; conv => whnf) | (refine CallX.of (s15 n L hL _ ?_ ?_ [[98], [99], [100], [101]] (by simp) (by simp)) [(1000000, 1000000)] rfl ⟨lr, SV.le_lit rfl rfl, trivial⟩ ⟨rr, trivial⟩ rfl rfl ?_; rotate_right; rintro x rout ⟨⟨u2, hu2, rfl⟩, ⟨c, c1, c2, rfl⟩⟩; have hw2 := mem_len hu2 rfl; refine ⟨rfl, ?_⟩; conv => whnf) | (refine CallX.of (s33 n L hL _ ?_ ?_ [1, 1, 2] ?_ ?_) [(1000000, 1000000)] rfl ⟨lr, SV.le_lit rfl rfl, trivial⟩ ⟨rr, trivial⟩ rfl rfl ?_; rotate_right; rintro x rout ⟨⟨u3, hu3, rfl⟩, ⟨c, c1, c2, rfl⟩⟩; refine ⟨rfl, ?_⟩; conv => whnf) | (refine br_intro ?_ ?_ <;> intro hb <;> (try simp only [brs] at hb) <;> conv => whnf) | (refine RegX.rule (id := 11) hT rfl [] oXMvD33_11 (by decide +kernel) ?_; conv => whnf) | (refine RegX.rule (id := 16) hT rfl [] oXMvD33_16 (by decide +kernel) ?_; conv => whnf) | (refine RegX.rule (id := 23) hT rfl [] oXMvD33_23 (by decide +kernel) ?_; conv => whnf) | omega | (refine And.intro ?_ ?_; ((try dsimp only); first | omega | (refine szA rfl ?_; omega) | (refine szB rfl ?_; omega) | (unfold inI64; omega) | exact rfl | (simp only [List.toList_toArray, List.length_cons, List.length_nil]; omega) | (simp only [lns] at *; omega) | decide | (unfold inI64; decide)); conv => whnf) | decide | assumption)
 · refine ⟨(_, l ++ [⟨u1, u2, u3⟩], i + 1), ⟨⟨by omega, ?_, by omega⟩, allK_snoc p4 (by omega) ⟨⟨hw1, hw2⟩, by simp at hu3; show -2^41 ≤ u3 ∧ u3 ≤ 2^41; omega⟩⟩, (show (k - ((i + 1 : Nat) : Int)).toNat < (k - (i : Int)).toNat by omega), Entails.mk' [(1000000, 1000000), (3, 3), (11, 85)] rfl rfl ⟨lr, lr, lr, lr, trivial⟩ ⟨rr, rr, Res.le_snocF rfl, trivial⟩⟩
   show _ ≤ a + 2 + 3 * ((i + 1 : Nat) : Int)
   omega
 have hl5 : l.length ≤ 5 := by omega
 have hi5 : i ≤ 5 := by omega
 refine CallX.of (z99 117 (fun x y => cmpS (mvKey x) (mvKey y)) l (by omega) (fun x y hx hy => z100 x y (p4.2 x hx).1 (p4.2 y hy).1)) [(1000001, 11)] rfl ⟨lr, lr, trivial⟩ ⟨rr, trivial⟩ rfl rfl ?_
 rintro x rout ⟨rfl, c1, hc1, rfl⟩
 refine ⟨rfl, ?_⟩
 have hcl1 : c1.length ≤ 5 := by have := hc1.1; omega
 conv => whnf
 refine CallX.of (z102 120 (fun x y => x.a == y.a && x.b == y.b) c1 (by omega) (fun x y _ _ => z103 x y)) [(1000001, 11), (64, 200)] rfl ⟨lr, lr, trivial⟩ ⟨rr, trivial⟩ rfl rfl ?_
 rintro x rout ⟨c2, hc2, nm, hnm, rfl, rfl⟩
 have hcl2 : c2.length ≤ 5 := by have := hc2.1; omega
 rcases hnm with rfl | rfl
 · refine ⟨rfl, ?_⟩
   conv => whnf
   refine CallX.of (z104 n L hL b (by omega) (by omega) c2 (by omega)) [(1000000, 1000000), (1000001, 11), (1000002, 3), (41, 300)] rfl ⟨lr, lr, trivial⟩ ⟨rr, rr, rr, trivial⟩ rfl rfl ?_
   rintro x rout ⟨e, he1, nm, hnm, rfl, c5, ⟨hv1, hv2⟩, rfl⟩
   rcases hnm with rfl | rfl
   · refine ⟨rfl, ?_⟩
     conv => whnf
     have hsh : allK mvG 5 e := ⟨by have := hc1.1; have := hc2.1; have := he1.1; omega, fun p hp => p4.2 p (hc1.2 p (hc2.2 p (he1.2 p hp)))⟩
     have he5 := hsh.1
     repeat' (first | (refine CallX.of (s84 n L hL _ ?_ ?_ _ ?_) [(1000000, 1000000)] rfl ⟨lr, lr, trivial⟩ ⟨rr, trivial⟩ rfl rfl ?_; rotate_right; rintro x rout ⟨⟨f, rfl⟩, ⟨c, c1, c2, rfl⟩⟩; refine ⟨rfl, ?_⟩; conv => whnf) | (refine CallX.of (s86 n L hL _ ?_ ?_ _ ?_) [(1000000, 1000000)] rfl ⟨lr, lr, trivial⟩ ⟨rr, trivial⟩ rfl rfl ?_; rotate_right; rintro x rout ⟨⟨j, hj1, hj2, hj3, rfl⟩, ⟨c, c1, c2, rfl⟩⟩; refine ⟨rfl, ?_⟩; conv => whnf) | (refine CallX.of (s15 n L hL _ ?_ ?_ [(e.getD j.toNat mv0).a, [], [122]] (by simp) (by simp)) [(1000000, 1000000)] rfl ⟨lr, SV.le_lit rfl rfl, trivial⟩ ⟨rr, trivial⟩ rfl rfl ?_; rotate_right; rintro x rout ⟨⟨u1, hu1, rfl⟩, ⟨c, c1, c2, rfl⟩⟩; refine ⟨rfl, ?_⟩; conv => whnf) | (refine CallX.of (s104 n L hL _ ?_ ?_ 1 20 ?_ ?_ ?_) [(1000000, 1000000)] rfl ⟨lr, lr, lr, trivial⟩ ⟨rr, trivial⟩ rfl rfl ?_; rotate_right; rintro x rout ⟨⟨u3, hk1, hk2, rfl⟩, ⟨c, c1, c2, rfl⟩⟩; refine ⟨rfl, ?_⟩; conv => whnf) | (refine br_intro ?_ ?_ <;> intro hb <;> (try simp only [brs] at hb) <;> conv => whnf) | (refine RegX.rule (id := 11) hT rfl [] oXMvD33_11 (by decide +kernel) ?_; conv => whnf) | (refine RegX.rule (id := 16) hT rfl [] oXMvD33_16 (by decide +kernel) ?_; conv => whnf) | (refine RegX.rule (id := 23) hT rfl [] oXMvD33_23 (by decide +kernel) ?_; conv => whnf) | omega | (refine And.intro ?_ ?_; ((try dsimp only); first | omega | (refine szA rfl ?_; omega) | (refine szB rfl ?_; omega) | (unfold inI64; omega) | exact rfl | (simp only [List.toList_toArray, List.length_cons, List.length_nil]; omega) | (simp only [lns] at *; omega) | decide | (unfold inI64; decide)); conv => whnf) | decide | assumption)
     all_goals first
      | (first
          | refine .freeze _ 11 67 3 _ _ rfl (.weak _ ?_)
          | refine .freeze _ 200 67 3 _ _ rfl (.weak _ ?_)
          | refine .freeze _ 300 67 3 _ _ rfl (.weak _ ?_)
         (conv => whnf)
         have hx := hsh.2 (e.getD j.toNat mv0) (getD_mem (by omega))
         have hq1 := three_len hu1 hx.1.1 (by decide) (by decide)
         exact ⟨_, [(1000000, strm n L _)], SV.le_upd2 (f := mvF) (d := mv0) (l := e) (fun y : Mov => { y with a := u1 }) (fun y => { y with many := u3 }) (fun _ => rfl) (fun _ => rfl), ⟨⟨_, allK_upd (g := fun y : Mov => { y with many := u3 }) (allK_upd (g := fun y : Mov => { y with a := u1 }) hsh (fun y hy => ⟨⟨hq1, hy.1.2⟩, hy.2⟩)) (fun y hy => ⟨hy.1, by show -2^41 ≤ u3 ∧ u3 ≤ 2^41; omega⟩), rfl⟩, _, by omega, by omega, rfl⟩, rr, trivial⟩)
      | (first
          | refine .freeze _ 11 67 3 _ _ rfl (.weak _ ?_)
          | refine .freeze _ 200 67 3 _ _ rfl (.weak _ ?_)
          | refine .freeze _ 300 67 3 _ _ rfl (.weak _ ?_)
         (conv => whnf)
         exact ⟨_, [(1000000, strm n L _)], lr, ⟨⟨e, hsh, rfl⟩, _, by omega, by omega, rfl⟩, rr, trivial⟩)
   · refine ⟨rfl, ?_⟩
     conv => whnf
     have hsh : allK mvG 5 e := ⟨by have := hc1.1; have := hc2.1; have := he1.1; omega, fun p hp => p4.2 p (hc1.2 p (hc2.2 p (he1.2 p hp)))⟩
     have he5 := hsh.1
     repeat' (first | (refine CallX.of (s84 n L hL _ ?_ ?_ _ ?_) [(1000000, 1000000)] rfl ⟨lr, lr, trivial⟩ ⟨rr, trivial⟩ rfl rfl ?_; rotate_right; rintro x rout ⟨⟨f, rfl⟩, ⟨c, c1, c2, rfl⟩⟩; refine ⟨rfl, ?_⟩; conv => whnf) | (refine CallX.of (s86 n L hL _ ?_ ?_ _ ?_) [(1000000, 1000000)] rfl ⟨lr, lr, trivial⟩ ⟨rr, trivial⟩ rfl rfl ?_; rotate_right; rintro x rout ⟨⟨j, hj1, hj2, hj3, rfl⟩, ⟨c, c1, c2, rfl⟩⟩; refine ⟨rfl, ?_⟩; conv => whnf) | (refine CallX.of (s15 n L hL _ ?_ ?_ [(e.getD j.toNat mv0).a, [], [122]] (by simp) (by simp)) [(1000000, 1000000)] rfl ⟨lr, SV.le_lit rfl rfl, trivial⟩ ⟨rr, trivial⟩ rfl rfl ?_; rotate_right; rintro x rout ⟨⟨u1, hu1, rfl⟩, ⟨c, c1, c2, rfl⟩⟩; refine ⟨rfl, ?_⟩; conv => whnf) | (refine CallX.of (s104 n L hL _ ?_ ?_ 1 20 ?_ ?_ ?_) [(1000000, 1000000)] rfl ⟨lr, lr, lr, trivial⟩ ⟨rr, trivial⟩ rfl rfl ?_; rotate_right; rintro x rout ⟨⟨u3, hk1, hk2, rfl⟩, ⟨c, c1, c2, rfl⟩⟩; refine ⟨rfl, ?_⟩; conv => whnf) | (refine br_intro ?_ ?_ <;> intro hb <;> (try simp only [brs] at hb) <;> conv => whnf) | (refine RegX.rule (id := 11) hT rfl [] oXMvD33_11 (by decide +kernel) ?_; conv => whnf) | (refine RegX.rule (id := 16) hT rfl [] oXMvD33_16 (by decide +kernel) ?_; conv => whnf) | (refine RegX.rule (id := 23) hT rfl [] oXMvD33_23 (by decide +kernel) ?_; conv => whnf) | omega | (refine And.intro ?_ ?_; ((try dsimp only); first | omega | (refine szA rfl ?_; omega) | (refine szB rfl ?_; omega) | (unfold inI64; omega) | exact rfl | (simp only [List.toList_toArray, List.length_cons, List.length_nil]; omega) | (simp only [lns] at *; omega) | decide | (unfold inI64; decide)); conv => whnf) | decide | assumption)
     all_goals first
      | (first
          | refine .freeze _ 11 67 3 _ _ rfl (.weak _ ?_)
          | refine .freeze _ 200 67 3 _ _ rfl (.weak _ ?_)
          | refine .freeze _ 300 67 3 _ _ rfl (.weak _ ?_)
         (conv => whnf)
         have hx := hsh.2 (e.getD j.toNat mv0) (getD_mem (by omega))
         have hq1 := three_len hu1 hx.1.1 (by decide) (by decide)
         exact ⟨_, [(1000000, strm n L _)], SV.le_upd2 (f := mvF) (d := mv0) (l := e) (fun y : Mov => { y with a := u1 }) (fun y => { y with many := u3 }) (fun _ => rfl) (fun _ => rfl), ⟨⟨_, allK_upd (g := fun y : Mov => { y with many := u3 }) (allK_upd (g := fun y : Mov => { y with a := u1 }) hsh (fun y hy => ⟨⟨hq1, hy.1.2⟩, hy.2⟩)) (fun y hy => ⟨hy.1, by show -2^41 ≤ u3 ∧ u3 ≤ 2^41; omega⟩), rfl⟩, _, by omega, by omega, rfl⟩, rr, trivial⟩)
      | (first
          | refine .freeze _ 11 67 3 _ _ rfl (.weak _ ?_)
          | refine .freeze _ 200 67 3 _ _ rfl (.weak _ ?_)
          | refine .freeze _ 300 67 3 _ _ rfl (.weak _ ?_)
         (conv => whnf)
         exact ⟨_, [(1000000, strm n L _)], lr, ⟨⟨e, hsh, rfl⟩, _, by omega, by omega, rfl⟩, rr, trivial⟩)
 · refine ⟨rfl, ?_⟩
   conv => whnf
   refine CallX.of (z104 n L hL b (by omega) (by omega) c2 (by omega)) [(1000000, 1000000), (1000001, 200), (1000002, 3), (41, 300)] rfl ⟨lr, lr, trivial⟩ ⟨rr, rr, rr, trivial⟩ rfl rfl ?_
   rintro x rout ⟨e, he1, nm, hnm, rfl, c5, ⟨hv1, hv2⟩, rfl⟩
   rcases hnm with rfl | rfl
   · refine ⟨rfl, ?_⟩
     conv => whnf
     have hsh : allK mvG 5 e := ⟨by have := hc1.1; have := hc2.1; have := he1.1; omega, fun p hp => p4.2 p (hc1.2 p (hc2.2 p (he1.2 p hp)))⟩
     have he5 := hsh.1
     repeat' (first | (refine CallX.of (s84 n L hL _ ?_ ?_ _ ?_) [(1000000, 1000000)] rfl ⟨lr, lr, trivial⟩ ⟨rr, trivial⟩ rfl rfl ?_; rotate_right; rintro x rout ⟨⟨f, rfl⟩, ⟨c, c1, c2, rfl⟩⟩; refine ⟨rfl, ?_⟩; conv => whnf) | (refine CallX.of (s86 n L hL _ ?_ ?_ _ ?_) [(1000000, 1000000)] rfl ⟨lr, lr, trivial⟩ ⟨rr, trivial⟩ rfl rfl ?_; rotate_right; rintro x rout ⟨⟨j, hj1, hj2, hj3, rfl⟩, ⟨c, c1, c2, rfl⟩⟩; refine ⟨rfl, ?_⟩; conv => whnf) | (refine CallX.of (s15 n L hL _ ?_ ?_ [(e.getD j.toNat mv0).a, [], [122]] (by simp) (by simp)) [(1000000, 1000000)] rfl ⟨lr, SV.le_lit rfl rfl, trivial⟩ ⟨rr, trivial⟩ rfl rfl ?_; rotate_right; rintro x rout ⟨⟨u1, hu1, rfl⟩, ⟨c, c1, c2, rfl⟩⟩; refine ⟨rfl, ?_⟩; conv => whnf) | (refine CallX.of (s104 n L hL _ ?_ ?_ 1 20 ?_ ?_ ?_) [(1000000, 1000000)] rfl ⟨lr, lr, lr, trivial⟩ ⟨rr, trivial⟩ rfl rfl ?_; rotate_right; rintro x rout ⟨⟨u3, hk1, hk2, rfl⟩, ⟨c, c1, c2, rfl⟩⟩; refine ⟨rfl, ?_⟩; conv => whnf) | (refine br_intro ?_ ?_ <;> intro hb <;> (try simp only [brs] at hb) <;> conv => whnf) | (refine RegX.rule (id := 11) hT rfl [] oXMvD33_11 (by decide +kernel) ?_; conv => whnf) | (refine RegX.rule (id := 16) hT rfl [] oXMvD33_16 (by decide +kernel) ?_; conv => whnf) | (refine RegX.rule (id := 23) hT rfl [] oXMvD33_23 (by decide +kernel) ?_; conv => whnf) | omega | (refine And.intro ?_ ?_; ((try dsimp only); first | omega | (refine szA rfl ?_; omega) | (refine szB rfl ?_; omega) | (unfold inI64; omega) | exact rfl | (simp only [List.toList_toArray, List.length_cons, List.length_nil]; omega) | (simp only [lns] at *; omega) | decide | (unfold inI64; decide)); conv => whnf) | decide | assumption)
     all_goals first
      | (first
          | refine .freeze _ 11 67 3 _ _ rfl (.weak _ ?_)
          | refine .freeze _ 200 67 3 _ _ rfl (.weak _ ?_)
          | refine .freeze _ 300 67 3 _ _ rfl (.weak _ ?_)
         (conv => whnf)
         have hx := hsh.2 (e.getD j.toNat mv0) (getD_mem (by omega))
         have hq1 := three_len hu1 hx.1.1 (by decide) (by decide)
         exact ⟨_, [(1000000, strm n L _)], SV.le_upd2 (f := mvF) (d := mv0) (l := e) (fun y : Mov => { y with a := u1 }) (fun y => { y with many := u3 }) (fun _ => rfl) (fun _ => rfl), ⟨⟨_, allK_upd (g := fun y : Mov => { y with many := u3 }) (allK_upd (g := fun y : Mov => { y with a := u1 }) hsh (fun y hy => ⟨⟨hq1, hy.1.2⟩, hy.2⟩)) (fun y hy => ⟨hy.1, by show -2^41 ≤ u3 ∧ u3 ≤ 2^41; omega⟩), rfl⟩, _, by omega, by omega, rfl⟩, rr, trivial⟩)
      | (first
          | refine .freeze _ 11 67 3 _ _ rfl (.weak _ ?_)
          | refine .freeze _ 200 67 3 _ _ rfl (.weak _ ?_)
          | refine .freeze _ 300 67 3 _ _ rfl (.weak _ ?_)
         (conv => whnf)
         exact ⟨_, [(1000000, strm n L _)], lr, ⟨⟨e, hsh, rfl⟩, _, by omega, by omega, rfl⟩, rr, trivial⟩)
   · refine ⟨rfl, ?_⟩
     conv => whnf
     have hsh : allK mvG 5 e := ⟨by have := hc1.1; have := hc2.1; have := he1.1; omega, fun p hp => p4.2 p (hc1.2 p (hc2.2 p (he1.2 p hp)))⟩
     have he5 := hsh.1
     repeat' (first | (refine CallX.of (s84 n L hL _ ?_ ?_ _ ?_) [(1000000, 1000000)] rfl ⟨lr, lr, trivial⟩ ⟨rr, trivial⟩ rfl rfl ?_; rotate_right; rintro x rout ⟨⟨f, rfl⟩, ⟨c, c1, c2, rfl⟩⟩; refine ⟨rfl, ?_⟩; conv => whnf) | (refine CallX.of (s86 n L hL _ ?_ ?_ _ ?_) [(1000000, 1000000)] rfl ⟨lr, lr, trivial⟩ ⟨rr, trivial⟩ rfl rfl ?_; rotate_right; rintro x rout ⟨⟨j, hj1, hj2, hj3, rfl⟩, ⟨c, c1, c2, rfl⟩⟩; refine ⟨rfl, ?_⟩; conv => whnf) | (refine CallX.of (s15 n L hL _ ?_ ?_ [(e.getD j.toNat mv0).a, [], [122]] (by simp) (by simp)) [(1000000, 1000000)] rfl ⟨lr, SV.le_lit rfl rfl, trivial⟩ ⟨rr, trivial⟩ rfl rfl ?_; rotate_right; rintro x rout ⟨⟨u1, hu1, rfl⟩, ⟨c, c1, c2, rfl⟩⟩; refine ⟨rfl, ?_⟩; conv => whnf) | (refine CallX.of (s104 n L hL _ ?_ ?_ 1 20 ?_ ?_ ?_) [(1000000, 1000000)] rfl ⟨lr, lr, lr, trivial⟩ ⟨rr, trivial⟩ rfl rfl ?_; rotate_right; rintro x rout ⟨⟨u3, hk1, hk2, rfl⟩, ⟨c, c1, c2, rfl⟩⟩; refine ⟨rfl, ?_⟩; conv => whnf) | (refine br_intro ?_ ?_ <;> intro hb <;> (try simp only [brs] at hb) <;> conv => whnf) | (refine RegX.rule (id := 11) hT rfl [] oXMvD33_11 (by decide +kernel) ?_; conv => whnf) | (refine RegX.rule (id := 16) hT rfl [] oXMvD33_16 (by decide +kernel) ?_; conv => whnf) | (refine RegX.rule (id := 23) hT rfl [] oXMvD33_23 (by decide +kernel) ?_; conv => whnf) | omega | (refine And.intro ?_ ?_; ((try dsimp only); first | omega | (refine szA rfl ?_; omega) | (refine szB rfl ?_; omega) | (unfold inI64; omega) | exact rfl | (simp only [List.toList_toArray, List.length_cons, List.length_nil]; omega) | (simp only [lns] at *; omega) | decide | (unfold inI64; decide)); conv => whnf) | decide | assumption)
     all_goals first
      | (first
          | refine .freeze _ 11 67 3 _ _ rfl (.weak _ ?_)
          | refine .freeze _ 200 67 3 _ _ rfl (.weak _ ?_)
          | refine .freeze _ 300 67 3 _ _ rfl (.weak _ ?_)
         (conv => whnf)
         have hx := hsh.2 (e.getD j.toNat mv0) (getD_mem (by omega))
         have hq1 := three_len hu1 hx.1.1 (by decide) (by decide)
         exact ⟨_, [(1000000, strm n L _)], SV.le_upd2 (f := mvF) (d := mv0) (l := e) (fun y : Mov => { y with a := u1 }) (fun y => { y with many := u3 }) (fun _ => rfl) (fun _ => rfl), ⟨⟨_, allK_upd (g := fun y : Mov => { y with many := u3 }) (allK_upd (g := fun y : Mov => { y with a := u1 }) hsh (fun y hy => ⟨⟨hq1, hy.1.2⟩, hy.2⟩)) (fun y hy => ⟨hy.1, by show -2^41 ≤ u3 ∧ u3 ≤ 2^41; omega⟩), rfl⟩, _, by omega, by omega, rfl⟩, rr, trivial⟩)
      | (first
          | refine .freeze _ 11 67 3 _ _ rfl (.weak _ ?_)
          | refine .freeze _ 200 67 3 _ _ rfl (.weak _ ?_)
          | refine .freeze _ 300 67 3 _ _ rfl (.weak _ ?_)
         (conv => whnf)
         exact ⟨_, [(1000000, strm n L _)], lr, ⟨⟨e, hsh, rfl⟩, _, by omega, by omega, rfl⟩, rr, trivial⟩)
def oXRoB40_6 : List (Nat × List Nat) := [(0, []), (1, [0]), (2, []), (3, []), (4, [0, 1, 2, 3]), (5, [0, 1, 2, 3, 4]), (6, [0, 1, 2, 3]), (7, [0, 1, 2, 3]), (8, [])]
theorem p57 (l m : List Mov) (hl : l.length ≤ 2^40) : FSpec Tryz.prog 40 [.d (movs l), .d (movs m)] [] (fun x r => x = .d (.bool (decide (l = m))) ∧ r = []) := by
 refine spec_of hT (C := []) Tryz.func40 rfl Tryz.call40 rfl rfl rfl ?_
 conv => whnf
 repeat' (first | (refine br_intro ?_ ?_ <;> intro hb <;> (try simp only [brs] at hb) <;> conv => whnf) | (refine RegX.rule (id := 6) hT rfl [] oXRoB40_6 (by decide +kernel) ?_; conv => whnf) | omega | (refine And.intro ?_ ?_; ((try dsimp only); first | omega | (refine szA rfl ?_; omega) | (refine szB rfl ?_; omega) | (unfold inI64; omega) | exact rfl | (simp only [List.toList_toArray, List.length_cons, List.length_nil]; omega) | (simp only [lns] at *; omega) | decide | (unfold inI64; decide)); conv => whnf) | decide | assumption)
 · refine .ret _ ?_
   conv => whnf
   refine ⟨[], ⟨?_, rfl⟩, trivial⟩
   conv => lhs; whnf
   have : ¬ l = m := fun q => by subst q; simp at hb
   simp [this]
 have hlen : l.length = m.length := by
  omega
 refine LoopX.rule hT (C := []) (ι := Nat) (fun i => i ≤ l.length ∧ ∀ j, j < i → l.getD j mv0 = m.getD j mv0) (fun i => mkSt [(0, .d (movs l)), (1, .d (movs m)), (12, .d (.int .i64 l.length)), (13, .d (.int .i64 i))] []) (fun i => l.length - i) 0 ⟨by omega, by omega⟩ (by (refine Entails.mk' [] rfl rfl ?_ ?_ <;> repeat' (first | exact True.intro | exact lr | exact rr | exact SV.le_int (by omega) | exact SV.le_any _ | refine And.intro ?_ ?_)); done) ?_
 rintro i ⟨p1, p2⟩
 have e1 : (i : Int).toNat = i := Int.toNat_natCast i
 conv => whnf
 repeat' (first | (refine br_intro ?_ ?_ <;> intro hb <;> (try simp only [brs] at hb) <;> conv => whnf) | (refine RegX.rule (id := 6) hT rfl [] oXRoB40_6 (by decide +kernel) ?_; conv => whnf) | omega | (refine And.intro ?_ ?_; ((try dsimp only); first | omega | (refine szA rfl ?_; omega) | (refine szB rfl ?_; omega) | (unfold inI64; omega) | exact rfl | (simp only [List.toList_toArray, List.length_cons, List.length_nil]; omega) | (simp only [lns] at *; omega) | decide | (unfold inI64; decide)); conv => whnf) | decide | assumption)
 · refine .ret _ ?_
   conv => whnf
   refine ⟨[], ⟨?_, rfl⟩, trivial⟩
   conv => lhs; whnf
   have : ¬ l = m := fun q => by subst q; simp at hb
   simp [this]
 · exact ⟨i + 1, ⟨by omega, all_step p2 (by rw [mov_eq]; simpa [and_assoc] using hb)⟩, by omega, (by (refine Entails.mk' [] rfl rfl ?_ ?_ <;> repeat' (first | exact True.intro | exact lr | exact rr | exact SV.le_int (by omega) | exact SV.le_any _ | refine And.intro ?_ ?_)); done)⟩
 · refine .ret _ ?_
   conv => whnf
   refine ⟨[], ⟨?_, rfl⟩, trivial⟩
   conv => lhs; whnf
   have : i = l.length := by omega
   subst this
   simp [eq_of_getD mv0 hlen p2]
theorem p19 : FSpec Tryz.prog 41 [] [] (fun x r => x = .d (.bool true) ∧ r = []) := by
 refine spec_of hT (C := []) Tryz.func41 rfl Tryz.call41 rfl rfl rfl ?_
 conv => whnf
 repeat' (first | (refine CallX.of s27t [] rfl ⟨SV.le_lit rfl rfl, SV.le_lit rfl rfl, trivial⟩ trivial rfl rfl ?_; rintro x rout ⟨rfl, rfl⟩; refine ⟨rfl, ?_⟩; conv => whnf) | (refine CallX.of (p57 [⟨[97], [98], 1⟩] [⟨[97], [98], 1⟩] (by simp)) [] rfl ⟨lr, SV.le_lit rfl rfl, trivial⟩ trivial rfl rfl ?_; rintro x rout ⟨rfl, rfl⟩; refine ⟨rfl, ?_⟩; conv => whnf) | (refine br_intro ?_ ?_ <;> intro hb <;> (try simp only [brs] at hb) <;> conv => whnf) | omega | (refine And.intro ?_ ?_; ((try dsimp only); first | omega | (refine szA rfl ?_; omega) | (refine szB rfl ?_; omega) | (unfold inI64; omega) | exact rfl | (simp only [List.toList_toArray, List.length_cons, List.length_nil]; omega) | (simp only [lns] at *; omega) | decide | (unfold inI64; decide)); conv => whnf) | decide | assumption)
 all_goals try (exfalso; simp at hb; done)
 all_goals
  refine .ret _ ?_
  conv => whnf
  exact ⟨[], ⟨rfl, rfl⟩, trivial⟩
def ndS (x : Ned) : Prop := x.st.length ≤ 8
abbrev ndB (l : List Ned) : Res := seqB 150 2 ndF nd0 l
set_option maxHeartbeats 2000000 in
theorem sNds (n : Nat) (L : Nat → Int) (hL : Rok n L) (a : Int) (h0 : 0 ≤ a) (ha : a ≤ 2^38) :
 FSpec Tryz.prog 125 [.ptr 1000000 0] [(1000000, strm n L a)] (fun y r => (∃ l : List Ned, allK ndS 5 l ∧ y = .d (neds l)) ∧ Moved n L a 100 r) := by
 refine spec_of hT (C := []) Tryz.func125 rfl Tryz.call125 rfl rfl rfl ?_
 conv => whnf
 repeat' (first | (refine br_intro ?_ ?_ <;> intro hb <;> (try simp only [brs] at hb) <;> conv => whnf) | omega | (refine And.intro ?_ ?_; ((try dsimp only); first | omega | (refine szA rfl ?_; omega) | (refine szB rfl ?_; omega) | (unfold inI64; omega) | exact rfl | (simp only [List.toList_toArray, List.length_cons, List.length_nil]; omega) | (simp only [lns] at *; omega) | decide | (unfold inI64; decide)); conv => whnf) | decide | assumption)
 refine LoopX.rule hT (C := []) (ι := Int × Nat × List Ned) (fun (b, i, l) => (a ≤ b ∧ b ≤ a + 3 * i ∧ i ≤ 5) ∧ allK ndS i l)
  (fun (b, i, l) => mkSt [(0, .ptr 1000000 0), (3, .buf 3), (7, .d (strs tE)), (8, .d (.int .i64 5)), (9, .d (.int .i64 i))] [(1000000, strm n L b), (3, ndB l)]) (fun (_, i, _) => 5 - i) (a, 0, []) ⟨by simp, by simp [allK]⟩ ?_ ?_
 · exact (Entails.nil 3 3 150 2 (rowF ndF nd0 []) rfl rfl (by decide)).trans (by (refine Entails.mk' [(1000000, 1000000), (3, 3)] rfl rfl ?_ ?_ <;> repeat' (first | exact True.intro | exact lr | exact rr | (exact SV.le_lit rfl rfl) | exact SV.le_int (by omega) | exact SV.le_any _ | refine And.intro ?_ ?_)); done)
 rintro ⟨b, i, l⟩ ⟨⟨p1, p2, p3⟩, p4⟩
 have p1 : a ≤ b := p1
 have p2 : b ≤ a + 3 * i := p2
 have p3 : i ≤ 5 := p3
 have p4 : allK ndS i l := p4
 have hll := p4.1
 have htl : tE.length = 5 := rfl
 conv => whnf
 repeat' (first | (refine CallX.of (s84 n L hL _ ?_ ?_ _ ?_) [(1000000, 1000000)] rfl ⟨lr, lr, trivial⟩ ⟨rr, trivial⟩ rfl rfl ?_; rotate_right; rintro x rout ⟨⟨f, rfl⟩, ⟨c, c1, c2, rfl⟩⟩; refine ⟨rfl, ?_⟩; conv => whnf) | (refine CallX.of (s33 n L hL _ ?_ ?_ [0, 1, 2, 3, -1, -2, 4] ?_ ?_) [(1000000, 1000000)] rfl ⟨lr, SV.le_lit rfl rfl, trivial⟩ ⟨rr, trivial⟩ rfl rfl ?_; rotate_right; rintro x rout ⟨⟨u1, hu1, rfl⟩, ⟨c, c1, c2, rfl⟩⟩; refine ⟨rfl, ?_⟩; conv => whnf) | (refine br_intro ?_ ?_ <;> intro hb <;> (try simp only [brs] at hb) <;> conv => whnf) | omega | (refine And.intro ?_ ?_; ((try dsimp only); first | omega | (refine szA rfl ?_; omega) | (refine szB rfl ?_; omega) | (unfold inI64; omega) | exact rfl | (simp only [List.toList_toArray, List.length_cons, List.length_nil]; omega) | (simp only [lns] at *; omega) | decide | (unfold inI64; decide)); conv => whnf) | decide | assumption)
 all_goals try (exfalso; omega)
 · refine ⟨(_, i + 1, l ++ [⟨tE.getD i [], u1⟩]), ⟨⟨by omega, ?_, by omega⟩, allK_snoc p4 (by omega) (Nat.le_trans tE_len (by decide))⟩, (show 5 - (i + 1) < 5 - i by omega), Entails.mk' [(1000000, 1000000), (3, 23)] rfl rfl ⟨lr, lr, lr, lr, lr, trivial⟩ ⟨rr, Res.le_snocF rfl, trivial⟩⟩
   show _ ≤ a + 3 * ((i + 1 : Nat) : Int)
   omega
 · refine ⟨(_, i + 1, l), ⟨⟨by omega, ?_, by omega⟩, allK_le p4 (by omega)⟩, (show 5 - (i + 1) < 5 - i by omega), Entails.mk' [(1000000, 1000000), (3, 3)] rfl rfl ⟨lr, lr, lr, lr, lr, trivial⟩ ⟨rr, rr, trivial⟩⟩
   show _ ≤ a + 3 * ((i + 1 : Nat) : Int)
   omega
 all_goals
  have p5 : allK ndS 5 l := allK_le p4 (by omega)
  have hl5 := p5.1
  repeat' (first | (refine CallX.of (s86 n L hL _ ?_ ?_ _ ?_) [(1000000, 1000000)] rfl ⟨lr, lr, trivial⟩ ⟨rr, trivial⟩ rfl rfl ?_; rotate_right; rintro x rout ⟨⟨j, hj1, hj2, hj3, rfl⟩, ⟨c, c1, c2, rfl⟩⟩; refine ⟨rfl, ?_⟩; conv => whnf) | (refine CallX.of (s15 n L hL _ ?_ ?_ [(l.getD j.toNat nd0).st, [], [97]] (by simp) (by simp)) [(1000000, 1000000)] rfl ⟨lr, SV.le_lit rfl rfl, trivial⟩ ⟨rr, trivial⟩ rfl rfl ?_; rotate_right; rintro x rout ⟨⟨u1, hu1, rfl⟩, ⟨c, c1, c2, rfl⟩⟩; refine ⟨rfl, ?_⟩; conv => whnf) | (refine CallX.of (s104 n L hL _ ?_ ?_ (-20) 20 ?_ ?_ ?_) [(1000000, 1000000)] rfl ⟨lr, lr, lr, trivial⟩ ⟨rr, trivial⟩ rfl rfl ?_; rotate_right; rintro x rout ⟨⟨u3, hk1, hk2, rfl⟩, ⟨c, c1, c2, rfl⟩⟩; refine ⟨rfl, ?_⟩; conv => whnf) | (refine br_intro ?_ ?_ <;> intro hb <;> (try simp only [brs] at hb) <;> conv => whnf) | omega | (refine And.intro ?_ ?_; ((try dsimp only); first | omega | (refine szA rfl ?_; omega) | (refine szB rfl ?_; omega) | (unfold inI64; omega) | exact rfl | (simp only [List.toList_toArray, List.length_cons, List.length_nil]; omega) | (simp only [lns] at *; omega) | decide | (unfold inI64; decide)); conv => whnf) | decide | assumption)
 all_goals first
  | (refine .freeze _ 3 150 2 _ _ rfl (.weak _ ?_)
     (conv => whnf)
     have hx := p5.2 (l.getD j.toNat nd0) (getD_mem (by omega))
     have hq1 := three_len hu1 hx (by decide) (by decide)
     exact ⟨_, [(1000000, strm n L _)], SV.le_upd2 (f := ndF) (d := nd0) (fun y : Ned => { y with st := u1 }) (fun y => { y with many := u3 }) (fun _ => rfl) (fun _ => rfl), ⟨⟨_, allK_upd (g := fun y : Ned => { y with many := u3 }) (allK_upd (g := fun y : Ned => { y with st := u1 }) p5 (fun y hy => hq1)) (fun y hy => hy), rfl⟩, _, by omega, by omega, rfl⟩, rr, trivial⟩)
  | (refine .freeze _ 3 150 2 _ _ rfl (.weak _ ?_)
     (conv => whnf)
     exact ⟨_, [(1000000, strm n L _)], lr, ⟨⟨l, p5, rfl⟩, _, by omega, by omega, rfl⟩, rr, trivial⟩)
def oXPiD33_11 : List (Nat × List Nat) := [(0, []), (1, [0]), (2, [0, 1]), (3, [0, 1]), (8, [0, 1, 2, 3]), (9, [0, 1, 2, 3, 8]), (4, [0, 8, 9]), (5, [8, 9]), (6, [8, 9]), (7, [8, 9]), (10, [0, 5, 6, 7]), (11, []), (12, []), (13, []), (14, [])]
def oXPiD33_16 : List (Nat × List Nat) := [(0, []), (1, [0]), (2, [0, 1]), (4, [0, 1, 2]), (5, [0, 1, 2, 4]), (7, [0, 1, 2, 4, 5]), (8, [0, 1, 2, 4, 5, 7]), (3, [0, 4, 5, 7, 8]), (6, [0, 7, 8]), (9, [0]), (10, [0]), (11, [0]), (12, []), (13, [])]
def oXPiD33_23 : List (Nat × List Nat) := [(0, []), (1, [0]), (2, [0, 1]), (3, [0, 1, 2]), (4, [0, 1, 2]), (5, [0, 1, 2]), (6, [0, 1, 2]), (7, [0, 1, 2]), (9, [0, 1, 2, 3, 4, 5, 6, 7]), (8, [0, 1, 9]), (10, [0, 1]), (11, [1]), (12, [1]), (13, [1]), (14, []), (15, []), (16, [])]
theorem p33 (l : List Roa) (hl : l.length ≤ 2^20) : FSpec Tryz.prog 114 [.d (roas l)] [] (fun y r => y = .buf 7 ∧ r = [(7, rdB l)]) := by
 refine spec_of hT (C := [5]) Tryz.func114 rfl Tryz.call114 rfl rfl rfl ?_
 conv => whnf
 rintro b hbn
 conv => whnf
 repeat' (first | (refine br_intro ?_ ?_ <;> intro hb <;> (try simp only [brs] at hb) <;> conv => whnf) | omega | (refine And.intro ?_ ?_; ((try dsimp only); first | omega | (refine szA rfl ?_; omega) | (refine szB rfl ?_; omega) | (unfold inI64; omega) | exact rfl | (simp only [List.toList_toArray, List.length_cons, List.length_nil]; omega) | (simp only [lns] at *; omega) | decide | (unfold inI64; decide)); conv => whnf) | decide | assumption)
 · have h0 : l = [] := List.eq_nil_of_length_eq_zero (hbn (by assumption))
   subst h0
   refine .ent _ _ (Entails.nil 2 7 153 4 (rowF rdF rd0 []) rfl rfl (by decide)) (.ret _ ?_)
   conv => whnf
   exact ⟨_, ⟨rfl, rfl⟩, rr, trivial⟩
 · refine .ret _ ?_
   conv => whnf
   refine ⟨_, ⟨rfl, rfl⟩, Res.le_buf (by simp) (fun i hi => ?_), trivial⟩
   rw [appGet_ge (by omega)]; rfl
def carL (l : List Roa) (j : Nat) (u : Int) : List Roa := l.set j { l.getD j rd0 with car := u }
theorem carL_at (l : List Roa) (j : Nat) (u : Int) (i : Nat) : ((carL l j u).getD i rd0).a = (l.getD i rd0).a ∧ ((carL l j u).getD i rd0).b = (l.getD i rd0).b ∧ ((carL l j u).getD i rd0).ride = (l.getD i rd0).ride ∧ (((carL l j u).getD i rd0).car = (l.getD i rd0).car ∨ ((carL l j u).getD i rd0).car = u) := by
 unfold carL
 by_cases hj : j < l.length
 · by_cases e : j = i
   · subst e
     have : (l.set j { l.getD j rd0 with car := u }).getD j rd0 = { l.getD j rd0 with car := u } := by
      rw [List.getD_eq_getElem?_getD, List.getElem?_set_self hj]; rfl
     rw [this]; exact ⟨rfl, rfl, rfl, .inr rfl⟩
   · have : (l.set j { l.getD j rd0 with car := u }).getD i rd0 = l.getD i rd0 := by
      rw [List.getD_eq_getElem?_getD, List.getElem?_set_ne e, ← List.getD_eq_getElem?_getD]
     rw [this]; exact ⟨rfl, rfl, rfl, .inl rfl⟩
 · rw [List.set_eq_of_length_le (by omega)]; exact ⟨rfl, rfl, rfl, .inl rfl⟩
theorem rds_car {l : List Roa} (h : rdsE l = 0) {j : Nat} {u : Int} (hu : 0 ≤ u ∧ u ≤ 1000000) : rdsE (carL l j u) = 0 := by
 obtain ⟨h1, h2⟩ := rds_all h
 have hlen : (carL l j u).length = l.length := by unfold carL; rw [List.length_set]
 unfold rdsE
 rw [hlen, if_neg (by omega)]
 refine firstAt_zero fun i hi => ?_
 have h3 := h2 i hi
 obtain ⟨a1, a2, a3, a4⟩ := carL_at l j u i
 obtain ⟨b1, b2, _⟩ := carL_at l j u (i - 1)
 have hb := rd_bd h hi
 have hc : (0 ≤ ((carL l j u).getD i rd0).car ∧ ((carL l j u).getD i rd0).car ≤ 1000000) := by rcases a4 with q | q <;> rw [q]; exact hb.1; exact hu
 unfold rdE at h3 ⊢
 simp only [a1, a2, a3, b1, b2] at h3 ⊢
 rw [if_neg (c := ¬ ((0 ≤ ((carL l j u).getD i rd0).car ∧ ((carL l j u).getD i rd0).car ≤ 1000000) ∧ (0 ≤ (l.getD i rd0).ride ∧ (l.getD i rd0).ride ≤ 1000000))) (fun q => q ⟨hc, hb.2⟩)]
 rw [if_neg (c := ¬ ((0 ≤ (l.getD i rd0).car ∧ (l.getD i rd0).car ≤ 1000000) ∧ (0 ≤ (l.getD i rd0).ride ∧ (l.getD i rd0).ride ≤ 1000000))) (fun q => q ⟨hb.1, hb.2⟩)] at h3
 exact h3
theorem lsV_mem {n : List Ned} {r : List Roa} : ∀ (m a : Nat) (x : Nat → Int), ∀ y ∈ lsV (mvN n r) m a x, ∃ k v, y = mvN n r k v
 | 0, _, _, y, hy => by cases hy
 | m + 1, a, x, y, hy => by
   rw [lsV] at hy
   rcases List.mem_append.1 hy with z | z
   · split at z
     · exact ⟨a, x 0, by simpa using z⟩
     · cases z
   · exact lsV_mem m (a + 1) (vtl x) y z
theorem getD_or {n : List Ned} (i : Nat) : n.getD i nd0 ∈ n ∨ n.getD i nd0 = nd0 := by
 by_cases h : i < n.length
 · exact .inl (getD_mem h)
 · right; rw [List.getD_eq_getElem?_getD, List.getElem?_eq_none (by omega)]; rfl
theorem ned_st {n : List Ned} (hN : allK ndS 5 n) (i : Nat) : (n.getD i nd0).st.length ≤ 8 := by
 rcases getD_or (n := n) i with q | q
 · exact hN.2 _ q
 · rw [q]; decide
theorem mvN_g {n : List Ned} (hN : allK ndS 5 n) {r : List Roa} {k : Nat} {v : Int} : (mvN n r k v).a.length ≤ 8 ∧ (mvN n r k v).b.length ≤ 8 := ⟨ned_st hN _, ned_st hN _⟩
theorem pof_g {n : List Ned} {r : List Roa} {M : PMap Mov} (hN : allK ndS 5 n) (hn : ndsE n = 0) (hr : rdsE r = 0) (h : NowI n r n.length M) {q : Pla Mov} (hq : M (List.replicate (wanS n n.length).length 0) = some q) : allK mvG 100 q.l ∧ ∀ m ∈ q.l, mvS m := by
 have b1 := (h.bnd _ _ hq).1
 have b2 := (nds_all hn).1
 have b3 := wanS_len n n.length
 have b4 : n.length * (wanS n n.length).length ≤ 10 * 10 := Nat.mul_le_mul b2 (by omega)
 have hb := pof_best hn hr h
 rw [hq] at hb
 obtain ⟨x, _, hx⟩ := hb
 exact ⟨⟨by omega, fun y hy => by have hs := b1.2 y hy; rw [hx] at hy; obtain ⟨k, v, rfl⟩ := lsV_mem _ _ _ y hy; exact ⟨mvN_g hN, by have h1 := hs.1; have h2 := hs.2; omega⟩⟩, b1.2⟩
set_option maxHeartbeats 16000000 in
theorem sMvs (n : Nat) (L : Nat → Int) (hL : Rok n L) (a0 : Int) (h00 : 0 ≤ a0) (ha0 : a0 ≤ 2^35) (N : List Ned) (R : List Roa) (hN : allK ndS 5 N) (hR : allK rdS 25 R) :
 FSpec Tryz.prog 33 [.ptr 1000000 0, .d (neds N), .d (roas R)] [(1000000, strm n L a0)] (fun y r => (∃ l : List Mov, allK mvG 100 l ∧ y = .d (movs l)) ∧ Moved n L a0 200 r) := by
 have hnd : ndOk N := ⟨by have := hN.1; omega, fun x hx => by have h1 : x.st.length ≤ 8 := hN.2 x hx; show x.st.length ≤ 2^40; omega⟩
 have hrd : rdOk R := ⟨by have := hR.1; omega, fun x hx => by have h1 := hR.2 x hx; exact ⟨by have := h1.1; omega, by have := h1.2; omega⟩⟩
 have hRl := hR.1
 have h20 := z20 N hnd
 have h21 := z21 R hrd
 obtain ⟨e1, he1⟩ : ∃ e, ndsE N = e := ⟨_, rfl⟩
 obtain ⟨e2, he2⟩ : ∃ e, rdsE R = e := ⟨_, rfl⟩
 rw [he1] at h20
 rw [he2] at h21
 refine spec_of hT (C := []) Tryz.func33 rfl Tryz.call33 rfl rfl rfl ?_
 conv => whnf
 repeat' (first | (refine CallX.exact (h20) rfl rfl ?_; rotate_right; conv => whnf) | (refine CallX.exact (h21) rfl rfl ?_; rotate_right; conv => whnf) | (refine CallX.of (s84 n L hL _ ?_ ?_ _ ?_) [(1000000, 1000000)] rfl ⟨lr, lr, trivial⟩ ⟨rr, trivial⟩ rfl rfl ?_; rotate_right; rintro x rout ⟨⟨f, rfl⟩, ⟨c, c1, c2, rfl⟩⟩; refine ⟨rfl, ?_⟩; conv => whnf) | (refine CallX.of (p33 R (by omega)) [(7, 7)] rfl ⟨lr, trivial⟩ trivial rfl rfl ?_; rintro x rout ⟨rfl, rfl⟩; refine ⟨rfl, ?_⟩; conv => whnf) | (refine CallX.of (s64 n L hL _ ?_ ?_ 0 5 ?_ ?_ ?_ ?_) [(1000000, 1000000)] rfl ⟨lr, lr, lr, trivial⟩ ⟨rr, trivial⟩ rfl rfl ?_; rotate_right; rintro x rout ⟨⟨k, hk1, hk2, rfl⟩, ⟨c, c1, c2, rfl⟩⟩; refine ⟨rfl, ?_⟩; conv => whnf) | (refine br_intro ?_ ?_ <;> intro hb <;> (try simp only [brs] at hb) <;> conv => whnf) | (refine RegX.rule (id := 11) hT rfl [] oXPiD33_11 (by decide +kernel) ?_; conv => whnf) | (refine RegX.rule (id := 16) hT rfl [] oXPiD33_16 (by decide +kernel) ?_; conv => whnf) | (refine RegX.rule (id := 23) hT rfl [] oXPiD33_23 (by decide +kernel) ?_; conv => whnf) | omega | (refine And.intro ?_ ?_; ((try dsimp only); first | omega | (refine szA rfl ?_; omega) | (refine szB rfl ?_; omega) | (unfold inI64; omega) | exact rfl | (simp only [List.toList_toArray, List.length_cons, List.length_nil]; omega) | (simp only [lns] at *; omega) | decide | (unfold inI64; decide)); conv => whnf) | decide | assumption)
 · have h1 : ndsE N = 0 := by omega
   have h2 : rdsE R = 0 := by omega
   refine LoopX.rule hT (C := []) (ι := Int × List Roa × Nat) (fun (b, l, i) => (a0 ≤ b ∧ b ≤ a0 + 1 + i ∧ i ≤ R.length) ∧ (rdsE l = 0 ∧ l.length = R.length))
    (fun (b, l, i) => mkSt [(1, .d (neds N)), (3, .ptr 3 0), (7, .buf 7), (29, .d (.int .i64 R.length)), (30, .d (.int .i64 i))] [(1000000, strm n L b), (3, .cells 23 [.ptr 1000000 0]), (7, rdB l)]) (fun (_, _, i) => R.length - i) (c, R, 0) ⟨⟨by omega, by show c ≤ a0 + 1 + ((0 : Nat) : Int); omega, by omega⟩, h2, rfl⟩ (by (refine Entails.mk' [(1000000, 1000000), (3, 3), (7, 7)] rfl rfl ?_ ?_ <;> repeat' (first | exact True.intro | exact lr | exact rr | exact SV.le_int (by omega) | exact SV.le_any _ | refine And.intro ?_ ?_)); done) ?_
   rintro ⟨a, l, i⟩ ⟨⟨p1, p2, p3⟩, p4, p5⟩
   have p1 : a0 ≤ a := p1
   have p2 : a ≤ a0 + 1 + i := p2
   have p3 : i ≤ R.length := p3
   have p4 : rdsE l = 0 := p4
   have p5 : l.length = R.length := p5
   rcases Nat.lt_or_ge i R.length with hin | hin
   · conv => whnf
     repeat' (first | (refine CallX.of (s64 n L hL _ ?_ ?_ 0 9 ?_ ?_ ?_ ?_) [(1000000, 1000000)] rfl ⟨lr, lr, lr, trivial⟩ ⟨rr, trivial⟩ rfl rfl ?_; rotate_right; rintro x rout ⟨⟨u, hu1, hu2, rfl⟩, ⟨c, c1, c2, rfl⟩⟩; refine ⟨rfl, ?_⟩; conv => whnf) | (refine br_intro ?_ ?_ <;> intro hb <;> (try simp only [brs] at hb) <;> conv => whnf) | (refine RegX.rule (id := 11) hT rfl [] oXPiD33_11 (by decide +kernel) ?_; conv => whnf) | (refine RegX.rule (id := 16) hT rfl [] oXPiD33_16 (by decide +kernel) ?_; conv => whnf) | (refine RegX.rule (id := 23) hT rfl [] oXPiD33_23 (by decide +kernel) ?_; conv => whnf) | omega | (refine And.intro ?_ ?_; ((try dsimp only); first | omega | (refine szA rfl ?_; omega) | (refine szB rfl ?_; omega) | (unfold inI64; omega) | exact rfl | (simp only [List.toList_toArray, List.length_cons, List.length_nil]; omega) | (simp only [lns] at *; omega) | decide | (unfold inI64; decide)); conv => whnf) | decide | assumption)
     all_goals try (exfalso; omega)
     refine ⟨(_, carL l i u, i + 1), ⟨⟨by omega, ?_, by omega⟩, rds_car p4 ⟨by omega, by omega⟩, by unfold carL; rw [List.length_set]; exact p5⟩, (show R.length - (i + 1) < R.length - i by omega), Entails.mk' [(1000000, 1000000), (3, 3), (7, 7)] rfl rfl ⟨lr, lr, lr, lr, lr, trivial⟩ ⟨rr, rr, Res.le_upd (fun y : Roa => { y with car := u }) (fun _ => rfl), trivial⟩⟩
     show _ ≤ a0 + 1 + ((i + 1 : Nat) : Int)
     omega
   have h0 : 0 ≤ a := by omega
   have ha : a ≤ 2^36 := by omega
   conv => whnf
   repeat' (first | (refine br_intro ?_ ?_ <;> intro hb <;> (try simp only [brs] at hb) <;> conv => whnf) | (refine RegX.rule (id := 11) hT rfl [] oXPiD33_11 (by decide +kernel) ?_; conv => whnf) | (refine RegX.rule (id := 16) hT rfl [] oXPiD33_16 (by decide +kernel) ?_; conv => whnf) | (refine RegX.rule (id := 23) hT rfl [] oXPiD33_23 (by decide +kernel) ?_; conv => whnf) | omega | (refine And.intro ?_ ?_; ((try dsimp only); first | omega | (refine szA rfl ?_; omega) | (refine szB rfl ?_; omega) | (unfold inI64; omega) | exact rfl | (simp only [List.toList_toArray, List.length_cons, List.length_nil]; omega) | (simp only [lns] at *; omega) | decide | (unfold inI64; decide)); conv => whnf) | decide | assumption)
   all_goals try (exfalso; omega)
   refine CallX.freeze _ _ _ _ 7 153 4 _ _ rfl rfl ?_
   refine CallX.of (p35 N l h1 p4) [(7, 9)] rfl ⟨lr, lr, trivial⟩ trivial rfl rfl ?_
   rintro x rout ⟨o, ⟨M, hM, hMo⟩, hcase⟩
   cases o with
   | none =>
     rcases hcase with ⟨hz, rfl, rfl⟩ | ⟨hz, rfl, rfl⟩
     · refine ⟨rfl, ?_⟩
       conv => whnf
       repeat' (first | (refine CallX.of (s64 n L hL _ ?_ ?_ 0 5 ?_ ?_ ?_ ?_) [(1000000, 1000000)] rfl ⟨lr, lr, lr, trivial⟩ ⟨rr, trivial⟩ rfl rfl ?_; rotate_right; rintro x rout ⟨⟨k, hk1, hk2, rfl⟩, ⟨c, c1, c2, rfl⟩⟩; refine ⟨rfl, ?_⟩; conv => whnf) | (refine br_intro ?_ ?_ <;> intro hb <;> (try simp only [brs] at hb) <;> conv => whnf) | (refine RegX.rule (id := 11) hT rfl [] oXPiD33_11 (by decide +kernel) ?_; conv => whnf) | (refine RegX.rule (id := 16) hT rfl [] oXPiD33_16 (by decide +kernel) ?_; conv => whnf) | (refine RegX.rule (id := 23) hT rfl [] oXPiD33_23 (by decide +kernel) ?_; conv => whnf) | omega | (refine And.intro ?_ ?_; ((try dsimp only); first | omega | (refine szA rfl ?_; omega) | (refine szB rfl ?_; omega) | (unfold inI64; omega) | exact rfl | (simp only [List.toList_toArray, List.length_cons, List.length_nil]; omega) | (simp only [lns] at *; omega) | decide | (unfold inI64; decide)); conv => whnf) | decide | assumption)
       refine LoopX.rule hT (C := []) (ι := Int × List Mov × Nat) (fun (b, l, i) => (a ≤ b ∧ b ≤ a + 2 + 3 * i ∧ (i : Int) ≤ k) ∧ allK mvG i l)
        (fun (b, l, i) => mkSt [(3, .ptr 3 0), (11, .buf 11), (70, .d (.int .i64 k)), (71, .d (.int .i64 i))] [(1000000, strm n L b), (3, .cells 23 [.ptr 1000000 0]), (11, mvB l)])
        (fun (_, _, i) => (k - i).toNat) (c, [], 0) ⟨⟨by show a ≤ c; omega, by show c ≤ a + 2 + 3 * ((0 : Nat) : Int); omega, by show ((0 : Nat) : Int) ≤ k; omega⟩, ⟨by simp, fun x hx => by cases hx⟩⟩ ?_ ?_
       · exact (Entails.nil 11 11 67 3 (rowF mvF mv0 []) rfl rfl (by decide)).trans (by (refine Entails.mk' [(1000000, 1000000), (3, 3), (11, 11)] rfl rfl ?_ ?_ <;> repeat' (first | exact True.intro | exact lr | exact rr | exact SV.le_int (by omega) | exact SV.le_any _ | refine And.intro ?_ ?_)); done)
       rintro ⟨b, l, i⟩ ⟨⟨p1, p2, p3⟩, p4⟩
       have p1 : a ≤ b := p1
       have p2 : b ≤ a + 2 + 3 * i := p2
       have p3 : (i : Int) ≤ k := p3
       have p4 : allK mvG i l := p4
       have hl1 := p4.1
       conv => whnf
       repeat' (first | (refine CallX.of (s15 n L hL _ ?_ ?_ [[97], [98], [99], [100]] (by simp) (by simp)) [(1000000, 1000000)] rfl ⟨lr, SV.le_lit rfl rfl, trivial⟩ ⟨rr, trivial⟩ rfl rfl ?_; rotate_right; rintro x rout ⟨⟨u1, hu1, rfl⟩, ⟨c, c1, c2, rfl⟩⟩; have hw1 := mem_len hu1 rfl; refine ⟨rfl, ?_⟩; conv => whnf) | (refine CallX.of (s15 n L hL _ ?_ ?_ [[98], [99], [100], [101]] (by simp) (by simp)) [(1000000, 1000000)] rfl ⟨lr, SV.le_lit rfl rfl, trivial⟩ ⟨rr, trivial⟩ rfl rfl ?_; rotate_right; rintro x rout ⟨⟨u2, hu2, rfl⟩, ⟨c, c1, c2, rfl⟩⟩; have hw2 := mem_len hu2 rfl; refine ⟨rfl, ?_⟩; conv => whnf) | (refine CallX.of (s33 n L hL _ ?_ ?_ [1, 1, 2] ?_ ?_) [(1000000, 1000000)] rfl ⟨lr, SV.le_lit rfl rfl, trivial⟩ ⟨rr, trivial⟩ rfl rfl ?_; rotate_right; rintro x rout ⟨⟨u3, hu3, rfl⟩, ⟨c, c1, c2, rfl⟩⟩; refine ⟨rfl, ?_⟩; conv => whnf) | (refine br_intro ?_ ?_ <;> intro hb <;> (try simp only [brs] at hb) <;> conv => whnf) | (refine RegX.rule (id := 11) hT rfl [] oXPiD33_11 (by decide +kernel) ?_; conv => whnf) | (refine RegX.rule (id := 16) hT rfl [] oXPiD33_16 (by decide +kernel) ?_; conv => whnf) | (refine RegX.rule (id := 23) hT rfl [] oXPiD33_23 (by decide +kernel) ?_; conv => whnf) | omega | (refine And.intro ?_ ?_; ((try dsimp only); first | omega | (refine szA rfl ?_; omega) | (refine szB rfl ?_; omega) | (unfold inI64; omega) | exact rfl | (simp only [List.toList_toArray, List.length_cons, List.length_nil]; omega) | (simp only [lns] at *; omega) | decide | (unfold inI64; decide)); conv => whnf) | decide | assumption)
       · refine ⟨(_, l ++ [⟨u1, u2, u3⟩], i + 1), ⟨⟨by omega, ?_, by omega⟩, allK_snoc p4 (by omega) ⟨⟨hw1, hw2⟩, by simp at hu3; show -2^41 ≤ u3 ∧ u3 ≤ 2^41; omega⟩⟩, (show (k - ((i + 1 : Nat) : Int)).toNat < (k - (i : Int)).toNat by omega), Entails.mk' [(1000000, 1000000), (3, 3), (11, 85)] rfl rfl ⟨lr, lr, lr, lr, trivial⟩ ⟨rr, rr, Res.le_snocF rfl, trivial⟩⟩
         show _ ≤ a + 2 + 3 * ((i + 1 : Nat) : Int)
         omega
       have hl5 : l.length ≤ 5 := by omega
       have hi5 : i ≤ 5 := by omega
       refine CallX.of (z99 117 (fun x y => cmpS (mvKey x) (mvKey y)) l (by omega) (fun x y hx hy => z100 x y (p4.2 x hx).1 (p4.2 y hy).1)) [(1000001, 11)] rfl ⟨lr, lr, trivial⟩ ⟨rr, trivial⟩ rfl rfl ?_
       rintro x rout ⟨rfl, c1, hc1, rfl⟩
       refine ⟨rfl, ?_⟩
       have hcl1 : c1.length ≤ 5 := by have := hc1.1; omega
       conv => whnf
       refine CallX.of (z102 120 (fun x y => x.a == y.a && x.b == y.b) c1 (by omega) (fun x y _ _ => z103 x y)) [(1000001, 11), (64, 200)] rfl ⟨lr, lr, trivial⟩ ⟨rr, trivial⟩ rfl rfl ?_
       rintro x rout ⟨c2, hc2, nm, hnm, rfl, rfl⟩
       have hcl2 : c2.length ≤ 5 := by have := hc2.1; omega
       rcases hnm with rfl | rfl
       · refine ⟨rfl, ?_⟩
         conv => whnf
         refine CallX.of (z104 n L hL b (by omega) (by omega) c2 (by omega)) [(1000000, 1000000), (1000001, 11), (1000002, 3), (41, 300)] rfl ⟨lr, lr, trivial⟩ ⟨rr, rr, rr, trivial⟩ rfl rfl ?_
         rintro x rout ⟨e, he1, nm, hnm, rfl, c5, ⟨hv1, hv2⟩, rfl⟩
         rcases hnm with rfl | rfl
         · refine ⟨rfl, ?_⟩
           conv => whnf
           have hsh : allK mvG 100 e := ⟨by have := hc1.1; have := hc2.1; have := he1.1; omega, fun p hp => p4.2 p (hc1.2 p (hc2.2 p (he1.2 p hp)))⟩
           have he5 := hsh.1
           repeat' (first | (refine CallX.of (s84 n L hL _ ?_ ?_ _ ?_) [(1000000, 1000000)] rfl ⟨lr, lr, trivial⟩ ⟨rr, trivial⟩ rfl rfl ?_; rotate_right; rintro x rout ⟨⟨f, rfl⟩, ⟨c, c1, c2, rfl⟩⟩; refine ⟨rfl, ?_⟩; conv => whnf) | (refine CallX.of (s86 n L hL _ ?_ ?_ _ ?_) [(1000000, 1000000)] rfl ⟨lr, lr, trivial⟩ ⟨rr, trivial⟩ rfl rfl ?_; rotate_right; rintro x rout ⟨⟨j, hj1, hj2, hj3, rfl⟩, ⟨c, c1, c2, rfl⟩⟩; refine ⟨rfl, ?_⟩; conv => whnf) | (refine CallX.of (s15 n L hL _ ?_ ?_ [(e.getD j.toNat mv0).a, [], [122]] (by simp) (by simp)) [(1000000, 1000000)] rfl ⟨lr, SV.le_lit rfl rfl, trivial⟩ ⟨rr, trivial⟩ rfl rfl ?_; rotate_right; rintro x rout ⟨⟨u1, hu1, rfl⟩, ⟨c, c1, c2, rfl⟩⟩; refine ⟨rfl, ?_⟩; conv => whnf) | (refine CallX.of (s104 n L hL _ ?_ ?_ 1 20 ?_ ?_ ?_) [(1000000, 1000000)] rfl ⟨lr, lr, lr, trivial⟩ ⟨rr, trivial⟩ rfl rfl ?_; rotate_right; rintro x rout ⟨⟨u3, hk1, hk2, rfl⟩, ⟨c, c1, c2, rfl⟩⟩; refine ⟨rfl, ?_⟩; conv => whnf) | (refine br_intro ?_ ?_ <;> intro hb <;> (try simp only [brs] at hb) <;> conv => whnf) | (refine RegX.rule (id := 11) hT rfl [] oXPiD33_11 (by decide +kernel) ?_; conv => whnf) | (refine RegX.rule (id := 16) hT rfl [] oXPiD33_16 (by decide +kernel) ?_; conv => whnf) | (refine RegX.rule (id := 23) hT rfl [] oXPiD33_23 (by decide +kernel) ?_; conv => whnf) | omega | (refine And.intro ?_ ?_; ((try dsimp only); first | omega | (refine szA rfl ?_; omega) | (refine szB rfl ?_; omega) | (unfold inI64; omega) | exact rfl | (simp only [List.toList_toArray, List.length_cons, List.length_nil]; omega) | (simp only [lns] at *; omega) | decide | (unfold inI64; decide)); conv => whnf) | decide | assumption)
           all_goals first
            | (first
                | refine .freeze _ 11 67 3 _ _ rfl (.weak _ ?_)
                | refine .freeze _ 200 67 3 _ _ rfl (.weak _ ?_)
                | refine .freeze _ 300 67 3 _ _ rfl (.weak _ ?_)
               (conv => whnf)
               have hx := hsh.2 (e.getD j.toNat mv0) (getD_mem (by omega))
               have hq1 := three_len hu1 hx.1.1 (by decide) (by decide)
               exact ⟨_, [(1000000, strm n L _)], SV.le_upd2 (f := mvF) (d := mv0) (l := e) (fun y : Mov => { y with a := u1 }) (fun y => { y with many := u3 }) (fun _ => rfl) (fun _ => rfl), ⟨⟨_, allK_upd (g := fun y : Mov => { y with many := u3 }) (allK_upd (g := fun y : Mov => { y with a := u1 }) hsh (fun y hy => ⟨⟨hq1, hy.1.2⟩, hy.2⟩)) (fun y hy => ⟨hy.1, by show -2^41 ≤ u3 ∧ u3 ≤ 2^41; omega⟩), rfl⟩, _, by omega, by omega, rfl⟩, rr, trivial⟩)
            | (first
                | refine .freeze _ 11 67 3 _ _ rfl (.weak _ ?_)
                | refine .freeze _ 200 67 3 _ _ rfl (.weak _ ?_)
                | refine .freeze _ 300 67 3 _ _ rfl (.weak _ ?_)
               (conv => whnf)
               exact ⟨_, [(1000000, strm n L _)], lr, ⟨⟨e, hsh, rfl⟩, _, by omega, by omega, rfl⟩, rr, trivial⟩)
         · refine ⟨rfl, ?_⟩
           conv => whnf
           have hsh : allK mvG 100 e := ⟨by have := hc1.1; have := hc2.1; have := he1.1; omega, fun p hp => p4.2 p (hc1.2 p (hc2.2 p (he1.2 p hp)))⟩
           have he5 := hsh.1
           repeat' (first | (refine CallX.of (s84 n L hL _ ?_ ?_ _ ?_) [(1000000, 1000000)] rfl ⟨lr, lr, trivial⟩ ⟨rr, trivial⟩ rfl rfl ?_; rotate_right; rintro x rout ⟨⟨f, rfl⟩, ⟨c, c1, c2, rfl⟩⟩; refine ⟨rfl, ?_⟩; conv => whnf) | (refine CallX.of (s86 n L hL _ ?_ ?_ _ ?_) [(1000000, 1000000)] rfl ⟨lr, lr, trivial⟩ ⟨rr, trivial⟩ rfl rfl ?_; rotate_right; rintro x rout ⟨⟨j, hj1, hj2, hj3, rfl⟩, ⟨c, c1, c2, rfl⟩⟩; refine ⟨rfl, ?_⟩; conv => whnf) | (refine CallX.of (s15 n L hL _ ?_ ?_ [(e.getD j.toNat mv0).a, [], [122]] (by simp) (by simp)) [(1000000, 1000000)] rfl ⟨lr, SV.le_lit rfl rfl, trivial⟩ ⟨rr, trivial⟩ rfl rfl ?_; rotate_right; rintro x rout ⟨⟨u1, hu1, rfl⟩, ⟨c, c1, c2, rfl⟩⟩; refine ⟨rfl, ?_⟩; conv => whnf) | (refine CallX.of (s104 n L hL _ ?_ ?_ 1 20 ?_ ?_ ?_) [(1000000, 1000000)] rfl ⟨lr, lr, lr, trivial⟩ ⟨rr, trivial⟩ rfl rfl ?_; rotate_right; rintro x rout ⟨⟨u3, hk1, hk2, rfl⟩, ⟨c, c1, c2, rfl⟩⟩; refine ⟨rfl, ?_⟩; conv => whnf) | (refine br_intro ?_ ?_ <;> intro hb <;> (try simp only [brs] at hb) <;> conv => whnf) | (refine RegX.rule (id := 11) hT rfl [] oXPiD33_11 (by decide +kernel) ?_; conv => whnf) | (refine RegX.rule (id := 16) hT rfl [] oXPiD33_16 (by decide +kernel) ?_; conv => whnf) | (refine RegX.rule (id := 23) hT rfl [] oXPiD33_23 (by decide +kernel) ?_; conv => whnf) | omega | (refine And.intro ?_ ?_; ((try dsimp only); first | omega | (refine szA rfl ?_; omega) | (refine szB rfl ?_; omega) | (unfold inI64; omega) | exact rfl | (simp only [List.toList_toArray, List.length_cons, List.length_nil]; omega) | (simp only [lns] at *; omega) | decide | (unfold inI64; decide)); conv => whnf) | decide | assumption)
           all_goals first
            | (first
                | refine .freeze _ 11 67 3 _ _ rfl (.weak _ ?_)
                | refine .freeze _ 200 67 3 _ _ rfl (.weak _ ?_)
                | refine .freeze _ 300 67 3 _ _ rfl (.weak _ ?_)
               (conv => whnf)
               have hx := hsh.2 (e.getD j.toNat mv0) (getD_mem (by omega))
               have hq1 := three_len hu1 hx.1.1 (by decide) (by decide)
               exact ⟨_, [(1000000, strm n L _)], SV.le_upd2 (f := mvF) (d := mv0) (l := e) (fun y : Mov => { y with a := u1 }) (fun y => { y with many := u3 }) (fun _ => rfl) (fun _ => rfl), ⟨⟨_, allK_upd (g := fun y : Mov => { y with many := u3 }) (allK_upd (g := fun y : Mov => { y with a := u1 }) hsh (fun y hy => ⟨⟨hq1, hy.1.2⟩, hy.2⟩)) (fun y hy => ⟨hy.1, by show -2^41 ≤ u3 ∧ u3 ≤ 2^41; omega⟩), rfl⟩, _, by omega, by omega, rfl⟩, rr, trivial⟩)
            | (first
                | refine .freeze _ 11 67 3 _ _ rfl (.weak _ ?_)
                | refine .freeze _ 200 67 3 _ _ rfl (.weak _ ?_)
                | refine .freeze _ 300 67 3 _ _ rfl (.weak _ ?_)
               (conv => whnf)
               exact ⟨_, [(1000000, strm n L _)], lr, ⟨⟨e, hsh, rfl⟩, _, by omega, by omega, rfl⟩, rr, trivial⟩)
       · refine ⟨rfl, ?_⟩
         conv => whnf
         refine CallX.of (z104 n L hL b (by omega) (by omega) c2 (by omega)) [(1000000, 1000000), (1000001, 200), (1000002, 3), (41, 300)] rfl ⟨lr, lr, trivial⟩ ⟨rr, rr, rr, trivial⟩ rfl rfl ?_
         rintro x rout ⟨e, he1, nm, hnm, rfl, c5, ⟨hv1, hv2⟩, rfl⟩
         rcases hnm with rfl | rfl
         · refine ⟨rfl, ?_⟩
           conv => whnf
           have hsh : allK mvG 100 e := ⟨by have := hc1.1; have := hc2.1; have := he1.1; omega, fun p hp => p4.2 p (hc1.2 p (hc2.2 p (he1.2 p hp)))⟩
           have he5 := hsh.1
           repeat' (first | (refine CallX.of (s84 n L hL _ ?_ ?_ _ ?_) [(1000000, 1000000)] rfl ⟨lr, lr, trivial⟩ ⟨rr, trivial⟩ rfl rfl ?_; rotate_right; rintro x rout ⟨⟨f, rfl⟩, ⟨c, c1, c2, rfl⟩⟩; refine ⟨rfl, ?_⟩; conv => whnf) | (refine CallX.of (s86 n L hL _ ?_ ?_ _ ?_) [(1000000, 1000000)] rfl ⟨lr, lr, trivial⟩ ⟨rr, trivial⟩ rfl rfl ?_; rotate_right; rintro x rout ⟨⟨j, hj1, hj2, hj3, rfl⟩, ⟨c, c1, c2, rfl⟩⟩; refine ⟨rfl, ?_⟩; conv => whnf) | (refine CallX.of (s15 n L hL _ ?_ ?_ [(e.getD j.toNat mv0).a, [], [122]] (by simp) (by simp)) [(1000000, 1000000)] rfl ⟨lr, SV.le_lit rfl rfl, trivial⟩ ⟨rr, trivial⟩ rfl rfl ?_; rotate_right; rintro x rout ⟨⟨u1, hu1, rfl⟩, ⟨c, c1, c2, rfl⟩⟩; refine ⟨rfl, ?_⟩; conv => whnf) | (refine CallX.of (s104 n L hL _ ?_ ?_ 1 20 ?_ ?_ ?_) [(1000000, 1000000)] rfl ⟨lr, lr, lr, trivial⟩ ⟨rr, trivial⟩ rfl rfl ?_; rotate_right; rintro x rout ⟨⟨u3, hk1, hk2, rfl⟩, ⟨c, c1, c2, rfl⟩⟩; refine ⟨rfl, ?_⟩; conv => whnf) | (refine br_intro ?_ ?_ <;> intro hb <;> (try simp only [brs] at hb) <;> conv => whnf) | (refine RegX.rule (id := 11) hT rfl [] oXPiD33_11 (by decide +kernel) ?_; conv => whnf) | (refine RegX.rule (id := 16) hT rfl [] oXPiD33_16 (by decide +kernel) ?_; conv => whnf) | (refine RegX.rule (id := 23) hT rfl [] oXPiD33_23 (by decide +kernel) ?_; conv => whnf) | omega | (refine And.intro ?_ ?_; ((try dsimp only); first | omega | (refine szA rfl ?_; omega) | (refine szB rfl ?_; omega) | (unfold inI64; omega) | exact rfl | (simp only [List.toList_toArray, List.length_cons, List.length_nil]; omega) | (simp only [lns] at *; omega) | decide | (unfold inI64; decide)); conv => whnf) | decide | assumption)
           all_goals first
            | (first
                | refine .freeze _ 11 67 3 _ _ rfl (.weak _ ?_)
                | refine .freeze _ 200 67 3 _ _ rfl (.weak _ ?_)
                | refine .freeze _ 300 67 3 _ _ rfl (.weak _ ?_)
               (conv => whnf)
               have hx := hsh.2 (e.getD j.toNat mv0) (getD_mem (by omega))
               have hq1 := three_len hu1 hx.1.1 (by decide) (by decide)
               exact ⟨_, [(1000000, strm n L _)], SV.le_upd2 (f := mvF) (d := mv0) (l := e) (fun y : Mov => { y with a := u1 }) (fun y => { y with many := u3 }) (fun _ => rfl) (fun _ => rfl), ⟨⟨_, allK_upd (g := fun y : Mov => { y with many := u3 }) (allK_upd (g := fun y : Mov => { y with a := u1 }) hsh (fun y hy => ⟨⟨hq1, hy.1.2⟩, hy.2⟩)) (fun y hy => ⟨hy.1, by show -2^41 ≤ u3 ∧ u3 ≤ 2^41; omega⟩), rfl⟩, _, by omega, by omega, rfl⟩, rr, trivial⟩)
            | (first
                | refine .freeze _ 11 67 3 _ _ rfl (.weak _ ?_)
                | refine .freeze _ 200 67 3 _ _ rfl (.weak _ ?_)
                | refine .freeze _ 300 67 3 _ _ rfl (.weak _ ?_)
               (conv => whnf)
               exact ⟨_, [(1000000, strm n L _)], lr, ⟨⟨e, hsh, rfl⟩, _, by omega, by omega, rfl⟩, rr, trivial⟩)
         · refine ⟨rfl, ?_⟩
           conv => whnf
           have hsh : allK mvG 100 e := ⟨by have := hc1.1; have := hc2.1; have := he1.1; omega, fun p hp => p4.2 p (hc1.2 p (hc2.2 p (he1.2 p hp)))⟩
           have he5 := hsh.1
           repeat' (first | (refine CallX.of (s84 n L hL _ ?_ ?_ _ ?_) [(1000000, 1000000)] rfl ⟨lr, lr, trivial⟩ ⟨rr, trivial⟩ rfl rfl ?_; rotate_right; rintro x rout ⟨⟨f, rfl⟩, ⟨c, c1, c2, rfl⟩⟩; refine ⟨rfl, ?_⟩; conv => whnf) | (refine CallX.of (s86 n L hL _ ?_ ?_ _ ?_) [(1000000, 1000000)] rfl ⟨lr, lr, trivial⟩ ⟨rr, trivial⟩ rfl rfl ?_; rotate_right; rintro x rout ⟨⟨j, hj1, hj2, hj3, rfl⟩, ⟨c, c1, c2, rfl⟩⟩; refine ⟨rfl, ?_⟩; conv => whnf) | (refine CallX.of (s15 n L hL _ ?_ ?_ [(e.getD j.toNat mv0).a, [], [122]] (by simp) (by simp)) [(1000000, 1000000)] rfl ⟨lr, SV.le_lit rfl rfl, trivial⟩ ⟨rr, trivial⟩ rfl rfl ?_; rotate_right; rintro x rout ⟨⟨u1, hu1, rfl⟩, ⟨c, c1, c2, rfl⟩⟩; refine ⟨rfl, ?_⟩; conv => whnf) | (refine CallX.of (s104 n L hL _ ?_ ?_ 1 20 ?_ ?_ ?_) [(1000000, 1000000)] rfl ⟨lr, lr, lr, trivial⟩ ⟨rr, trivial⟩ rfl rfl ?_; rotate_right; rintro x rout ⟨⟨u3, hk1, hk2, rfl⟩, ⟨c, c1, c2, rfl⟩⟩; refine ⟨rfl, ?_⟩; conv => whnf) | (refine br_intro ?_ ?_ <;> intro hb <;> (try simp only [brs] at hb) <;> conv => whnf) | (refine RegX.rule (id := 11) hT rfl [] oXPiD33_11 (by decide +kernel) ?_; conv => whnf) | (refine RegX.rule (id := 16) hT rfl [] oXPiD33_16 (by decide +kernel) ?_; conv => whnf) | (refine RegX.rule (id := 23) hT rfl [] oXPiD33_23 (by decide +kernel) ?_; conv => whnf) | omega | (refine And.intro ?_ ?_; ((try dsimp only); first | omega | (refine szA rfl ?_; omega) | (refine szB rfl ?_; omega) | (unfold inI64; omega) | exact rfl | (simp only [List.toList_toArray, List.length_cons, List.length_nil]; omega) | (simp only [lns] at *; omega) | decide | (unfold inI64; decide)); conv => whnf) | decide | assumption)
           all_goals first
            | (first
                | refine .freeze _ 11 67 3 _ _ rfl (.weak _ ?_)
                | refine .freeze _ 200 67 3 _ _ rfl (.weak _ ?_)
                | refine .freeze _ 300 67 3 _ _ rfl (.weak _ ?_)
               (conv => whnf)
               have hx := hsh.2 (e.getD j.toNat mv0) (getD_mem (by omega))
               have hq1 := three_len hu1 hx.1.1 (by decide) (by decide)
               exact ⟨_, [(1000000, strm n L _)], SV.le_upd2 (f := mvF) (d := mv0) (l := e) (fun y : Mov => { y with a := u1 }) (fun y => { y with many := u3 }) (fun _ => rfl) (fun _ => rfl), ⟨⟨_, allK_upd (g := fun y : Mov => { y with many := u3 }) (allK_upd (g := fun y : Mov => { y with a := u1 }) hsh (fun y hy => ⟨⟨hq1, hy.1.2⟩, hy.2⟩)) (fun y hy => ⟨hy.1, by show -2^41 ≤ u3 ∧ u3 ≤ 2^41; omega⟩), rfl⟩, _, by omega, by omega, rfl⟩, rr, trivial⟩)
            | (first
                | refine .freeze _ 11 67 3 _ _ rfl (.weak _ ?_)
                | refine .freeze _ 200 67 3 _ _ rfl (.weak _ ?_)
                | refine .freeze _ 300 67 3 _ _ rfl (.weak _ ?_)
               (conv => whnf)
               exact ⟨_, [(1000000, strm n L _)], lr, ⟨⟨e, hsh, rfl⟩, _, by omega, by omega, rfl⟩, rr, trivial⟩)
     · exact absurd hz (by decide)
   | some q =>
     obtain ⟨hq1, hq2⟩ := pof_g hN h1 p4 hM hMo.symm
     have hql := hq1.1
     simp only [plL] at hcase
     rcases hcase with ⟨hz, rfl, rfl⟩ | ⟨hz, rfl, rfl⟩
     · refine ⟨rfl, ?_⟩
       conv => whnf
       repeat' (first | (refine br_intro ?_ ?_ <;> intro hb <;> (try simp only [brs] at hb) <;> conv => whnf) | (refine RegX.rule (id := 11) hT rfl [] oXPiD33_11 (by decide +kernel) ?_; conv => whnf) | (refine RegX.rule (id := 16) hT rfl [] oXPiD33_16 (by decide +kernel) ?_; conv => whnf) | (refine RegX.rule (id := 23) hT rfl [] oXPiD33_23 (by decide +kernel) ?_; conv => whnf) | omega | (refine And.intro ?_ ?_; ((try dsimp only); first | omega | (refine szA rfl ?_; omega) | (refine szB rfl ?_; omega) | (unfold inI64; omega) | exact rfl | (simp only [List.toList_toArray, List.length_cons, List.length_nil]; omega) | (simp only [lns] at *; omega) | decide | (unfold inI64; decide)); conv => whnf) | decide | assumption)
       all_goals try (exfalso; omega)
       refine .weak _ ?_
       conv => whnf
       exact ⟨_, [(1000000, strm n L _)], SV.le_ro (by exact hz.symm) (fun _ _ => rfl), ⟨⟨q.l, hq1, rfl⟩, _, by omega, by omega, rfl⟩, rr, trivial⟩
     · have hz : 0 < q.l.length := hz
       refine ⟨rfl, ?_⟩
       conv => whnf
       repeat' (first | (refine CallX.of (s84 n L hL _ ?_ ?_ _ ?_) [(1000000, 1000000)] rfl ⟨lr, lr, trivial⟩ ⟨rr, trivial⟩ rfl rfl ?_; rotate_right; rintro x rout ⟨⟨f, rfl⟩, ⟨c, c1, c2, rfl⟩⟩; refine ⟨rfl, ?_⟩; conv => whnf) | (refine CallX.of (s86 n L hL _ ?_ ?_ _ ?_) [(1000000, 1000000)] rfl ⟨lr, lr, trivial⟩ ⟨rr, trivial⟩ rfl rfl ?_; rotate_right; rintro x rout ⟨⟨j, hj1, hj2, hj3, rfl⟩, ⟨c, c1, c2, rfl⟩⟩; have hj5 := hq2 (q.l.getD j.toNat mv0) (getD_mem (by omega)); have hj6 := hj5.1; have hj7 := hj5.2; refine ⟨rfl, ?_⟩; conv => whnf) | (refine CallX.of (s33 n L hL _ ?_ ?_ [1, -1] ?_ ?_) [(1000000, 1000000)] rfl ⟨lr, SV.le_lit rfl rfl, trivial⟩ ⟨rr, trivial⟩ rfl rfl ?_; rotate_right; rintro x rout ⟨⟨u, hu, rfl⟩, ⟨c, c1, c2, rfl⟩⟩; have hu2 : u = 1 ∨ u = -1 := (by simpa using hu); refine ⟨rfl, ?_⟩; conv => whnf) | (refine br_intro ?_ ?_ <;> intro hb <;> (try simp only [brs] at hb) <;> conv => whnf) | (refine RegX.rule (id := 11) hT rfl [] oXPiD33_11 (by decide +kernel) ?_; conv => whnf) | (refine RegX.rule (id := 16) hT rfl [] oXPiD33_16 (by decide +kernel) ?_; conv => whnf) | (refine RegX.rule (id := 23) hT rfl [] oXPiD33_23 (by decide +kernel) ?_; conv => whnf) | omega | (refine And.intro ?_ ?_; ((try dsimp only); first | omega | (refine szA rfl ?_; omega) | (refine szB rfl ?_; omega) | (unfold inI64; omega) | exact rfl | (simp only [List.toList_toArray, List.length_cons, List.length_nil]; omega) | (simp only [lns] at *; omega) | decide | (unfold inI64; decide)); conv => whnf) | decide | assumption)
       all_goals try (exfalso; omega)
       · refine .freeze _ 9 67 3 _ _ rfl (.weak _ ?_)
         (conv => whnf)
         exact ⟨_, [(1000000, strm n L _)], SV.le_upd (f := mvF) (d := mv0) (l := q.l) (fun y : Mov => { y with many := (q.l.getD j.toNat mv0).many + u }) (fun _ => rfl), ⟨⟨_, allK_upd (g := fun y : Mov => { y with many := (q.l.getD j.toNat mv0).many + u }) hq1 (fun y hy => ⟨hy.1, by show -2^41 ≤ (q.l.getD j.toNat mv0).many + u ∧ (q.l.getD j.toNat mv0).many + u ≤ 2^41; omega⟩), rfl⟩, _, by omega, by omega, rfl⟩, rr, trivial⟩
       · refine .freeze _ 9 67 3 _ _ rfl (.weak _ ?_)
         (conv => whnf)
         exact ⟨_, [(1000000, strm n L _)], lr, ⟨⟨q.l, hq1, rfl⟩, _, by omega, by omega, rfl⟩, rr, trivial⟩
 all_goals
  obtain ⟨a, hae⟩ : ∃ a, a = a0 := ⟨_, rfl⟩
  have h0 : 0 ≤ a := by omega
  have ha : a ≤ 2^36 := by omega
  refine LoopX.rule hT (C := []) (ι := Int × List Mov × Nat) (fun (b, l, i) => (a ≤ b ∧ b ≤ a + 2 + 3 * i ∧ (i : Int) ≤ k) ∧ allK mvG i l)
   (fun (b, l, i) => mkSt [(3, .ptr 3 0), (11, .buf 11), (70, .d (.int .i64 k)), (71, .d (.int .i64 i))] [(1000000, strm n L b), (3, .cells 23 [.ptr 1000000 0]), (11, mvB l)])
   (fun (_, _, i) => (k - i).toNat) (c, [], 0) ⟨⟨by show a ≤ c; omega, by show c ≤ a + 2 + 3 * ((0 : Nat) : Int); omega, by show ((0 : Nat) : Int) ≤ k; omega⟩, ⟨by simp, fun x hx => by cases hx⟩⟩ ?_ ?_
  · exact (Entails.nil 11 11 67 3 (rowF mvF mv0 []) rfl rfl (by decide)).trans (by (refine Entails.mk' [(1000000, 1000000), (3, 3), (11, 11)] rfl rfl ?_ ?_ <;> repeat' (first | exact True.intro | exact lr | exact rr | exact SV.le_int (by omega) | exact SV.le_any _ | refine And.intro ?_ ?_)); done)
  rintro ⟨b, l, i⟩ ⟨⟨p1, p2, p3⟩, p4⟩
  have p1 : a ≤ b := p1
  have p2 : b ≤ a + 2 + 3 * i := p2
  have p3 : (i : Int) ≤ k := p3
  have p4 : allK mvG i l := p4
  have hl1 := p4.1
  conv => whnf
  repeat' (first | (refine CallX.of (s15 n L hL _ ?_ ?_ [[97], [98], [99], [100]] (by simp) (by simp)) [(1000000, 1000000)] rfl ⟨lr, SV.le_lit rfl rfl, trivial⟩ ⟨rr, trivial⟩ rfl rfl ?_; rotate_right; rintro x rout ⟨⟨u1, hu1, rfl⟩, ⟨c, c1, c2, rfl⟩⟩; have hw1 := mem_len hu1 rfl; refine ⟨rfl, ?_⟩; conv => whnf) | (refine CallX.of (s15 n L hL _ ?_ ?_ [[98], [99], [100], [101]] (by simp) (by simp)) [(1000000, 1000000)] rfl ⟨lr, SV.le_lit rfl rfl, trivial⟩ ⟨rr, trivial⟩ rfl rfl ?_; rotate_right; rintro x rout ⟨⟨u2, hu2, rfl⟩, ⟨c, c1, c2, rfl⟩⟩; have hw2 := mem_len hu2 rfl; refine ⟨rfl, ?_⟩; conv => whnf) | (refine CallX.of (s33 n L hL _ ?_ ?_ [1, 1, 2] ?_ ?_) [(1000000, 1000000)] rfl ⟨lr, SV.le_lit rfl rfl, trivial⟩ ⟨rr, trivial⟩ rfl rfl ?_; rotate_right; rintro x rout ⟨⟨u3, hu3, rfl⟩, ⟨c, c1, c2, rfl⟩⟩; refine ⟨rfl, ?_⟩; conv => whnf) | (refine br_intro ?_ ?_ <;> intro hb <;> (try simp only [brs] at hb) <;> conv => whnf) | (refine RegX.rule (id := 11) hT rfl [] oXPiD33_11 (by decide +kernel) ?_; conv => whnf) | (refine RegX.rule (id := 16) hT rfl [] oXPiD33_16 (by decide +kernel) ?_; conv => whnf) | (refine RegX.rule (id := 23) hT rfl [] oXPiD33_23 (by decide +kernel) ?_; conv => whnf) | omega | (refine And.intro ?_ ?_; ((try dsimp only); first | omega | (refine szA rfl ?_; omega) | (refine szB rfl ?_; omega) | (unfold inI64; omega) | exact rfl | (simp only [List.toList_toArray, List.length_cons, List.length_nil]; omega) | (simp only [lns] at *; omega) | decide | (unfold inI64; decide)); conv => whnf) | decide | assumption)
  · refine ⟨(_, l ++ [⟨u1, u2, u3⟩], i + 1), ⟨⟨by omega, ?_, by omega⟩, allK_snoc p4 (by omega) ⟨⟨hw1, hw2⟩, by simp at hu3; show -2^41 ≤ u3 ∧ u3 ≤ 2^41; omega⟩⟩, (show (k - ((i + 1 : Nat) : Int)).toNat < (k - (i : Int)).toNat by omega), Entails.mk' [(1000000, 1000000), (3, 3), (11, 85)] rfl rfl ⟨lr, lr, lr, lr, trivial⟩ ⟨rr, rr, Res.le_snocF rfl, trivial⟩⟩
    show _ ≤ a + 2 + 3 * ((i + 1 : Nat) : Int)
    omega
  have hl5 : l.length ≤ 5 := by omega
  have hi5 : i ≤ 5 := by omega
  refine CallX.of (z99 117 (fun x y => cmpS (mvKey x) (mvKey y)) l (by omega) (fun x y hx hy => z100 x y (p4.2 x hx).1 (p4.2 y hy).1)) [(1000001, 11)] rfl ⟨lr, lr, trivial⟩ ⟨rr, trivial⟩ rfl rfl ?_
  rintro x rout ⟨rfl, c1, hc1, rfl⟩
  refine ⟨rfl, ?_⟩
  have hcl1 : c1.length ≤ 5 := by have := hc1.1; omega
  conv => whnf
  refine CallX.of (z102 120 (fun x y => x.a == y.a && x.b == y.b) c1 (by omega) (fun x y _ _ => z103 x y)) [(1000001, 11), (64, 200)] rfl ⟨lr, lr, trivial⟩ ⟨rr, trivial⟩ rfl rfl ?_
  rintro x rout ⟨c2, hc2, nm, hnm, rfl, rfl⟩
  have hcl2 : c2.length ≤ 5 := by have := hc2.1; omega
  rcases hnm with rfl | rfl
  · refine ⟨rfl, ?_⟩
    conv => whnf
    refine CallX.of (z104 n L hL b (by omega) (by omega) c2 (by omega)) [(1000000, 1000000), (1000001, 11), (1000002, 3), (41, 300)] rfl ⟨lr, lr, trivial⟩ ⟨rr, rr, rr, trivial⟩ rfl rfl ?_
    rintro x rout ⟨e, he1, nm, hnm, rfl, c5, ⟨hv1, hv2⟩, rfl⟩
    rcases hnm with rfl | rfl
    · refine ⟨rfl, ?_⟩
      conv => whnf
      have hsh : allK mvG 100 e := ⟨by have := hc1.1; have := hc2.1; have := he1.1; omega, fun p hp => p4.2 p (hc1.2 p (hc2.2 p (he1.2 p hp)))⟩
      have he5 := hsh.1
      repeat' (first | (refine CallX.of (s84 n L hL _ ?_ ?_ _ ?_) [(1000000, 1000000)] rfl ⟨lr, lr, trivial⟩ ⟨rr, trivial⟩ rfl rfl ?_; rotate_right; rintro x rout ⟨⟨f, rfl⟩, ⟨c, c1, c2, rfl⟩⟩; refine ⟨rfl, ?_⟩; conv => whnf) | (refine CallX.of (s86 n L hL _ ?_ ?_ _ ?_) [(1000000, 1000000)] rfl ⟨lr, lr, trivial⟩ ⟨rr, trivial⟩ rfl rfl ?_; rotate_right; rintro x rout ⟨⟨j, hj1, hj2, hj3, rfl⟩, ⟨c, c1, c2, rfl⟩⟩; refine ⟨rfl, ?_⟩; conv => whnf) | (refine CallX.of (s15 n L hL _ ?_ ?_ [(e.getD j.toNat mv0).a, [], [122]] (by simp) (by simp)) [(1000000, 1000000)] rfl ⟨lr, SV.le_lit rfl rfl, trivial⟩ ⟨rr, trivial⟩ rfl rfl ?_; rotate_right; rintro x rout ⟨⟨u1, hu1, rfl⟩, ⟨c, c1, c2, rfl⟩⟩; refine ⟨rfl, ?_⟩; conv => whnf) | (refine CallX.of (s104 n L hL _ ?_ ?_ 1 20 ?_ ?_ ?_) [(1000000, 1000000)] rfl ⟨lr, lr, lr, trivial⟩ ⟨rr, trivial⟩ rfl rfl ?_; rotate_right; rintro x rout ⟨⟨u3, hk1, hk2, rfl⟩, ⟨c, c1, c2, rfl⟩⟩; refine ⟨rfl, ?_⟩; conv => whnf) | (refine br_intro ?_ ?_ <;> intro hb <;> (try simp only [brs] at hb) <;> conv => whnf) | (refine RegX.rule (id := 11) hT rfl [] oXPiD33_11 (by decide +kernel) ?_; conv => whnf) | (refine RegX.rule (id := 16) hT rfl [] oXPiD33_16 (by decide +kernel) ?_; conv => whnf) | (refine RegX.rule (id := 23) hT rfl [] oXPiD33_23 (by decide +kernel) ?_; conv => whnf) | omega | (refine And.intro ?_ ?_; ((try dsimp only); first | omega | (refine szA rfl ?_; omega) | (refine szB rfl ?_; omega) | (unfold inI64; omega) | exact rfl | (simp only [List.toList_toArray, List.length_cons, List.length_nil]; omega) | (simp only [lns] at *; omega) | decide | (unfold inI64; decide)); conv => whnf) | decide | assumption)
      all_goals first
       | (first
           | refine .freeze _ 11 67 3 _ _ rfl (.weak _ ?_)
           | refine .freeze _ 200 67 3 _ _ rfl (.weak _ ?_)
           | refine .freeze _ 300 67 3 _ _ rfl (.weak _ ?_)
          (conv => whnf)
          have hx := hsh.2 (e.getD j.toNat mv0) (getD_mem (by omega))
          have hq1 := three_len hu1 hx.1.1 (by decide) (by decide)
          exact ⟨_, [(1000000, strm n L _)], SV.le_upd2 (f := mvF) (d := mv0) (l := e) (fun y : Mov => { y with a := u1 }) (fun y => { y with many := u3 }) (fun _ => rfl) (fun _ => rfl), ⟨⟨_, allK_upd (g := fun y : Mov => { y with many := u3 }) (allK_upd (g := fun y : Mov => { y with a := u1 }) hsh (fun y hy => ⟨⟨hq1, hy.1.2⟩, hy.2⟩)) (fun y hy => ⟨hy.1, by show -2^41 ≤ u3 ∧ u3 ≤ 2^41; omega⟩), rfl⟩, _, by omega, by omega, rfl⟩, rr, trivial⟩)
       | (first
           | refine .freeze _ 11 67 3 _ _ rfl (.weak _ ?_)
           | refine .freeze _ 200 67 3 _ _ rfl (.weak _ ?_)
           | refine .freeze _ 300 67 3 _ _ rfl (.weak _ ?_)
          (conv => whnf)
          exact ⟨_, [(1000000, strm n L _)], lr, ⟨⟨e, hsh, rfl⟩, _, by omega, by omega, rfl⟩, rr, trivial⟩)
    · refine ⟨rfl, ?_⟩
      conv => whnf
      have hsh : allK mvG 100 e := ⟨by have := hc1.1; have := hc2.1; have := he1.1; omega, fun p hp => p4.2 p (hc1.2 p (hc2.2 p (he1.2 p hp)))⟩
      have he5 := hsh.1
      repeat' (first | (refine CallX.of (s84 n L hL _ ?_ ?_ _ ?_) [(1000000, 1000000)] rfl ⟨lr, lr, trivial⟩ ⟨rr, trivial⟩ rfl rfl ?_; rotate_right; rintro x rout ⟨⟨f, rfl⟩, ⟨c, c1, c2, rfl⟩⟩; refine ⟨rfl, ?_⟩; conv => whnf) | (refine CallX.of (s86 n L hL _ ?_ ?_ _ ?_) [(1000000, 1000000)] rfl ⟨lr, lr, trivial⟩ ⟨rr, trivial⟩ rfl rfl ?_; rotate_right; rintro x rout ⟨⟨j, hj1, hj2, hj3, rfl⟩, ⟨c, c1, c2, rfl⟩⟩; refine ⟨rfl, ?_⟩; conv => whnf) | (refine CallX.of (s15 n L hL _ ?_ ?_ [(e.getD j.toNat mv0).a, [], [122]] (by simp) (by simp)) [(1000000, 1000000)] rfl ⟨lr, SV.le_lit rfl rfl, trivial⟩ ⟨rr, trivial⟩ rfl rfl ?_; rotate_right; rintro x rout ⟨⟨u1, hu1, rfl⟩, ⟨c, c1, c2, rfl⟩⟩; refine ⟨rfl, ?_⟩; conv => whnf) | (refine CallX.of (s104 n L hL _ ?_ ?_ 1 20 ?_ ?_ ?_) [(1000000, 1000000)] rfl ⟨lr, lr, lr, trivial⟩ ⟨rr, trivial⟩ rfl rfl ?_; rotate_right; rintro x rout ⟨⟨u3, hk1, hk2, rfl⟩, ⟨c, c1, c2, rfl⟩⟩; refine ⟨rfl, ?_⟩; conv => whnf) | (refine br_intro ?_ ?_ <;> intro hb <;> (try simp only [brs] at hb) <;> conv => whnf) | (refine RegX.rule (id := 11) hT rfl [] oXPiD33_11 (by decide +kernel) ?_; conv => whnf) | (refine RegX.rule (id := 16) hT rfl [] oXPiD33_16 (by decide +kernel) ?_; conv => whnf) | (refine RegX.rule (id := 23) hT rfl [] oXPiD33_23 (by decide +kernel) ?_; conv => whnf) | omega | (refine And.intro ?_ ?_; ((try dsimp only); first | omega | (refine szA rfl ?_; omega) | (refine szB rfl ?_; omega) | (unfold inI64; omega) | exact rfl | (simp only [List.toList_toArray, List.length_cons, List.length_nil]; omega) | (simp only [lns] at *; omega) | decide | (unfold inI64; decide)); conv => whnf) | decide | assumption)
      all_goals first
       | (first
           | refine .freeze _ 11 67 3 _ _ rfl (.weak _ ?_)
           | refine .freeze _ 200 67 3 _ _ rfl (.weak _ ?_)
           | refine .freeze _ 300 67 3 _ _ rfl (.weak _ ?_)
          (conv => whnf)
          have hx := hsh.2 (e.getD j.toNat mv0) (getD_mem (by omega))
          have hq1 := three_len hu1 hx.1.1 (by decide) (by decide)
          exact ⟨_, [(1000000, strm n L _)], SV.le_upd2 (f := mvF) (d := mv0) (l := e) (fun y : Mov => { y with a := u1 }) (fun y => { y with many := u3 }) (fun _ => rfl) (fun _ => rfl), ⟨⟨_, allK_upd (g := fun y : Mov => { y with many := u3 }) (allK_upd (g := fun y : Mov => { y with a := u1 }) hsh (fun y hy => ⟨⟨hq1, hy.1.2⟩, hy.2⟩)) (fun y hy => ⟨hy.1, by show -2^41 ≤ u3 ∧ u3 ≤ 2^41; omega⟩), rfl⟩, _, by omega, by omega, rfl⟩, rr, trivial⟩)
       | (first
           | refine .freeze _ 11 67 3 _ _ rfl (.weak _ ?_)
           | refine .freeze _ 200 67 3 _ _ rfl (.weak _ ?_)
           | refine .freeze _ 300 67 3 _ _ rfl (.weak _ ?_)
          (conv => whnf)
          exact ⟨_, [(1000000, strm n L _)], lr, ⟨⟨e, hsh, rfl⟩, _, by omega, by omega, rfl⟩, rr, trivial⟩)
  · refine ⟨rfl, ?_⟩
    conv => whnf
    refine CallX.of (z104 n L hL b (by omega) (by omega) c2 (by omega)) [(1000000, 1000000), (1000001, 200), (1000002, 3), (41, 300)] rfl ⟨lr, lr, trivial⟩ ⟨rr, rr, rr, trivial⟩ rfl rfl ?_
    rintro x rout ⟨e, he1, nm, hnm, rfl, c5, ⟨hv1, hv2⟩, rfl⟩
    rcases hnm with rfl | rfl
    · refine ⟨rfl, ?_⟩
      conv => whnf
      have hsh : allK mvG 100 e := ⟨by have := hc1.1; have := hc2.1; have := he1.1; omega, fun p hp => p4.2 p (hc1.2 p (hc2.2 p (he1.2 p hp)))⟩
      have he5 := hsh.1
      repeat' (first | (refine CallX.of (s84 n L hL _ ?_ ?_ _ ?_) [(1000000, 1000000)] rfl ⟨lr, lr, trivial⟩ ⟨rr, trivial⟩ rfl rfl ?_; rotate_right; rintro x rout ⟨⟨f, rfl⟩, ⟨c, c1, c2, rfl⟩⟩; refine ⟨rfl, ?_⟩; conv => whnf) | (refine CallX.of (s86 n L hL _ ?_ ?_ _ ?_) [(1000000, 1000000)] rfl ⟨lr, lr, trivial⟩ ⟨rr, trivial⟩ rfl rfl ?_; rotate_right; rintro x rout ⟨⟨j, hj1, hj2, hj3, rfl⟩, ⟨c, c1, c2, rfl⟩⟩; refine ⟨rfl, ?_⟩; conv => whnf) | (refine CallX.of (s15 n L hL _ ?_ ?_ [(e.getD j.toNat mv0).a, [], [122]] (by simp) (by simp)) [(1000000, 1000000)] rfl ⟨lr, SV.le_lit rfl rfl, trivial⟩ ⟨rr, trivial⟩ rfl rfl ?_; rotate_right; rintro x rout ⟨⟨u1, hu1, rfl⟩, ⟨c, c1, c2, rfl⟩⟩; refine ⟨rfl, ?_⟩; conv => whnf) | (refine CallX.of (s104 n L hL _ ?_ ?_ 1 20 ?_ ?_ ?_) [(1000000, 1000000)] rfl ⟨lr, lr, lr, trivial⟩ ⟨rr, trivial⟩ rfl rfl ?_; rotate_right; rintro x rout ⟨⟨u3, hk1, hk2, rfl⟩, ⟨c, c1, c2, rfl⟩⟩; refine ⟨rfl, ?_⟩; conv => whnf) | (refine br_intro ?_ ?_ <;> intro hb <;> (try simp only [brs] at hb) <;> conv => whnf) | (refine RegX.rule (id := 11) hT rfl [] oXPiD33_11 (by decide +kernel) ?_; conv => whnf) | (refine RegX.rule (id := 16) hT rfl [] oXPiD33_16 (by decide +kernel) ?_; conv => whnf) | (refine RegX.rule (id := 23) hT rfl [] oXPiD33_23 (by decide +kernel) ?_; conv => whnf) | omega | (refine And.intro ?_ ?_; ((try dsimp only); first | omega | (refine szA rfl ?_; omega) | (refine szB rfl ?_; omega) | (unfold inI64; omega) | exact rfl | (simp only [List.toList_toArray, List.length_cons, List.length_nil]; omega) | (simp only [lns] at *; omega) | decide | (unfold inI64; decide)); conv => whnf) | decide | assumption)
      all_goals first
       | (first
           | refine .freeze _ 11 67 3 _ _ rfl (.weak _ ?_)
           | refine .freeze _ 200 67 3 _ _ rfl (.weak _ ?_)
           | refine .freeze _ 300 67 3 _ _ rfl (.weak _ ?_)
          (conv => whnf)
          have hx := hsh.2 (e.getD j.toNat mv0) (getD_mem (by omega))
          have hq1 := three_len hu1 hx.1.1 (by decide) (by decide)
          exact ⟨_, [(1000000, strm n L _)], SV.le_upd2 (f := mvF) (d := mv0) (l := e) (fun y : Mov => { y with a := u1 }) (fun y => { y with many := u3 }) (fun _ => rfl) (fun _ => rfl), ⟨⟨_, allK_upd (g := fun y : Mov => { y with many := u3 }) (allK_upd (g := fun y : Mov => { y with a := u1 }) hsh (fun y hy => ⟨⟨hq1, hy.1.2⟩, hy.2⟩)) (fun y hy => ⟨hy.1, by show -2^41 ≤ u3 ∧ u3 ≤ 2^41; omega⟩), rfl⟩, _, by omega, by omega, rfl⟩, rr, trivial⟩)
       | (first
           | refine .freeze _ 11 67 3 _ _ rfl (.weak _ ?_)
           | refine .freeze _ 200 67 3 _ _ rfl (.weak _ ?_)
           | refine .freeze _ 300 67 3 _ _ rfl (.weak _ ?_)
          (conv => whnf)
          exact ⟨_, [(1000000, strm n L _)], lr, ⟨⟨e, hsh, rfl⟩, _, by omega, by omega, rfl⟩, rr, trivial⟩)
    · refine ⟨rfl, ?_⟩
      conv => whnf
      have hsh : allK mvG 100 e := ⟨by have := hc1.1; have := hc2.1; have := he1.1; omega, fun p hp => p4.2 p (hc1.2 p (hc2.2 p (he1.2 p hp)))⟩
      have he5 := hsh.1
      repeat' (first | (refine CallX.of (s84 n L hL _ ?_ ?_ _ ?_) [(1000000, 1000000)] rfl ⟨lr, lr, trivial⟩ ⟨rr, trivial⟩ rfl rfl ?_; rotate_right; rintro x rout ⟨⟨f, rfl⟩, ⟨c, c1, c2, rfl⟩⟩; refine ⟨rfl, ?_⟩; conv => whnf) | (refine CallX.of (s86 n L hL _ ?_ ?_ _ ?_) [(1000000, 1000000)] rfl ⟨lr, lr, trivial⟩ ⟨rr, trivial⟩ rfl rfl ?_; rotate_right; rintro x rout ⟨⟨j, hj1, hj2, hj3, rfl⟩, ⟨c, c1, c2, rfl⟩⟩; refine ⟨rfl, ?_⟩; conv => whnf) | (refine CallX.of (s15 n L hL _ ?_ ?_ [(e.getD j.toNat mv0).a, [], [122]] (by simp) (by simp)) [(1000000, 1000000)] rfl ⟨lr, SV.le_lit rfl rfl, trivial⟩ ⟨rr, trivial⟩ rfl rfl ?_; rotate_right; rintro x rout ⟨⟨u1, hu1, rfl⟩, ⟨c, c1, c2, rfl⟩⟩; refine ⟨rfl, ?_⟩; conv => whnf) | (refine CallX.of (s104 n L hL _ ?_ ?_ 1 20 ?_ ?_ ?_) [(1000000, 1000000)] rfl ⟨lr, lr, lr, trivial⟩ ⟨rr, trivial⟩ rfl rfl ?_; rotate_right; rintro x rout ⟨⟨u3, hk1, hk2, rfl⟩, ⟨c, c1, c2, rfl⟩⟩; refine ⟨rfl, ?_⟩; conv => whnf) | (refine br_intro ?_ ?_ <;> intro hb <;> (try simp only [brs] at hb) <;> conv => whnf) | (refine RegX.rule (id := 11) hT rfl [] oXPiD33_11 (by decide +kernel) ?_; conv => whnf) | (refine RegX.rule (id := 16) hT rfl [] oXPiD33_16 (by decide +kernel) ?_; conv => whnf) | (refine RegX.rule (id := 23) hT rfl [] oXPiD33_23 (by decide +kernel) ?_; conv => whnf) | omega | (refine And.intro ?_ ?_; ((try dsimp only); first | omega | (refine szA rfl ?_; omega) | (refine szB rfl ?_; omega) | (unfold inI64; omega) | exact rfl | (simp only [List.toList_toArray, List.length_cons, List.length_nil]; omega) | (simp only [lns] at *; omega) | decide | (unfold inI64; decide)); conv => whnf) | decide | assumption)
      all_goals first
       | (first
           | refine .freeze _ 11 67 3 _ _ rfl (.weak _ ?_)
           | refine .freeze _ 200 67 3 _ _ rfl (.weak _ ?_)
           | refine .freeze _ 300 67 3 _ _ rfl (.weak _ ?_)
          (conv => whnf)
          have hx := hsh.2 (e.getD j.toNat mv0) (getD_mem (by omega))
          have hq1 := three_len hu1 hx.1.1 (by decide) (by decide)
          exact ⟨_, [(1000000, strm n L _)], SV.le_upd2 (f := mvF) (d := mv0) (l := e) (fun y : Mov => { y with a := u1 }) (fun y => { y with many := u3 }) (fun _ => rfl) (fun _ => rfl), ⟨⟨_, allK_upd (g := fun y : Mov => { y with many := u3 }) (allK_upd (g := fun y : Mov => { y with a := u1 }) hsh (fun y hy => ⟨⟨hq1, hy.1.2⟩, hy.2⟩)) (fun y hy => ⟨hy.1, by show -2^41 ≤ u3 ∧ u3 ≤ 2^41; omega⟩), rfl⟩, _, by omega, by omega, rfl⟩, rr, trivial⟩)
       | (first
           | refine .freeze _ 11 67 3 _ _ rfl (.weak _ ?_)
           | refine .freeze _ 200 67 3 _ _ rfl (.weak _ ?_)
           | refine .freeze _ 300 67 3 _ _ rfl (.weak _ ?_)
          (conv => whnf)
          exact ⟨_, [(1000000, strm n L _)], lr, ⟨⟨e, hsh, rfl⟩, _, by omega, by omega, rfl⟩, rr, trivial⟩)
end Go.Proofs.YtgeakdcbpjmkbaaGreatDoor
set_option maxRecDepth 20000
namespace Go.Proofs.YtgeakdcbpjmkbaaGreatDoor
open Go Go.Eng Go.Shelf
theorem mvG_tx {l : List Mov} {k : Nat} (h : allK mvG k l) (hk : k ≤ 2^15) : l.length ≤ 2^15 ∧ ∀ p ∈ l, mov1 p :=
 ⟨by have := h.1; omega, fun p hp => by
   obtain ⟨⟨h1, h2⟩, h3, h4⟩ := h.2 p hp
   exact ⟨⟨by omega, by omega⟩, by omega, by omega⟩⟩
theorem mvG_ok {l : List Mov} {k : Nat} (h : allK mvG k l) (hk : k ≤ 2^15) : mvOk l :=
 ⟨by have := h.1; omega, fun p hp => by
   obtain ⟨⟨h1, h2⟩, h3, h4⟩ := h.2 p hp
   exact ⟨by omega, by omega⟩⟩
theorem lnB_movL {p : Mov} (h : mvG p) : (lnB (movP p)).length ≤ 2^6 := by
 obtain ⟨⟨h1, h2⟩, h3, h4⟩ := h
 have := itoa_len (n := p.many) (by omega) (by omega)
 rw [lnB_mov]
 simp only [List.length_append, List.length_singleton]
 omega
theorem tx_mvG {l : List Mov} {k : Nat} (h : allK mvG k l) : (txF movP l).length ≤ k * 2^6 := by
 have key : ∀ l : List Mov, (∀ p ∈ l, mvG p) → (txF movP l).length ≤ l.length * 2^6 := by
  intro l
  induction l with
  | nil => intro _; simp [txF]
  | cons x r ih =>
    intro h
    have h1 := lnB_movL (h x List.mem_cons_self)
    have h2 := ih (fun p hp => h p (List.mem_cons_of_mem _ hp))
    simp only [txF, List.map_cons, List.flatten_cons, List.length_append, List.length_cons] at h2 ⊢
    rw [Nat.add_mul, Nat.one_mul]; omega
 exact Nat.le_trans (key l h.2) (Nat.mul_le_mul_right _ h.1)
theorem lz37 (n : Nat) (L : Nat → Int) (hL : Rok n L) (a : Int) (h0 : 0 ≤ a) (ha : a ≤ 2^34) :
 FSpec Tryz.prog 37 [.ptr 1000000 0] [(1000000, strm n L a), (1000009, KX)] (fun y r => (∃ t : List UInt8, t.length ≤ 2^18 ∧ y = .d (.str t)) ∧ MovedK n L a 480 r) := by
 refine spec_of hT (C := []) Tryz.func37 rfl Tryz.call37 rfl rfl rfl ?_
 conv => whnf
 repeat' (first | (refine CallX.of (sNds n L hL _ (by omega) (by omega)) [(1000000, 1000000)] rfl ⟨lr, trivial⟩ ⟨rr, trivial⟩ rfl rfl ?_; rintro x rout ⟨⟨N, hN, rfl⟩, ⟨c1, hc11, hc12, rfl⟩⟩; refine ⟨rfl, ?_⟩; conv => whnf) | (refine CallX.of (sRds n L hL _ (by omega) (by omega)) [(1000000, 1000000)] rfl ⟨lr, trivial⟩ ⟨rr, trivial⟩ rfl rfl ?_; rintro x rout ⟨⟨R, hR, rfl⟩, ⟨c2, hc21, hc22, rfl⟩⟩; refine ⟨rfl, ?_⟩; conv => whnf) | (refine br_intro ?_ ?_ <;> intro hb <;> (try simp only [brs] at hb) <;> conv => whnf) | omega | (refine And.intro ?_ ?_; ((try dsimp only); first | omega | (refine szA rfl ?_; omega) | (refine szB rfl ?_; omega) | (unfold inI64; omega) | exact rfl | (simp only [List.toList_toArray, List.length_cons, List.length_nil]; omega) | (simp only [lns] at *; omega) | decide | (unfold inI64; decide)); conv => whnf) | decide | assumption)
 refine CallX.of (sMvs n L hL _ (by omega) (by omega) N R hN hR) [(1000000, 1000000)] rfl ⟨lr, lr, lr, trivial⟩ ⟨rr, trivial⟩ rfl rfl ?_
 rintro x rout ⟨⟨l, hl, rfl⟩, ⟨c3, hc5, hc6, rfl⟩⟩
 refine ⟨rfl, ?_⟩
 have hl2 := mvG_tx hl (by omega)
 have hl3 := tx_mvG hl
 have hl4 := hl.1
 conv => whnf
 refine CallX.kn (lz36 l hl2) rfl rfl rfl rfl ?_
 conv => whnf
 obtain ⟨T, hTT⟩ : ∃ T : List UInt8, txF movP l = T := ⟨_, rfl⟩
 rw [hTT] at hl3 ⊢
 repeat' (first | (refine CallX.exact (lz127 T 45) rfl rfl ?_; rotate_right; conv => whnf) | (refine CallX.of (s33 n L hL _ ?_ ?_ [0, 0, 1, 2] ?_ ?_) [(1000000, 1000000)] rfl ⟨lr, SV.le_lit rfl rfl, trivial⟩ ⟨rr, trivial⟩ rfl rfl ?_; rotate_right; rintro x rout ⟨⟨u1, hu3, rfl⟩, ⟨c, c1, c2, rfl⟩⟩; refine ⟨rfl, ?_⟩; conv => whnf) | (refine br_intro ?_ ?_ <;> intro hb <;> (try simp only [brs] at hb) <;> conv => whnf) | omega | (refine And.intro ?_ ?_; ((try dsimp only); first | omega | (refine szA rfl ?_; omega) | (refine szB rfl ?_; omega) | (unfold inI64; omega) | exact rfl | (simp only [List.toList_toArray, List.length_cons, List.length_nil]; omega) | (simp only [lns] at *; omega) | decide | (unfold inI64; decide)); conv => whnf) | decide | assumption)
 · have hu4 := pick4 hu3
   refine LoopX.rule hT (C := []) (ι := Int × List UInt8 × Nat) (fun (b, t, k) => (a ≤ b ∧ b ≤ a + 402 + 4 * k) ∧ ((k : Int) ≤ u1 ∧ t.length ≤ 2^17 + 20 * k))
    (fun (b, t, k) => mkSt [(0, .ptr 1000000 0), (3, .d (.str t)), (15, .d (.int .i64 u1)), (16, .d (.int .i64 k))] [(1000000, strm n L b), (1000009, KX)]) (fun (_, _, k) => 2 - k) (c, _, 0) ⟨⟨?_, ?_⟩, ?_, ?_⟩ (by (refine Entails.mk' [(1000000, 1000000), (1000009, 1000009)] rfl rfl ?_ ?_ <;> repeat' (first | exact True.intro | exact lr | exact rr | exact SV.le_int (by omega) | exact SV.le_any _ | refine And.intro ?_ ?_)); done) ?_
   · omega
   · simp <;> omega
   · simp <;> omega
   · simp <;> omega
   rintro ⟨b, t, k⟩ ⟨⟨p1, p2⟩, p3, p4⟩
   conv => whnf
   repeat' (first | (refine CallX.of (s74 n L hL _ ?_ ?_ t _ ?_ ?_) [(1000000, 1000000)] rfl ⟨lr, lr, lr, trivial⟩ ⟨rr, trivial⟩ rfl rfl ?_; rotate_right; rintro x rout ⟨⟨u, hu, rfl⟩, ⟨c, c1, c2, rfl⟩⟩; refine ⟨rfl, ?_⟩; conv => whnf) | (refine br_intro ?_ ?_ <;> intro hb <;> (try simp only [brs] at hb) <;> conv => whnf) | omega | (refine And.intro ?_ ?_; ((try dsimp only); first | omega | (refine szA rfl ?_; omega) | (refine szB rfl ?_; omega) | (unfold inI64; omega) | exact rfl | (simp only [List.toList_toArray, List.length_cons, List.length_nil]; omega) | (simp only [lns] at *; omega) | decide | (unfold inI64; decide)); conv => whnf) | decide | assumption)
   · simp only [List.toList_toArray, List.length_cons, List.length_nil] at hu
     exact ⟨(c, u, k + 1), ⟨⟨by omega, by omega⟩, by omega, by omega⟩, by show 2 - (k + 1) < 2 - k; omega, (by (refine Entails.mk' [(1000000, 1000000), (1000009, 1000009)] rfl rfl ?_ ?_ <;> repeat' (first | exact True.intro | exact lr | exact rr | exact SV.le_int (by omega) | exact SV.le_any _ | refine And.intro ?_ ?_)); done)⟩
   · refine .ret _ ?_
     conv => whnf
     exact ⟨[(1000000, strm n L b), (1000009, KX)], ⟨⟨t, by omega, rfl⟩, ⟨b, by omega, by omega, rfl⟩⟩, rr, rr, trivial⟩
 · have hu4 := pick4 hu3
   refine LoopX.rule hT (C := []) (ι := Int × List UInt8 × Nat) (fun (b, t, k) => (a ≤ b ∧ b ≤ a + 402 + 4 * k) ∧ ((k : Int) ≤ u1 ∧ t.length ≤ 2^17 + 20 * k))
    (fun (b, t, k) => mkSt [(0, .ptr 1000000 0), (3, .d (.str t)), (15, .d (.int .i64 u1)), (16, .d (.int .i64 k))] [(1000000, strm n L b), (1000009, KX)]) (fun (_, _, k) => 2 - k) (c, _, 0) ⟨⟨?_, ?_⟩, ?_, ?_⟩ (by (refine Entails.mk' [(1000000, 1000000), (1000009, 1000009)] rfl rfl ?_ ?_ <;> repeat' (first | exact True.intro | exact lr | exact rr | exact SV.le_int (by omega) | exact SV.le_any _ | refine And.intro ?_ ?_)); done) ?_
   · omega
   · simp <;> omega
   · simp <;> omega
   · simp <;> omega
   rintro ⟨b, t, k⟩ ⟨⟨p1, p2⟩, p3, p4⟩
   conv => whnf
   repeat' (first | (refine CallX.of (s74 n L hL _ ?_ ?_ t _ ?_ ?_) [(1000000, 1000000)] rfl ⟨lr, lr, lr, trivial⟩ ⟨rr, trivial⟩ rfl rfl ?_; rotate_right; rintro x rout ⟨⟨u, hu, rfl⟩, ⟨c, c1, c2, rfl⟩⟩; refine ⟨rfl, ?_⟩; conv => whnf) | (refine br_intro ?_ ?_ <;> intro hb <;> (try simp only [brs] at hb) <;> conv => whnf) | omega | (refine And.intro ?_ ?_; ((try dsimp only); first | omega | (refine szA rfl ?_; omega) | (refine szB rfl ?_; omega) | (unfold inI64; omega) | exact rfl | (simp only [List.toList_toArray, List.length_cons, List.length_nil]; omega) | (simp only [lns] at *; omega) | decide | (unfold inI64; decide)); conv => whnf) | decide | assumption)
   · simp only [List.toList_toArray, List.length_cons, List.length_nil] at hu
     exact ⟨(c, u, k + 1), ⟨⟨by omega, by omega⟩, by omega, by omega⟩, by show 2 - (k + 1) < 2 - k; omega, (by (refine Entails.mk' [(1000000, 1000000), (1000009, 1000009)] rfl rfl ?_ ?_ <;> repeat' (first | exact True.intro | exact lr | exact rr | exact SV.le_int (by omega) | exact SV.le_any _ | refine And.intro ?_ ?_)); done)⟩
   · refine .ret _ ?_
     conv => whnf
     exact ⟨[(1000000, strm n L b), (1000009, KX)], ⟨⟨t, by omega, rfl⟩, ⟨b, by omega, by omega, rfl⟩⟩, rr, rr, trivial⟩
end Go.Proofs.YtgeakdcbpjmkbaaGreatDoor
set_option maxRecDepth 20000
namespace Go.Proofs.YtgeakdcbpjmkbaaGreatDoor
open Go Go.Eng Go.Shelf
theorem redF_lenM {text : List UInt8} (ht : text.length ≤ 2^20) : (redF (tkMov numN) mvsE text).1.length ≤ 2^40 := by
 have h := (mvOk_rd numN text ht).1
 unfold redF
 cases decide (200000 < text.length) with
 | true => simp
 | false =>
   simp only [cond_false]
   cases (lnsF (tkMov numN) (text.length + 1) 0 text []).1.2 with
   | false => simp
   | true =>
     simp only [cond_true]
     cases decide (mvsE (lnsF (tkMov numN) (text.length + 1) 0 text []).2 = 0) with
     | false => simp
     | true => exact h
theorem z6 (n : Nat) (L : Nat → Int) (hn : n ≤ maxLen) (hL : ∀ i, -2^63 ≤ L i ∧ L i < 2^63) :
 FSpec Tryz.prog 6 [.d (.ro 1 n fun i => [.int .i64 (L i)])] kx (fun x r => x = .d (.bool true) ∧ r = kx) := by
 have hR : Rok n L := ⟨hn, hL⟩
 refine spec_of hT (C := []) Tryz.func6 rfl Tryz.call6 rfl rfl rfl ?_
 conv => whnf
 repeat' (first | (refine CallX.of (sMov n L hR 0 (by omega) (by omega)) [(1000000, 15)] rfl ⟨lr, lr, lr, trivial⟩ ⟨rr, trivial⟩ rfl rfl ?_; rintro x rout ⟨⟨l, hl, rfl⟩, ⟨c, c1, c2, rfl⟩⟩; refine ⟨rfl, ?_⟩; conv => whnf) | (refine br_intro ?_ ?_ <;> intro hb <;> (try simp only [brs] at hb) <;> conv => whnf) | omega | (refine And.intro ?_ ?_; ((try dsimp only); first | omega | (refine szA rfl ?_; omega) | (refine szB rfl ?_; omega) | (unfold inI64; omega) | exact rfl | (simp only [List.toList_toArray, List.length_cons, List.length_nil]; omega) | (simp only [lns] at *; omega) | decide | (unfold inI64; decide)); conv => whnf) | decide | assumption)
 have hl2 := mvG_tx hl (by omega)
 have hl3 := mvG_ok hl (by omega)
 have hl4 := tx_mvG hl
 have C34 := lz34 l hl3 hl2 (by omega)
 have C36 := lz36 l hl2
 have C35 := z25 l hl3
 have C37 := lz37 n L hR c (by omega) (by omega)
 by_cases E : mvsE l = 0
 · rw [if_pos E, E] at C34
   rw [E] at C35
   repeat' (first | (refine CallX.kn C34 rfl rfl rfl rfl ?_; conv => whnf) | (refine CallX.exact (C35) rfl rfl ?_; rotate_right; conv => whnf) | (refine CallX.kn C36 rfl rfl rfl rfl ?_; conv => whnf) | (refine CallX.of C37 [(1000000, 15), (1000009, 1000009)] rfl ⟨lr, trivial⟩ ⟨rr, rr, trivial⟩ rfl rfl ?_; rintro x rout ⟨⟨t, ht, rfl⟩, ⟨c, c1, c2, rfl⟩⟩; refine ⟨rfl, ?_⟩; conv => whnf) | (refine br_intro ?_ ?_ <;> intro hb <;> (try simp only [brs] at hb) <;> conv => whnf) | omega | (refine And.intro ?_ ?_; ((try dsimp only); first | omega | (refine szA rfl ?_; omega) | (refine szB rfl ?_; omega) | (unfold inI64; omega) | exact rfl | (simp only [List.toList_toArray, List.length_cons, List.length_nil]; omega) | (simp only [lns] at *; omega) | decide | (unfold inI64; decide)); conv => whnf) | decide | assumption)
   have hA := redF_lenM (text := t) (by omega)
   have C38 := lz38 t (by omega)
   have C39 := lz39 t (by omega)
   rw [← redF_agree tkMov_agree] at C39
   have C40 := p57 (redF (tkMov numN) mvsE t).1 (redF (tkMov numN) mvsE t).1 hA
   generalize redF (tkMov numN) mvsE t = R at C38 C39 C40
   obtain ⟨ra, rb, rc⟩ := R
   rw [decide_eq_true (rfl : ra = ra)] at C40
   repeat' (first | (refine CallX.kn C38 rfl rfl rfl rfl ?_; conv => whnf) | (refine CallX.kn C39 rfl rfl rfl rfl ?_; conv => whnf) | (refine CallX.exact (C40) rfl rfl ?_; rotate_right; conv => whnf) | (refine CallX.exact (p19) rfl rfl ?_; rotate_right; conv => whnf) | (refine br_intro ?_ ?_ <;> intro hb <;> (try simp only [brs] at hb) <;> conv => whnf) | omega | (refine And.intro ?_ ?_; ((try dsimp only); first | omega | (refine szA rfl ?_; omega) | (refine szB rfl ?_; omega) | (unfold inI64; omega) | exact rfl | (simp only [List.toList_toArray, List.length_cons, List.length_nil]; omega) | (simp only [lns] at *; omega) | decide | (unfold inI64; decide)); conv => whnf) | decide | assumption)
   refine .ret _ ?_
   conv => whnf
   refine ⟨kx, ⟨?_, rfl⟩, rr, trivial⟩
   conv => lhs; whnf
 · rw [if_neg E] at C34
   generalize mvsE l = e at C34 C35 E
   repeat' (first | (refine CallX.kn C34 rfl rfl rfl rfl ?_; conv => whnf) | (refine CallX.exact (C35) rfl rfl ?_; rotate_right; conv => whnf) | (refine CallX.kn C36 rfl rfl rfl rfl ?_; conv => whnf) | (refine CallX.of C37 [(1000000, 15), (1000009, 1000009)] rfl ⟨lr, trivial⟩ ⟨rr, rr, trivial⟩ rfl rfl ?_; rintro x rout ⟨⟨t, ht, rfl⟩, ⟨c, c1, c2, rfl⟩⟩; refine ⟨rfl, ?_⟩; conv => whnf) | (refine br_intro ?_ ?_ <;> intro hb <;> (try simp only [brs] at hb) <;> conv => whnf) | omega | (refine And.intro ?_ ?_; ((try dsimp only); first | omega | (refine szA rfl ?_; omega) | (refine szB rfl ?_; omega) | (unfold inI64; omega) | exact rfl | (simp only [List.toList_toArray, List.length_cons, List.length_nil]; omega) | (simp only [lns] at *; omega) | decide | (unfold inI64; decide)); conv => whnf) | decide | assumption)
   have hA := redF_lenM (text := t) (by omega)
   have C38 := lz38 t (by omega)
   have C39 := lz39 t (by omega)
   rw [← redF_agree tkMov_agree] at C39
   have C40 := p57 (redF (tkMov numN) mvsE t).1 (redF (tkMov numN) mvsE t).1 hA
   generalize redF (tkMov numN) mvsE t = R at C38 C39 C40
   obtain ⟨ra, rb, rc⟩ := R
   rw [decide_eq_true (rfl : ra = ra)] at C40
   repeat' (first | (refine CallX.kn C38 rfl rfl rfl rfl ?_; conv => whnf) | (refine CallX.kn C39 rfl rfl rfl rfl ?_; conv => whnf) | (refine CallX.exact (C40) rfl rfl ?_; rotate_right; conv => whnf) | (refine CallX.exact (p19) rfl rfl ?_; rotate_right; conv => whnf) | (refine br_intro ?_ ?_ <;> intro hb <;> (try simp only [brs] at hb) <;> conv => whnf) | omega | (refine And.intro ?_ ?_; ((try dsimp only); first | omega | (refine szA rfl ?_; omega) | (refine szB rfl ?_; omega) | (unfold inI64; omega) | exact rfl | (simp only [List.toList_toArray, List.length_cons, List.length_nil]; omega) | (simp only [lns] at *; omega) | decide | (unfold inI64; decide)); conv => whnf) | decide | assumption)
   refine .ret _ ?_
   conv => whnf
   refine ⟨kx, ⟨?_, rfl⟩, rr, trivial⟩
   conv => lhs; whnf
end Go.Proofs.YtgeakdcbpjmkbaaGreatDoor
