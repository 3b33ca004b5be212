/- PlansAreCheapest is proved: for every input the law returns true, and its argument reads afterwards as it read before. Conditions: those of the given row alone. -/
import Derived.Test.YteehenjdddlnnaaGreatDoorPchConTri
import Derived.Test.YteehenjdddlnnaaGreatDoorPchConOne
import Derived.Shelf.Spec.SlicesGrow
import Derived.Test.YteehenjdddlnnaaGreatDoorPchConTwo
import Derived.Test.YteehenjdddlnnaaGreatDoorPchEngTwo
set_option linter.unusedVariables false
set_option linter.unusedSimpArgs false
set_option maxRecDepth 20000
namespace Go.Proofs.YteehenjdddlnnaaGreatDoor
open Go Go.Eng
def oVPgB22_8 : List (Nat × List Nat) := [(0, []), (1, []), (2, []), (3, [0, 1, 2]), (4, [0, 1, 2]), (5, [])]
def oVPgB22_17 : List (Nat × List Nat) := [(0, []), (1, [0]), (2, [0]), (3, []), (4, []), (5, [0, 1, 2, 3, 4]), (6, [0, 1, 2, 3, 4]), (7, []), (8, []), (9, [])]
def oVPgB22_18 : List (Nat × List Nat) := [(0, []), (1, [0]), (2, [0, 1]), (3, [0, 1]), (4, [0]), (5, [0, 1, 2, 3, 4]), (6, [0, 1, 2, 3, 4, 5]), (7, [0, 1, 2, 3, 4, 5]), (8, [0, 1, 2, 3, 4]), (9, [0, 1, 2, 3, 4]), (10, [0, 1, 2, 3, 4, 5, 6, 7, 8, 9]), (11, [0, 1, 2, 3, 4, 5, 6, 7, 8, 9]), (12, [0, 1, 2, 3, 4]), (13, []), (14, []), (15, []), (16, []), (17, [])]
def oVPgB22_20 : List (Nat × List Nat) := [(0, []), (1, [0]), (2, [0, 1]), (3, [0, 1]), (4, [0]), (5, [0, 1, 2, 3, 4]), (6, [0, 1, 2, 3, 4, 5]), (7, [0, 1, 2, 3, 4, 5]), (8, [0, 1, 2, 3, 4]), (9, [0, 1, 2, 3, 4]), (10, [0, 1, 2, 3, 4, 5, 6, 7, 8, 9]), (11, [0, 1, 2, 3, 4, 5, 6, 7, 8, 9]), (12, [0, 1, 2, 3, 4]), (13, []), (14, []), (15, []), (16, []), (17, [])]
def oVPgB22_26 : List (Nat × List Nat) := [(0, []), (1, [0]), (2, []), (3, []), (4, [0, 1, 2, 3]), (5, [0, 1, 2, 3]), (6, [0, 1, 2, 3]), (7, [0, 1, 2, 3]), (8, [0, 1, 2, 3, 4, 5, 6, 7]), (9, [0, 1, 2, 3]), (10, [0, 1, 2, 3]), (11, [])]
def oVPgB22_27 : List (Nat × List Nat) := [(0, []), (1, [0]), (2, [0, 1]), (3, [0]), (4, [0, 1, 2, 3]), (5, []), (6, []), (7, []), (8, []), (9, [])]
def oVPgB22_37 : List (Nat × List Nat) := [(0, []), (1, [0]), (2, []), (3, []), (4, [0, 1, 2, 3]), (5, []), (6, []), (7, [])]
structure PrvI (n : List Ned) (r : List Roa) (C : List Arc) (left p : Nat → Int) : Prop where
 sm : Sm (arcs n r) C
 st : (nwG n r).St (getI (havL n)) (getI (wntL n)) (floA C) left (fun _ => 0)
 pt : (nwG n r).Pot (getI (havL n)) (floA C) left p
abbrev gonG (n : List Ned) (r : List Roa) (C : List Arc) : Nat → Int := gonF (nwG n r) (floA C) (nwG n r).K
abbrev opnG (n : List Ned) (r : List Roa) (C : List Arc) : Nat × Bool → Prop := (nwG n r).opn (getI (havL n)) (floA C) (gonG n r C)
abbrev potG (n : List Ned) (r : List Roa) (p : Nat → Int) (v : Nat) : Int := if v < (nwG n r).N then p v else 0
theorem PrvI.gon {n : List Ned} {r : List Roa} {C : List Arc} {left p : Nat → Int} (h : PrvI n r C left p) (hn : ndsE n = 0) {v : Nat} (hv : v < n.length) : (kindB n v = true → gonG n r C v = getI (havL n) v - left v) ∧ 0 ≤ gonG n r C v ∧ gonG n r C v ≤ 20 := by
 have hB := nwG_bip n r
 have h1 := fun hk => gonF_all hB h.st (fun v hv hk => by rw [getI_wnt hv]; have := kindB_get.2 hk; unfold wntF; omega) hv hk
 refine ⟨h1, ?_⟩
 cases hk : kindB n v with
 | true =>
   have h2 := h1 hk
   have h3 := h.st.left0 v hv
   have h4 := (havF_bd hn v).1
   rw [getI_hav hv] at h2 h3
   show 0 ≤ gonF _ _ _ _ ∧ gonF _ _ _ _ ≤ 20
   omega
 | false =>
   have := gonF_none (G := nwG n r) (f := floA C) hB hk
   show 0 ≤ gonF _ _ _ _ ∧ gonF _ _ _ _ ≤ 20
   omega
theorem PrvI.op {n : List Ned} {r : List Roa} {C : List Arc} {left p : Nat → Int} (h : PrvI n r C left p) (hn : ndsE n = 0) (hr : rdsE r = 0) : (nwG n r).ext.Op (opnG n r C) (potG n r p) := by
 refine Nw.ext_op (nwG_ok (n := n) hr).1 h.pt fun v hv h0 => ?_
 refine (h.gon hn hv).1 ?_
 cases hk : kindB n v with
 | true => rfl
 | false =>
   rw [getI_hav hv] at h0
   have := kindB_get.1 hk
   unfold havF at h0; omega
theorem opn_cc {n : List Ned} {r : List Roa} {C : List Arc} (hr : rdsE r = 0) : ∀ e, opnG n r C e → -1000000 ≤ (nwG n r).ext.cc e := by
 rintro ⟨k, b⟩ ⟨h1, _, _⟩
 by_cases hk : k < (nwG n r).K
 · rw [(ext_arc hk b).2.2]
   have h2 := (nwG_ok (n := n) hr).1.c0 k hk
   have h3 := (nwG_ok (n := n) hr).2 k hk
   cases b
   · show -1000000 ≤ (nwG n r).c k; omega
   · show -1000000 ≤ - (nwG n r).c k; omega
 · obtain ⟨i, rfl⟩ : ∃ i, k = (nwG n r).K + i := ⟨k - (nwG n r).K, by omega⟩
   rw [(ext_in i b).2.2]; omega
abbrev RelG (n : List Ned) (r : List Roa) (C : List Arc) (p : Nat → Int) (D0 : List Int) (s0 : Int) (D : List Int) (s : Int) (ch : Bool) (Q : Nat × Bool → Prop) : Prop := RelI (nwG n r) (opnG n r C) (potG n r p) (su (potG n r p) ((nwG n r).N + 1)) D0 s0 D s ch Q
theorem RelG.b {n : List Ned} {r : List Roa} {C : List Arc} {left p : Nat → Int} (hI : PrvI n r C left p) (hn : ndsE n = 0) (hr : rdsE r = 0) {D0 D : List Int} {s0 s : Int} {ch : Bool} {Q : Nat × Bool → Prop} (h : RelG n r C p D0 s0 D s ch Q) : D.length = n.length ∧ (∀ v, v < n.length → -10000000 ≤ D.getD v 0 ∧ D.getD v 0 ≤ 0) ∧ -10000000 ≤ s ∧ s ≤ 0 := by
 have hl := (nds_all hn).1
 obtain ⟨h1, h2⟩ := h.bd (C := 1000000) (Nw.ext_ok (nwG_ok (n := n) hr).1) (hI.op hn hr) (by omega) (opn_cc hr)
 have hN : ((nwG n r).N : Int) = n.length := rfl
 refine ⟨h.len, fun v hv => ?_, by omega, by omega⟩
 have := h1 v hv
 omega
theorem RelG.low {n : List Ned} {r : List Roa} {C : List Arc} {left p : Nat → Int} (hI : PrvI n r C left p) (hn : ndsE n = 0) (hr : rdsE r = 0) {D0 D : List Int} {s0 s : Int} {ch : Bool} {Q : Nat × Bool → Prop} (h : RelG n r C p D0 s0 D s ch Q) : -200000000 ≤ su (dst (nwG n r).N D s) ((nwG n r).N + 1) := by
 have hl := (nds_all hn).1
 obtain ⟨_, h1, h2⟩ := h.b hI hn hr
 have : ∀ m, m ≤ (nwG n r).N + 1 → -10000000 * (m : Int) ≤ su (dst (nwG n r).N D s) m := by
  intro m
  induction m with
  | zero => intro _; exact Int.le_refl _
  | succ m ih =>
    intro hm
    have := ih (by omega)
    have h3 : -10000000 ≤ dst (nwG n r).N D s m := by
     unfold dst; split
     · rename_i q; exact (h1 m q).1
     · omega
    rw [su]; omega
 have h3 := this ((nwG n r).N + 1) (Nat.le_refl _)
 have hN : (nwG n r).N = n.length := rfl
 omega
theorem le_su {F : Nat → Int} {n a : Nat} (h : ∀ k, k < n → 0 ≤ F k) (ha : a < n) : F a ≤ su F n := by
 have h1 := su_le (F := fun v => if a = v then F a else 0) (H := F) (n := n) (fun k hk => by
  have := h k hk
  show (if a = k then F a else 0) ≤ F k
  split
  · rename_i q; rw [q]; exact Int.le_refl _
  · exact this)
 rw [su_one ha] at h1; exact h1
theorem relG_init {n : List Ned} {r : List Roa} {C : List Arc} {left p : Nat → Int} (hI : PrvI n r C left p) (hn : ndsE n = 0) (hr : rdsE r = 0) : RelG n r C p (List.replicate n.length 0) 0 (List.replicate n.length 0) 0 false (fun _ => true = false) := by
 have hp := hI.op hn hr
 have hE := Nw.ext_ok (nwG_ok (n := n) hr).1
 have h0 : ∀ v, v < (nwG n r).N + 1 → 0 ≤ potG n r p v := fun v _ => by
  show 0 ≤ (if v < (nwG n r).N then p v else 0)
  split
  · rename_i q; exact hI.pt.p0 v q
  · omega
 refine ⟨List.length_replicate, ⟨fun _ => none, Pw_congr (fun e he => Nw.hd_lt hE (hp.lt e he)) (fun v hv => ?_) (Nw.pw_init fun v hv => le_su h0 hv)⟩, fun _ => ⟨⟨rfl, rfl⟩, fun e _ q => by cases q⟩, fun q => by cases q⟩
 unfold dst
 split
 · rename_i q
   have q : v < n.length := q
   show (List.replicate n.length (0 : Int)).getD v 0 = 0
   rw [List.getD_eq_getElem?_getD, List.getElem?_replicate, if_pos q]; rfl
 · rfl
theorem PrvI.arc {n : List Ned} {r : List Roa} {C : List Arc} {left p : Nat → Int} (h : PrvI n r C left p) (hn : ndsE n = 0) (hr : rdsE r = 0) {k : Nat} (hk : k < C.length) :
 ((C.getD k ar0).fr = ((nwG n r).fr k : Nat) ∧ (C.getD k ar0).to = ((nwG n r).to k : Nat) ∧ (C.getD k ar0).car = (nwG n r).c k) ∧ ((nwG n r).fr k < n.length ∧ (nwG n r).to k < n.length) ∧ (0 ≤ (C.getD k ar0).car ∧ (C.getD k ar0).car ≤ 1000000) ∧ (0 ≤ (C.getD k ar0).flow ∧ (C.getD k ar0).flow ≤ 20) ∧ k < (nwG n r).K := by
 have hlen : (arcs n r).length = (arL n r).length := List.length_map _
 have hk2 : k < (nwG n r).K := by show k < (arL n r).length; have := h.sm.len; omega
 have h1 := h.sm.fld k
 rw [arcs_get] at h1
 have hm := arL_mem (nwG_at hk2)
 have hc := nwG_ok (n := n) hr
 have h0 := h.st.f0 k hk2
 have hg := (h.gon hn hm.1.1).2.2
 have hm2 := gonF_mono (G := nwG n r) (f := floA C) h.st.f0 ((nwG n r).fr k) (k := k + 1) (by omega)
 have hm3 := gonF_mono (G := nwG n r) (f := floA C) h.st.f0 ((nwG n r).fr k) (k := k) (by omega)
 rw [gonF_succ, if_pos rfl] at hm2
 have hg : gonF (nwG n r) (floA C) (nwG n r).K ((nwG n r).fr k) ≤ 20 := hg
 have h0 : 0 ≤ floA C k := h0
 have c1 := hc.1.c0 k hk2
 have c2 := hc.2 k hk2
 have e3 : (C.getD k ar0).car = (nwG n r).c k := h1.2.2
 have e4 : (C.getD k ar0).flow = floA C k := rfl
 exact ⟨⟨h1.1, h1.2.1, e3⟩, ⟨hm.1.1, hm.2.1.1⟩, by omega, by omega, hk2⟩
abbrev prvS (n : List Ned) (C : List Arc) (D : List Int) (s : Int) : List (Nat × Res) := [(24, tpV (havL n) (wntL n) C), (10, .cells 3 [.d (.int .i64 s)]), (40, seqB 3 1 iF 0 D)]
set_option maxHeartbeats 16000000 in
theorem p22 (n : List Ned) (r : List Roa) (hn : ndOk n) (hr : rdOk r) : FSpec Tryz.prog 22 [.d (neds n), .d (roas r)] []
 (fun y q => (∃ l e, y = .tup [.d (pris l), .d (.int .i64 e)] ∧ PriceR n r l e) ∧ q = []) := by
 obtain ⟨E0, hE0⟩ : ∃ e, firstE [ndsE n, rdsE r] = e := ⟨_, rfl⟩
 have s113' := s113 n r hn hr
 rw [hE0] at s113'
 refine spec_of hT (C := []) Tryz.func22 rfl Tryz.call22 rfl rfl rfl ?_
 conv => whnf
 by_cases h0 : firstE [ndsE n, rdsE r] = 0
 · obtain ⟨hn0, hr0⟩ := firstE_two h0
   have hA := arcs_ok hn0 hr0
   have hnl := (nds_all hn0).1
   have hGo := (nwG_ok (n := n) hr0).1
   have hGe := Nw.ext_ok hGo
   repeat' (first | (refine CallX.exact (s113') rfl rfl ?_; rotate_right; conv => whnf) | (refine CallX.of (p59 n r hn0 hr0) [(20, 24), (15, 1000), (18, 1001), (500, 1002)] rfl ⟨lr, lr, trivial⟩ trivial rfl rfl ?_; rintro x rout ⟨rfl, rfl⟩; refine ⟨rfl, ?_⟩; conv => whnf) | (refine CallX.of (p60 (havL n) (wntL n) (arcs n r) (by rw [show (havL n).length = n.length from fillA_length]; exact hA) (by rw [show (havL n).length = n.length from fillA_length]; omega) (by rw [show (havL n).length = n.length from fillA_length]; exact fillA_length) (fun v hv => by rw [getI_hav (by rw [← (show (havL n).length = n.length from fillA_length)]; exact hv)]; have := (havF_bd hn0 v).1; omega) (fun v hv => by rw [getI_wnt (by rw [← (show (havL n).length = n.length from fillA_length)]; exact hv)]; have := (havF_bd hn0 v).2; omega)) [(1000000, 24), (1000001, 1000), (1000002, 1001), (1000003, 1002)] rfl ⟨lr, trivial⟩ ⟨rr, rr, rr, rr, trivial⟩ rfl rfl ?_; rintro x rout ⟨C, ⟨hS0, hR0⟩, rfl⟩; rw [show (havL n).length = n.length from fillA_length, nwA_arcs] at hR0; (rcases hR0 with ⟨left, p, hst, hpt, hcb, rfl⟩ | ⟨hno, c, rfl⟩) <;> (refine ⟨rfl, ?_⟩ <;> (conv => whnf)); conv => whnf) | (refine br_intro ?_ ?_ <;> intro hb <;> (try simp only [brs] at hb) <;> conv => whnf) | (refine RegX.rule (id := 8) hT rfl [] oVPgB22_8 (by decide +kernel) ?_; conv => whnf) | (refine RegX.rule (id := 17) hT rfl [] oVPgB22_17 (by decide +kernel) ?_; conv => whnf) | (refine RegX.rule (id := 18) hT rfl [] oVPgB22_18 (by decide +kernel) ?_; conv => whnf) | (refine RegX.rule (id := 20) hT rfl [] oVPgB22_20 (by decide +kernel) ?_; conv => whnf) | (refine RegX.rule (id := 26) hT rfl [] oVPgB22_26 (by decide +kernel) ?_; conv => whnf) | (refine RegX.rule (id := 27) hT rfl [] oVPgB22_27 (by decide +kernel) ?_; conv => whnf) | (refine RegX.rule (id := 37) hT rfl [] oVPgB22_37 (by decide +kernel) ?_; conv => whnf) | omega | (refine And.intro ?_ ?_; ((try dsimp only); first | omega | (refine szA rfl ?_; omega) | (refine szB rfl ?_; omega) | (unfold inI64; omega) | exact rfl | (simp only [lns] at *; omega) | decide | (unfold inI64; decide)); conv => whnf) | decide | assumption)
   · have hI : PrvI n r C left p := ⟨hS0, hst, hpt⟩
     refine LoopX.freeze 1002 108 4 _ _ rfl ?_
     refine LoopX.rule hT (C := []) (ι := List Int × Int × Bool) (fun (D, s, ch) => RelG n r C p D s D s false (fun e => ch = false)) (fun (D, s, ch) => mkSt [(0, .d (neds n)), (7, .ptr 24 0), (10, .ptr 10 0), (11, .buf 40), (12, .fn 61 []), (13, .d (.bool ch))] (prvS n C D s)) (fun (D, s, ch) => 2 * (su (dst (nwG n r).N D s) ((nwG n r).N + 1) + 200000000).toNat + (if ch = true then 1 else 0)) (List.replicate n.length 0, 0, true) (relG_init hI hn0 hr0) ?_ ?_
     · refine (Entails.froCell 24 1000 1 _ 0 _ rfl rfl rfl).trans ?_
       refine (Entails.froCell 24 1001 1 _ 1 _ rfl rfl rfl).trans ?_
       refine (Entails.froCell 24 1002 4 _ 2 _ rfl rfl rfl).trans ?_
       refine Entails.mk' [(24, 24), (10, 10), (40, 40)] rfl rfl ⟨lr, lr, lr, lr, lr, lr, trivial⟩ ⟨rr, rr, ?_, trivial⟩
       exact Res.le_buf (by rw [List.length_replicate]; exact Int.toNat_natCast _) (fun i hi => by
        have hi : i < n.length := by simpa using hi
        show _ = iF ((List.replicate n.length 0).getD i 0)
        rw [List.getD_eq_getElem?_getD, List.getElem?_replicate, if_pos hi]; rfl)
     rintro ⟨D0, s0, ch0⟩ hR
     have hR : RelG n r C p D0 s0 D0 s0 false (fun _ => ch0 = false) := hR
     have hb0 := hR.b hI hn0 hr0
     have hCl : C.length = (arcs n r).length := hI.sm.len
     have hAl := arcs_ok hn0 hr0
     have hAll := hAl.len
     cases ch0 with
     | false =>
       obtain ⟨y, hy⟩ : ∃ y : Nat → Int, y = fun v => D0.getD v 0 - s0 := ⟨_, rfl⟩
       have hPrc : (nwG n r).Prc (getI (havL n)) (floA C) (gonG n r C) (fun v => dst (nwG n r).N D0 s0 v - dst (nwG n r).N D0 s0 (nwG n r).N) := Nw.ext_prc hGo fun e he => (hR.no rfl).2 e he rfl
       have hye : ∀ v, v < n.length → dst (nwG n r).N D0 s0 v - dst (nwG n r).N D0 s0 (nwG n r).N = y v := fun v hv => by
        have hv : v < (nwG n r).N := hv
        rw [hy]
        unfold dst
        rw [if_pos hv, if_neg (Nat.lt_irrefl _)]; rfl
       have hPy : (nwG n r).Prc (getI (havL n)) (floA C) (gonG n r C) y := by
        have hto := fun k hk => hGo.to k hk
        have hfr := fun k hk => hGo.fr k hk
        refine ⟨fun k hk => ?_, fun k hk hf => ?_, fun v hv h1 h2 => ?_, fun v hv h1 h2 => ?_⟩
        · have := hPrc.ar k hk
          rw [← hye _ (hto k hk), ← hye _ (hfr k hk)]; exact this
        · have := hPrc.tight k hk hf
          rw [← hye _ (hto k hk), ← hye _ (hfr k hk)]; exact this
        · rw [← hye _ hv]; exact hPrc.lo v hv h1 h2
        · rw [← hye _ hv]; exact hPrc.hi v hv h1 h2
       have hyb : ∀ v, v < n.length → -10000000 ≤ y v ∧ y v ≤ 10000000 := fun v hv => by
        have := hb0.2.1 v hv
        rw [hy]; show -10000000 ≤ D0.getD v 0 - s0 ∧ D0.getD v 0 - s0 ≤ 10000000; omega
       have hOpt : (nwG n r).IsOpt (kindB n) (getI (havL n)) (getI (wntL n)) ((nwG n r).cost (floA C)) := by
        obtain ⟨o1, o2⟩ := Nw.opt hGo hst hpt (fun _ _ => rfl)
        have hfl := Nw.Bip.fl (nwG_bip n r) (h := getI (havL n)) (w := getI (wntL n)) (fun v hv hk => by rw [getI_hav hv]; have := kindB_get.1 hk; unfold havF; omega) (fun v hv hk => by rw [getI_wnt hv]; have := kindB_get.2 hk; unfold wntF; omega)
        exact ⟨⟨floA C, (hfl _).1 o1, rfl⟩, fun g hg => o2 g ((hfl g).2 hg)⟩
       have hD0l := hb0.1
       conv => whnf
       repeat' (first | (refine br_intro ?_ ?_ <;> intro hb <;> (try simp only [brs] at hb) <;> conv => whnf) | (refine RegX.rule (id := 8) hT rfl [] oVPgB22_8 (by decide +kernel) ?_; conv => whnf) | (refine RegX.rule (id := 17) hT rfl [] oVPgB22_17 (by decide +kernel) ?_; conv => whnf) | (refine RegX.rule (id := 18) hT rfl [] oVPgB22_18 (by decide +kernel) ?_; conv => whnf) | (refine RegX.rule (id := 20) hT rfl [] oVPgB22_20 (by decide +kernel) ?_; conv => whnf) | (refine RegX.rule (id := 26) hT rfl [] oVPgB22_26 (by decide +kernel) ?_; conv => whnf) | (refine RegX.rule (id := 27) hT rfl [] oVPgB22_27 (by decide +kernel) ?_; conv => whnf) | (refine RegX.rule (id := 37) hT rfl [] oVPgB22_37 (by decide +kernel) ?_; conv => whnf) | omega | (refine And.intro ?_ ?_; ((try dsimp only); first | omega | (refine szA rfl ?_; omega) | (refine szB rfl ?_; omega) | (unfold inI64; omega) | exact rfl | (simp only [lns] at *; omega) | decide | (unfold inI64; decide)); conv => whnf) | decide | assumption)
       all_goals try (exfalso; omega)
       refine LoopX.rule hT (C := []) (ι := Nat) (fun i => i ≤ n.length) (fun i => mkSt [(10, .ptr 10 0), (11, .buf 40), (18, .buf 603), (150, .d (neds n)), (151, .d (.int .i64 n.length)), (152, .d (.int .i64 i))] [(10, .cells 3 [.d (.int .i64 s0)]), (40, seqB 3 1 iF 0 D0), (603, seqB 95 2 puF pr00 (priL n y i))]) (fun i => n.length - i) 0 (by show 0 ≤ _; omega) ?_ ?_
       · refine (Entails.nil 18 603 95 2 (rowF puF pr00 []) rfl rfl (by decide)).trans ?_
         exact Entails.mk' [(10, 10), (40, 40), (603, 603)] rfl rfl ⟨lr, lr, lr, lr, lr, lr, trivial⟩ ⟨rr, rr, rr, trivial⟩
       rintro i hi
       have hi : i ≤ n.length := hi
       have e1 : (i : Int).toNat = i := Int.toNat_natCast i
       have hpl := priL_len n y i
       rcases Nat.lt_or_ge i n.length with hin | hin
       · have hbi := hb0.2.1 i hin
         rw [← e1] at hbi
         conv => whnf
         repeat' (first | (refine br_intro ?_ ?_ <;> intro hb <;> (try simp only [brs] at hb) <;> conv => whnf) | (refine RegX.rule (id := 8) hT rfl [] oVPgB22_8 (by decide +kernel) ?_; conv => whnf) | (refine RegX.rule (id := 17) hT rfl [] oVPgB22_17 (by decide +kernel) ?_; conv => whnf) | (refine RegX.rule (id := 18) hT rfl [] oVPgB22_18 (by decide +kernel) ?_; conv => whnf) | (refine RegX.rule (id := 20) hT rfl [] oVPgB22_20 (by decide +kernel) ?_; conv => whnf) | (refine RegX.rule (id := 26) hT rfl [] oVPgB22_26 (by decide +kernel) ?_; conv => whnf) | (refine RegX.rule (id := 27) hT rfl [] oVPgB22_27 (by decide +kernel) ?_; conv => whnf) | (refine RegX.rule (id := 37) hT rfl [] oVPgB22_37 (by decide +kernel) ?_; conv => whnf) | omega | (refine And.intro ?_ ?_; ((try dsimp only); first | omega | (refine szA rfl ?_; omega) | (refine szB rfl ?_; omega) | (unfold inI64; omega) | exact rfl | (simp only [lns] at *; omega) | decide | (unfold inI64; decide)); conv => whnf) | decide | assumption)
         all_goals try (exfalso; omega)
         · refine ⟨i + 1, hin, by show n.length - (i + 1) < n.length - i; omega, Entails.mk' [(10, 10), (40, 40), (603, 173)] rfl rfl ⟨lr, lr, lr, lr, lr, lr, trivial⟩ ⟨rr, rr, ?_, trivial⟩⟩
           show Res.le _ (seqB 95 2 puF pr00 (priL n y (i + 1)))
           rw [priL_succ, if_pos hb]
           refine Res.le_snocF ?_
           rw [hy]; rfl
         · refine ⟨i + 1, hin, by show n.length - (i + 1) < n.length - i; omega, Entails.mk' [(10, 10), (40, 40), (603, 173)] rfl rfl ⟨lr, lr, lr, lr, lr, lr, trivial⟩ ⟨rr, rr, ?_, trivial⟩⟩
           show Res.le _ (seqB 95 2 puF pr00 (priL n y (i + 1)))
           rw [priL_succ, if_neg (by simpa using hb)]
           exact Res.le_snocF rfl
       · have hin : i = n.length := by omega
         rw [hin]
         conv => whnf
         repeat' (first | (refine br_intro ?_ ?_ <;> intro hb <;> (try simp only [brs] at hb) <;> conv => whnf) | (refine RegX.rule (id := 8) hT rfl [] oVPgB22_8 (by decide +kernel) ?_; conv => whnf) | (refine RegX.rule (id := 17) hT rfl [] oVPgB22_17 (by decide +kernel) ?_; conv => whnf) | (refine RegX.rule (id := 18) hT rfl [] oVPgB22_18 (by decide +kernel) ?_; conv => whnf) | (refine RegX.rule (id := 20) hT rfl [] oVPgB22_20 (by decide +kernel) ?_; conv => whnf) | (refine RegX.rule (id := 26) hT rfl [] oVPgB22_26 (by decide +kernel) ?_; conv => whnf) | (refine RegX.rule (id := 27) hT rfl [] oVPgB22_27 (by decide +kernel) ?_; conv => whnf) | (refine RegX.rule (id := 37) hT rfl [] oVPgB22_37 (by decide +kernel) ?_; conv => whnf) | omega | (refine And.intro ?_ ?_; ((try dsimp only); first | omega | (refine szA rfl ?_; omega) | (refine szB rfl ?_; omega) | (unfold inI64; omega) | exact rfl | (simp only [lns] at *; omega) | decide | (unfold inI64; decide)); conv => whnf) | decide | assumption)
         all_goals try (exfalso; omega)
         refine .freeze _ 603 95 2 _ _ rfl (.weak _ ?_)
         conv => whnf
         exact ⟨.tup [.d (pris (priL n y n.length)), .d (.int .i64 0)], _, SV.le_tup ⟨lr, lr, trivial⟩, ⟨⟨_, _, rfl, .inr ⟨⟨hn0, hr0⟩, .inr ⟨⟨floA C, left, y, hst, hOpt, hPy, hyb, rfl⟩, rfl⟩⟩⟩, rfl⟩, trivial⟩
     | true =>
       conv => whnf
       repeat' (first | (refine br_intro ?_ ?_ <;> intro hb <;> (try simp only [brs] at hb) <;> conv => whnf) | (refine RegX.rule (id := 8) hT rfl [] oVPgB22_8 (by decide +kernel) ?_; conv => whnf) | (refine RegX.rule (id := 17) hT rfl [] oVPgB22_17 (by decide +kernel) ?_; conv => whnf) | (refine RegX.rule (id := 18) hT rfl [] oVPgB22_18 (by decide +kernel) ?_; conv => whnf) | (refine RegX.rule (id := 20) hT rfl [] oVPgB22_20 (by decide +kernel) ?_; conv => whnf) | (refine RegX.rule (id := 26) hT rfl [] oVPgB22_26 (by decide +kernel) ?_; conv => whnf) | (refine RegX.rule (id := 27) hT rfl [] oVPgB22_27 (by decide +kernel) ?_; conv => whnf) | (refine RegX.rule (id := 37) hT rfl [] oVPgB22_37 (by decide +kernel) ?_; conv => whnf) | omega | (refine And.intro ?_ ?_; ((try dsimp only); first | omega | (refine szA rfl ?_; omega) | (refine szB rfl ?_; omega) | (unfold inI64; omega) | exact rfl | (simp only [lns] at *; omega) | decide | (unfold inI64; decide)); conv => whnf) | decide | assumption)
       all_goals try (exfalso; omega)
       refine LoopX.rule hT (C := []) (ι := List Int × List Int × Bool × Nat) (fun (D, E, ch, k) => k ≤ C.length ∧ RelG n r C p D0 s0 D s0 ch (fun e => e.1 < k) ∧ E.length = n.length ∧ ∀ v, v < n.length → getI E v = gonF (nwG n r) (floA C) k v) (fun (D, E, ch, k) => mkSt [(0, .d (neds n)), (7, .ptr 24 0), (10, .ptr 10 0), (11, .buf 40), (12, .fn 61 []), (13, .d (.bool ch)), (14, .buf 44), (48, .d (seqD 4 arF ar0 C)), (49, .d (.int .i64 C.length)), (50, .d (.int .i64 k))] (prvS n C D s0 ++ [(44, seqB 3 1 iF 0 E)])) (fun (_, _, _, k) => C.length - k) (D0, List.replicate n.length 0, false, 0) ⟨by show 0 ≤ _; omega, hR.weak (fun e _ q => absurd q (Nat.not_lt_zero _)), List.length_replicate, fun v hv => ?_⟩ ?_ ?_
       · show (List.replicate n.length (0 : Int)).getD v 0 = 0
         rw [List.getD_eq_getElem?_getD, List.getElem?_replicate, if_pos hv]; rfl
       · refine Entails.mk' [(24, 24), (10, 10), (40, 40), (44, 44)] rfl rfl ⟨lr, lr, lr, lr, lr, lr, lr, lr, lr, lr, trivial⟩ ⟨rr, rr, rr, ?_, trivial⟩
         exact Res.le_buf (by rw [List.length_replicate]; exact Int.toNat_natCast _) (fun i hi => by
          have hi : i < n.length := by simpa using hi
          show _ = iF ((List.replicate n.length 0).getD i 0)
          rw [List.getD_eq_getElem?_getD, List.getElem?_replicate, if_pos hi]; rfl)
       rintro ⟨D, E, ch, k⟩ ⟨hk, hRk, hEl, hEg⟩
       have hk : k ≤ C.length := hk
       have hRk : RelG n r C p D0 s0 D s0 ch (fun e => e.1 < k) := hRk
       have hEl : E.length = n.length := hEl
       have hEg : ∀ v, v < n.length → getI E v = gonF (nwG n r) (floA C) k v := hEg
       have ek : (k : Int).toNat = k := Int.toNat_natCast k
       rcases Nat.lt_or_ge k C.length with hkC | hkC
       · obtain ⟨⟨a1, a2, a3⟩, ⟨a4, a5⟩, a6, a7, a8⟩ := hI.arc hn0 hr0 hkC
         have hbk := hRk.b hI hn0 hr0
         have hEf := hEg _ a4
         have hgm := gonF_mono (G := nwG n r) (f := floA C) hst.f0 ((nwG n r).fr k) (k := k) (by omega)
         have hgl := (hI.gon hn0 a4).2.2
         have hgl : gonF (nwG n r) (floA C) (nwG n r).K ((nwG n r).fr k) ≤ 20 := hgl
         have u1 : (C.getD (k : Int).toNat ar0).fr.toNat = (nwG n r).fr k := by rw [ek, a1, Int.toNat_natCast]
         have u2 : (C.getD (k : Int).toNat ar0).to.toNat = (nwG n r).to k := by rw [ek, a2, Int.toNat_natCast]
         have u3 : (C.getD (k : Int).toNat ar0).car = (nwG n r).c k := by rw [ek]; exact a3
         have w1 : 0 ≤ (C.getD (k : Int).toNat ar0).fr ∧ (C.getD (k : Int).toNat ar0).fr < n.length := by rw [ek]; omega
         have w2 : 0 ≤ (C.getD (k : Int).toNat ar0).to ∧ (C.getD (k : Int).toNat ar0).to < n.length := by rw [ek]; omega
         have w3 : 0 ≤ (C.getD (k : Int).toNat ar0).car ∧ (C.getD (k : Int).toNat ar0).car ≤ 1000000 := by rw [ek]; exact a6
         have w4 : 0 ≤ (C.getD (k : Int).toNat ar0).flow ∧ (C.getD (k : Int).toNat ar0).flow ≤ 20 := by rw [ek]; exact a7
         have w5 : 0 ≤ E.getD (C.getD (k : Int).toNat ar0).fr.toNat 0 ∧ E.getD (C.getD (k : Int).toNat ar0).fr.toNat 0 ≤ 20 := by
          rw [u1]; unfold getI at hEf; omega
         have w6 : -10000000 ≤ D.getD (C.getD (k : Int).toNat ar0).fr.toNat 0 ∧ D.getD (C.getD (k : Int).toNat ar0).fr.toNat 0 ≤ 0 := by rw [u1]; exact hbk.2.1 _ a4
         have hDl := hbk.1
         have hR1 := hRk.arc hGo hGe (hI.op hn0 hr0) a8 (b := false) ⟨by show k < _ + _; omega, (fun _ q => by cases q), fun q => absurd a8 q⟩ (u := (C.getD (k : Int).toNat ar0).fr.toNat) (w := (C.getD (k : Int).toNat ar0).to.toNat) u1.symm u2.symm (x := D.getD (C.getD (k : Int).toNat ar0).fr.toNat 0 + (C.getD (k : Int).toNat ar0).car) (by rw [u3]; rfl)
         obtain ⟨D1, hD1⟩ : ∃ D1, D1 = lwr D (C.getD (k : Int).toNat ar0).to.toNat (D.getD (C.getD (k : Int).toNat ar0).fr.toNat 0 + (C.getD (k : Int).toNat ar0).car) := ⟨_, rfl⟩
         have c1 := p61b D (C.getD (k : Int).toNat ar0).to.toNat (D.getD (C.getD (k : Int).toNat ar0).fr.toNat 0 + (C.getD (k : Int).toNat ar0).car) (by rw [hDl]; omega)
         rw [← hD1] at hR1 c1
         have hb1 := RelG.b hI hn0 hr0 hR1
         have hD1l := hb1.1
         have w7 : -10000000 ≤ D1.getD (C.getD (k : Int).toNat ar0).to.toNat 0 ∧ D1.getD (C.getD (k : Int).toNat ar0).to.toNat 0 ≤ 0 := by rw [u2]; exact hb1.2.1 _ a5
         have hE2 : ∀ v, v < n.length → getI (E.set (C.getD (k : Int).toNat ar0).fr.toNat (E.getD (C.getD (k : Int).toNat ar0).fr.toNat 0 + (C.getD (k : Int).toNat ar0).flow)) v = gonF (nwG n r) (floA C) (k + 1) v := fun v hv => by
          rw [getI_set (by rw [u1]; omega), gonF_succ, u1, ← hEg v hv]
          unfold upd
          by_cases q : v = (nwG n r).fr k
          · rw [if_pos q, if_pos q.symm, q, ek]; rfl
          · rw [if_neg q, if_neg (fun z => q z.symm), Int.add_zero]
         by_cases hfl : 0 < (C.getD k ar0).flow
         · have c2 := p61b D1 (C.getD (k : Int).toNat ar0).fr.toNat (D1.getD (C.getD (k : Int).toNat ar0).to.toNat 0 - (C.getD (k : Int).toNat ar0).car) (by rw [hD1l]; omega)
           have hR2 := hR1.arc hGo hGe (hI.op hn0 hr0) a8 (b := true) ⟨by show k < _ + _; omega, (fun _ _ => hfl), fun q => absurd a8 q⟩ (u := (C.getD (k : Int).toNat ar0).to.toNat) (w := (C.getD (k : Int).toNat ar0).fr.toNat) u2.symm u1.symm (x := D1.getD (C.getD (k : Int).toNat ar0).to.toNat 0 - (C.getD (k : Int).toNat ar0).car) (by rw [u3]; rfl)
           conv => whnf
           repeat' (first | (refine CallX.of c1 [(1000000, 40)] rfl ⟨lr, lr, trivial⟩ ⟨rr, trivial⟩ rfl rfl ?_; rintro x' rout ⟨rfl, rfl⟩; refine ⟨rfl, ?_⟩; conv => whnf) | (refine CallX.of c2 [(1000000, 40)] rfl ⟨lr, lr, trivial⟩ ⟨rr, trivial⟩ rfl rfl ?_; rintro x' rout ⟨rfl, rfl⟩; refine ⟨rfl, ?_⟩; conv => whnf) | (refine br_intro ?_ ?_ <;> intro hb <;> (try simp only [brs] at hb) <;> conv => whnf) | (refine RegX.rule (id := 8) hT rfl [] oVPgB22_8 (by decide +kernel) ?_; conv => whnf) | (refine RegX.rule (id := 17) hT rfl [] oVPgB22_17 (by decide +kernel) ?_; conv => whnf) | (refine RegX.rule (id := 18) hT rfl [] oVPgB22_18 (by decide +kernel) ?_; conv => whnf) | (refine RegX.rule (id := 20) hT rfl [] oVPgB22_20 (by decide +kernel) ?_; conv => whnf) | (refine RegX.rule (id := 26) hT rfl [] oVPgB22_26 (by decide +kernel) ?_; conv => whnf) | (refine RegX.rule (id := 27) hT rfl [] oVPgB22_27 (by decide +kernel) ?_; conv => whnf) | (refine RegX.rule (id := 37) hT rfl [] oVPgB22_37 (by decide +kernel) ?_; conv => whnf) | omega | (refine And.intro ?_ ?_; ((try dsimp only); first | omega | (refine szA rfl ?_; omega) | (refine szB rfl ?_; omega) | (unfold inI64; omega) | exact rfl | (simp only [lns] at *; omega) | decide | (unfold inI64; decide)); conv => whnf) | decide | assumption)
           all_goals try (exfalso; omega)
           all_goals
            refine ⟨(_, _, _, k + 1), ⟨hkC, hR2.weak (fun e he q => ?_), by rw [List.length_set]; exact hEl, hE2⟩, by show C.length - (k + 1) < C.length - k; omega, Entails.mk' [(24, 24), (10, 10), (40, 40), (44, 44)] rfl rfl ⟨lr, lr, lr, lr, lr, SV.le_bool ?_, lr, lr, lr, lr, trivial⟩ ⟨rr, rr, rr, Res.le_upd (fun _ => E.getD (C.getD (k : Int).toNat ar0).fr.toNat 0 + (C.getD (k : Int).toNat ar0).flow) (fun y => rfl), trivial⟩⟩
           all_goals first
            | (have q : e.1 < k + 1 := q
               obtain ⟨e1, e2⟩ := e
               by_cases z : e1 < k
               · exact .inl (.inl z)
               · have z2 : e1 = k := by have : e1 < k + 1 := q; omega
                 subst z2
                 cases e2
                 · exact .inl (.inr rfl)
                 · exact .inr rfl)
            | (rw [decide_eq_true (by simpa only [ek] using hb)]; rfl)
            | (rename_i z1 z2
               rw [decide_eq_false (by simpa only [ek, Int.not_lt] using hb)]
               first
                | (rw [decide_eq_true (by simpa only [ek] using z1)]; rfl)
                | (rw [decide_eq_false (by simpa only [ek, Int.not_lt] using z1)]; rfl))
         · conv => whnf
           repeat' (first | (refine CallX.of c1 [(1000000, 40)] rfl ⟨lr, lr, trivial⟩ ⟨rr, trivial⟩ rfl rfl ?_; rintro x' rout ⟨rfl, rfl⟩; refine ⟨rfl, ?_⟩; conv => whnf) | (refine br_intro ?_ ?_ <;> intro hb <;> (try simp only [brs] at hb) <;> conv => whnf) | (refine RegX.rule (id := 8) hT rfl [] oVPgB22_8 (by decide +kernel) ?_; conv => whnf) | (refine RegX.rule (id := 17) hT rfl [] oVPgB22_17 (by decide +kernel) ?_; conv => whnf) | (refine RegX.rule (id := 18) hT rfl [] oVPgB22_18 (by decide +kernel) ?_; conv => whnf) | (refine RegX.rule (id := 20) hT rfl [] oVPgB22_20 (by decide +kernel) ?_; conv => whnf) | (refine RegX.rule (id := 26) hT rfl [] oVPgB22_26 (by decide +kernel) ?_; conv => whnf) | (refine RegX.rule (id := 27) hT rfl [] oVPgB22_27 (by decide +kernel) ?_; conv => whnf) | (refine RegX.rule (id := 37) hT rfl [] oVPgB22_37 (by decide +kernel) ?_; conv => whnf) | omega | (refine And.intro ?_ ?_; ((try dsimp only); first | omega | (refine szA rfl ?_; omega) | (refine szB rfl ?_; omega) | (unfold inI64; omega) | exact rfl | (simp only [lns] at *; omega) | decide | (unfold inI64; decide)); conv => whnf) | decide | assumption)
           all_goals try (exfalso; omega)
           all_goals
            refine ⟨(_, _, _, k + 1), ⟨hkC, hR1.weak (fun e he q => ?_), by rw [List.length_set]; exact hEl, hE2⟩, by show C.length - (k + 1) < C.length - k; omega, Entails.mk' [(24, 24), (10, 10), (40, 40), (44, 44)] rfl rfl ⟨lr, lr, lr, lr, lr, SV.le_bool ?_, lr, lr, lr, lr, trivial⟩ ⟨rr, rr, rr, Res.le_upd (fun _ => E.getD (C.getD (k : Int).toNat ar0).fr.toNat 0 + (C.getD (k : Int).toNat ar0).flow) (fun y => rfl), trivial⟩⟩
           all_goals first
            | (have q : e.1 < k + 1 := q
               obtain ⟨e1, e2⟩ := e
               by_cases z : e1 < k
               · exact .inl z
               · have z2 : e1 = k := by have : e1 < k + 1 := q; omega
                 subst z2
                 cases e2
                 · exact .inr rfl
                 · exact absurd (he.2.1 a8 rfl) hfl)
            | (rename_i z1
               first
                | (rw [decide_eq_true (by simpa only [ek] using z1)]; rfl)
                | (rw [decide_eq_false (by simpa only [ek, Int.not_lt] using z1)]; rfl))
       · have hkC : k = C.length := by omega
         have hCK : C.length = (nwG n r).K := by rw [hCl]; exact List.length_map _
         have hEK : ∀ v, v < n.length → getI E v = gonG n r C v := fun v hv => by rw [hEg v hv, hkC, hCK]
         rw [hkC]
         conv => whnf
         repeat' (first | (refine br_intro ?_ ?_ <;> intro hb <;> (try simp only [brs] at hb) <;> conv => whnf) | (refine RegX.rule (id := 8) hT rfl [] oVPgB22_8 (by decide +kernel) ?_; conv => whnf) | (refine RegX.rule (id := 17) hT rfl [] oVPgB22_17 (by decide +kernel) ?_; conv => whnf) | (refine RegX.rule (id := 18) hT rfl [] oVPgB22_18 (by decide +kernel) ?_; conv => whnf) | (refine RegX.rule (id := 20) hT rfl [] oVPgB22_20 (by decide +kernel) ?_; conv => whnf) | (refine RegX.rule (id := 26) hT rfl [] oVPgB22_26 (by decide +kernel) ?_; conv => whnf) | (refine RegX.rule (id := 27) hT rfl [] oVPgB22_27 (by decide +kernel) ?_; conv => whnf) | (refine RegX.rule (id := 37) hT rfl [] oVPgB22_37 (by decide +kernel) ?_; conv => whnf) | omega | (refine And.intro ?_ ?_; ((try dsimp only); first | omega | (refine szA rfl ?_; omega) | (refine szB rfl ?_; omega) | (unfold inI64; omega) | exact rfl | (simp only [lns] at *; omega) | decide | (unfold inI64; decide)); conv => whnf) | decide | assumption)
         all_goals try (exfalso; omega)
         refine LoopX.rule hT (C := []) (ι := List Int × Int × Bool × Nat) (fun (D, s, ch, i) => i ≤ n.length ∧ RelG n r C p D0 s0 D s ch (fun e => e.1 < (nwG n r).K + i)) (fun (D, s, ch, i) => mkSt [(0, .d (neds n)), (7, .ptr 24 0), (10, .ptr 10 0), (11, .buf 40), (12, .fn 61 []), (13, .d (.bool ch)), (14, .buf 44), (102, .d (.int .i64 n.length)), (103, .d (.int .i64 i))] (prvS n C D s ++ [(44, seqB 3 1 iF 0 E)])) (fun (_, _, _, i) => n.length - i) (D, s0, ch, 0) ⟨by show 0 ≤ _; omega, hRk.weak (fun e _ q => by have q : e.1 < (nwG n r).K + 0 := q; omega)⟩ ?_ ?_
         · exact Entails.mk' [(24, 24), (10, 10), (40, 40), (44, 44)] rfl rfl ⟨lr, lr, lr, lr, lr, lr, lr, lr, lr, trivial⟩ ⟨rr, rr, rr, rr, trivial⟩
         clear hRk hEg hkC
         rintro ⟨D, s, ch, i⟩ ⟨hi, hRi⟩
         have hi : i ≤ n.length := hi
         have hRi : RelG n r C p D0 s0 D s ch (fun e => e.1 < (nwG n r).K + i) := hRi
         have e1 : (i : Int).toNat = i := Int.toNat_natCast i
         have hbi := hRi.b hI hn0 hr0
         have hDl := hbi.1
         have hhl : (havL n).length = n.length := fillA_length
         rcases Nat.lt_or_ge i n.length with hin | hin
         · have v1 := hbi.2.1 i hin
           have v2 := hEK i hin
           have v3 := (hI.gon hn0 hin).2
           have v4 := (havF_bd hn0 i).1
           rw [← getI_hav hin] at v4
           unfold getI at v2 v4
           have v5 : 0 ≤ gonF (nwG n r) (floA C) (nwG n r).K i ∧ gonF (nwG n r) (floA C) (nwG n r).K i ≤ 20 := v3
           have v2 : E.getD i 0 = gonF (nwG n r) (floA C) (nwG n r).K i := v2
           have hop := hI.op hn0 hr0
           have hKi : (i : Int).toNat < (nwG n r).N := by rw [e1]; exact hin
           have hnK : ¬ (nwG n r).K + (i : Int).toNat < (nwG n r).K := by omega
           have hsub : (nwG n r).K + (i : Int).toNat - (nwG n r).K = i := by omega
           have hsplit : ∀ e : Nat × Bool, e.1 < (nwG n r).K + (i + 1) → e.1 < (nwG n r).K + i ∨ e = ((nwG n r).K + (i : Int).toNat, false) ∨ e = ((nwG n r).K + (i : Int).toNat, true) := fun e q => by
            obtain ⟨a, b⟩ := e
            have q : a < (nwG n r).K + (i + 1) := q
            by_cases z : a < (nwG n r).K + i
            · exact .inl z
            · have : a = (nwG n r).K + (i : Int).toNat := by omega
              subst this
              cases b
              · exact .inr (.inl rfl)
              · exact .inr (.inr rfl)
           have hopn : ∀ b, opnG n r C ((nwG n r).K + (i : Int).toNat, b) → 0 < (havL n).getD i 0 ∧ (b = false → E.getD i 0 < (havL n).getD i 0) ∧ (b = true → 0 < E.getD i 0) := fun b he => by
            have := he.2.2 hnK
            rw [show ((nwG n r).K + (i : Int).toNat, b).1 - (nwG n r).K = i from hsub] at this
            rw [v2]; exact this
           have hmk : ∀ b, 0 < (havL n).getD i 0 → (b = false → E.getD i 0 < (havL n).getD i 0) → (b = true → 0 < E.getD i 0) → opnG n r C ((nwG n r).K + (i : Int).toNat, b) := fun b h1 h2 h3 => by
            refine ⟨by show _ + _ < _ + _; omega, fun q => absurd q hnK, fun _ => ?_⟩
            rw [show ((nwG n r).K + (i : Int).toNat, b).1 - (nwG n r).K = i from hsub]
            rw [v2] at h2 h3
            exact ⟨h1, h2, h3⟩
           by_cases z0 : (havL n).getD i 0 = 0
           · conv => whnf
             repeat' (first | (refine br_intro ?_ ?_ <;> intro hb <;> (try simp only [brs] at hb) <;> conv => whnf) | (refine RegX.rule (id := 8) hT rfl [] oVPgB22_8 (by decide +kernel) ?_; conv => whnf) | (refine RegX.rule (id := 17) hT rfl [] oVPgB22_17 (by decide +kernel) ?_; conv => whnf) | (refine RegX.rule (id := 18) hT rfl [] oVPgB22_18 (by decide +kernel) ?_; conv => whnf) | (refine RegX.rule (id := 20) hT rfl [] oVPgB22_20 (by decide +kernel) ?_; conv => whnf) | (refine RegX.rule (id := 26) hT rfl [] oVPgB22_26 (by decide +kernel) ?_; conv => whnf) | (refine RegX.rule (id := 27) hT rfl [] oVPgB22_27 (by decide +kernel) ?_; conv => whnf) | (refine RegX.rule (id := 37) hT rfl [] oVPgB22_37 (by decide +kernel) ?_; conv => whnf) | omega | (refine And.intro ?_ ?_; ((try dsimp only); first | omega | (refine szA rfl ?_; omega) | (refine szB rfl ?_; omega) | (unfold inI64; omega) | exact rfl | (simp only [lns] at *; omega) | decide | (unfold inI64; decide)); conv => whnf) | decide | assumption)
             all_goals try (exfalso; omega)
             refine ⟨(D, s, ch, i + 1), ⟨hin, hRi.weak (fun e he q => ?_)⟩, by show n.length - (i + 1) < n.length - i; omega, Entails.mk' [(24, 24), (10, 10), (40, 40), (44, 44)] rfl rfl ⟨lr, lr, lr, lr, lr, lr, lr, lr, lr, trivial⟩ ⟨rr, rr, rr, rr, trivial⟩⟩
             rcases hsplit e q with w | rfl | rfl
             · exact w
             · have := (hopn _ he).1; omega
             · have := (hopn _ he).1; omega
           · by_cases z1 : E.getD i 0 < (havL n).getD i 0
             · have hR1 := hRi.inn hGe hop hKi (hmk false (by omega) (fun _ => z1) (fun q => by cases q))
               obtain ⟨D1, hD1⟩ : ∃ D1, D1 = lwr D (i : Int).toNat s := ⟨_, rfl⟩
               have c1 := p61b D (i : Int).toNat s (by rw [hDl]; omega)
               rw [← hD1] at hR1 c1
               have hb1 := RelG.b hI hn0 hr0 hR1
               have hD1l := hb1.1
               by_cases z2 : 0 < E.getD i 0
               · have hR2 := hR1.out hGe hop hKi (hmk true (by omega) (fun q => by cases q) (fun _ => z2))
                 have c2 := p61a s (D1.getD (i : Int).toNat 0)
                 conv => whnf
                 repeat' (first | (refine CallX.of c1 [(1000000, 40)] rfl ⟨lr, lr, trivial⟩ ⟨rr, trivial⟩ rfl rfl ?_; rintro x' rout ⟨rfl, rfl⟩; refine ⟨rfl, ?_⟩; conv => whnf) | (refine CallX.of c2 [(1000000, 10)] rfl ⟨lr, lr, trivial⟩ ⟨rr, trivial⟩ rfl rfl ?_; rintro x' rout ⟨rfl, rfl⟩; refine ⟨rfl, ?_⟩; conv => whnf) | (refine br_intro ?_ ?_ <;> intro hb <;> (try simp only [brs] at hb) <;> conv => whnf) | (refine RegX.rule (id := 8) hT rfl [] oVPgB22_8 (by decide +kernel) ?_; conv => whnf) | (refine RegX.rule (id := 17) hT rfl [] oVPgB22_17 (by decide +kernel) ?_; conv => whnf) | (refine RegX.rule (id := 18) hT rfl [] oVPgB22_18 (by decide +kernel) ?_; conv => whnf) | (refine RegX.rule (id := 20) hT rfl [] oVPgB22_20 (by decide +kernel) ?_; conv => whnf) | (refine RegX.rule (id := 26) hT rfl [] oVPgB22_26 (by decide +kernel) ?_; conv => whnf) | (refine RegX.rule (id := 27) hT rfl [] oVPgB22_27 (by decide +kernel) ?_; conv => whnf) | (refine RegX.rule (id := 37) hT rfl [] oVPgB22_37 (by decide +kernel) ?_; conv => whnf) | omega | (refine And.intro ?_ ?_; ((try dsimp only); first | omega | (refine szA rfl ?_; omega) | (refine szB rfl ?_; omega) | (unfold inI64; omega) | exact rfl | (simp only [lns] at *; omega) | decide | (unfold inI64; decide)); conv => whnf) | decide | assumption)
                 all_goals try (exfalso; omega)
                 all_goals
                  refine ⟨(_, _, _, i + 1), ⟨hin, hR2.weak (fun e he q => ?_)⟩, by show n.length - (i + 1) < n.length - i; omega, Entails.mk' [(24, 24), (10, 10), (40, 40), (44, 44)] rfl rfl ⟨lr, lr, lr, lr, lr, SV.le_bool ?_, lr, lr, lr, trivial⟩ ⟨rr, rr, rr, rr, trivial⟩⟩
                 all_goals first
                  | (rcases hsplit e q with w | rfl | rfl
                     · exact .inl (.inl w)
                     · exact .inl (.inr rfl)
                     · exact .inr rfl)
                  | (rw [decide_eq_true (by simpa only [e1] using hb)]; rfl)
                  | (rename_i z1 z2
                     rw [decide_eq_false (by simpa only [e1, Int.not_lt] using hb)]
                     first
                      | (rw [decide_eq_true (by simpa only [e1] using z1)]; rfl)
                      | (rw [decide_eq_false (by simpa only [e1, Int.not_lt] using z1)]; rfl))
               · conv => whnf
                 repeat' (first | (refine CallX.of c1 [(1000000, 40)] rfl ⟨lr, lr, trivial⟩ ⟨rr, trivial⟩ rfl rfl ?_; rintro x' rout ⟨rfl, rfl⟩; refine ⟨rfl, ?_⟩; conv => whnf) | (refine br_intro ?_ ?_ <;> intro hb <;> (try simp only [brs] at hb) <;> conv => whnf) | (refine RegX.rule (id := 8) hT rfl [] oVPgB22_8 (by decide +kernel) ?_; conv => whnf) | (refine RegX.rule (id := 17) hT rfl [] oVPgB22_17 (by decide +kernel) ?_; conv => whnf) | (refine RegX.rule (id := 18) hT rfl [] oVPgB22_18 (by decide +kernel) ?_; conv => whnf) | (refine RegX.rule (id := 20) hT rfl [] oVPgB22_20 (by decide +kernel) ?_; conv => whnf) | (refine RegX.rule (id := 26) hT rfl [] oVPgB22_26 (by decide +kernel) ?_; conv => whnf) | (refine RegX.rule (id := 27) hT rfl [] oVPgB22_27 (by decide +kernel) ?_; conv => whnf) | (refine RegX.rule (id := 37) hT rfl [] oVPgB22_37 (by decide +kernel) ?_; conv => whnf) | omega | (refine And.intro ?_ ?_; ((try dsimp only); first | omega | (refine szA rfl ?_; omega) | (refine szB rfl ?_; omega) | (unfold inI64; omega) | exact rfl | (simp only [lns] at *; omega) | decide | (unfold inI64; decide)); conv => whnf) | decide | assumption)
                 all_goals try (exfalso; omega)
                 all_goals
                  refine ⟨(_, _, _, i + 1), ⟨hin, hR1.weak (fun e he q => ?_)⟩, by show n.length - (i + 1) < n.length - i; omega, Entails.mk' [(24, 24), (10, 10), (40, 40), (44, 44)] rfl rfl ⟨lr, lr, lr, lr, lr, SV.le_bool ?_, lr, lr, lr, trivial⟩ ⟨rr, rr, rr, rr, trivial⟩⟩
                 all_goals first
                  | (rcases hsplit e q with w | rfl | rfl
                     · exact .inl w
                     · exact .inr rfl
                     · exact absurd ((hopn _ he).2.2 rfl) z2)
                  | (rename_i z1
                     first
                      | (rw [decide_eq_true (by simpa only [e1] using z1)]; rfl)
                      | (rw [decide_eq_false (by simpa only [e1, Int.not_lt] using z1)]; rfl))
             · have z2 : 0 < E.getD i 0 := by omega
               have hR2 := hRi.out hGe hop hKi (hmk true (by omega) (fun q => by cases q) (fun _ => z2))
               have c2 := p61a s (D.getD (i : Int).toNat 0)
               conv => whnf
               repeat' (first | (refine CallX.of c2 [(1000000, 10)] rfl ⟨lr, lr, trivial⟩ ⟨rr, trivial⟩ rfl rfl ?_; rintro x' rout ⟨rfl, rfl⟩; refine ⟨rfl, ?_⟩; conv => whnf) | (refine br_intro ?_ ?_ <;> intro hb <;> (try simp only [brs] at hb) <;> conv => whnf) | (refine RegX.rule (id := 8) hT rfl [] oVPgB22_8 (by decide +kernel) ?_; conv => whnf) | (refine RegX.rule (id := 17) hT rfl [] oVPgB22_17 (by decide +kernel) ?_; conv => whnf) | (refine RegX.rule (id := 18) hT rfl [] oVPgB22_18 (by decide +kernel) ?_; conv => whnf) | (refine RegX.rule (id := 20) hT rfl [] oVPgB22_20 (by decide +kernel) ?_; conv => whnf) | (refine RegX.rule (id := 26) hT rfl [] oVPgB22_26 (by decide +kernel) ?_; conv => whnf) | (refine RegX.rule (id := 27) hT rfl [] oVPgB22_27 (by decide +kernel) ?_; conv => whnf) | (refine RegX.rule (id := 37) hT rfl [] oVPgB22_37 (by decide +kernel) ?_; conv => whnf) | omega | (refine And.intro ?_ ?_; ((try dsimp only); first | omega | (refine szA rfl ?_; omega) | (refine szB rfl ?_; omega) | (unfold inI64; omega) | exact rfl | (simp only [lns] at *; omega) | decide | (unfold inI64; decide)); conv => whnf) | decide | assumption)
               all_goals try (exfalso; omega)
               all_goals
                refine ⟨(_, _, _, i + 1), ⟨hin, hR2.weak (fun e he q => ?_)⟩, by show n.length - (i + 1) < n.length - i; omega, Entails.mk' [(24, 24), (10, 10), (40, 40), (44, 44)] rfl rfl ⟨lr, lr, lr, lr, lr, SV.le_bool ?_, lr, lr, lr, trivial⟩ ⟨rr, rr, rr, rr, trivial⟩⟩
               all_goals first
                | (rcases hsplit e q with w | rfl | rfl
                   · exact .inl w
                   · exact absurd ((hopn _ he).2.1 rfl) z1
                   · exact .inr rfl)
                | (rw [decide_eq_true (by simpa only [e1] using hb)]; rfl)
                | (rw [decide_eq_false (by simpa only [e1, Int.not_lt] using hb)]; rfl)
         · have hin : i = n.length := by omega
           have hall : ∀ e, opnG n r C e → e.1 < (nwG n r).K + i := fun e he => by rw [hin]; exact he.1
           have hlow := hRi.low hI hn0 hr0
           have hnew : RelG n r C p D s D s false (fun _ => ch = false) := ⟨hRi.len, hRi.pw, fun _ => ⟨⟨rfl, rfl⟩, fun e he hc => (hRi.no hc).2 e he (hall e he)⟩, fun q => by cases q⟩
           rw [hin]
           conv => whnf
           repeat' (first | (refine br_intro ?_ ?_ <;> intro hb <;> (try simp only [brs] at hb) <;> conv => whnf) | (refine RegX.rule (id := 8) hT rfl [] oVPgB22_8 (by decide +kernel) ?_; conv => whnf) | (refine RegX.rule (id := 17) hT rfl [] oVPgB22_17 (by decide +kernel) ?_; conv => whnf) | (refine RegX.rule (id := 18) hT rfl [] oVPgB22_18 (by decide +kernel) ?_; conv => whnf) | (refine RegX.rule (id := 20) hT rfl [] oVPgB22_20 (by decide +kernel) ?_; conv => whnf) | (refine RegX.rule (id := 26) hT rfl [] oVPgB22_26 (by decide +kernel) ?_; conv => whnf) | (refine RegX.rule (id := 27) hT rfl [] oVPgB22_27 (by decide +kernel) ?_; conv => whnf) | (refine RegX.rule (id := 37) hT rfl [] oVPgB22_37 (by decide +kernel) ?_; conv => whnf) | omega | (refine And.intro ?_ ?_; ((try dsimp only); first | omega | (refine szA rfl ?_; omega) | (refine szB rfl ?_; omega) | (unfold inI64; omega) | exact rfl | (simp only [lns] at *; omega) | decide | (unfold inI64; decide)); conv => whnf) | decide | assumption)
           all_goals try (exfalso; omega)
           refine ⟨(D, s, ch), hnew, ?_, Entails.mk' [(24, 24), (10, 10), (40, 40)] rfl rfl ⟨lr, lr, lr, lr, lr, lr, trivial⟩ ⟨rr, rr, rr, trivial⟩⟩
           show 2 * (su (dst (nwG n r).N D s) ((nwG n r).N + 1) + 200000000).toNat + (if ch = true then 1 else 0) < 2 * (su (dst (nwG n r).N D0 s0) ((nwG n r).N + 1) + 200000000).toNat + (if true = true then 1 else 0)
           cases hc : ch with
           | false => obtain ⟨⟨q1, q2⟩, _⟩ := hRi.no hc; rw [q1, q2]; simp
           | true => have := hRi.yes hc; simp; omega
   · refine .weak _ ?_
     conv => whnf
     exact ⟨.tup [.d (pris []), .d (.int .i64 12)], _, SV.le_tup ⟨SV.le_nilS, lr, trivial⟩, ⟨⟨[], 12, rfl, .inr ⟨⟨hn0, hr0⟩, .inl ⟨fun g hg => hno g ((Nw.Bip.fl (nwG_bip n r) (fun v hv hk => by rw [getI_hav hv]; have := kindB_get.1 hk; unfold havF; omega) (fun v hv hk => by rw [getI_wnt hv]; have := kindB_get.2 hk; unfold wntF; omega) g).2 hg), rfl, rfl⟩⟩⟩, rfl⟩, trivial⟩
 · repeat' (first | (refine CallX.exact (s113') rfl rfl ?_; rotate_right; conv => whnf) | (refine br_intro ?_ ?_ <;> intro hb <;> (try simp only [brs] at hb) <;> conv => whnf) | (refine RegX.rule (id := 8) hT rfl [] oVPgB22_8 (by decide +kernel) ?_; conv => whnf) | (refine RegX.rule (id := 17) hT rfl [] oVPgB22_17 (by decide +kernel) ?_; conv => whnf) | (refine RegX.rule (id := 18) hT rfl [] oVPgB22_18 (by decide +kernel) ?_; conv => whnf) | (refine RegX.rule (id := 20) hT rfl [] oVPgB22_20 (by decide +kernel) ?_; conv => whnf) | (refine RegX.rule (id := 26) hT rfl [] oVPgB22_26 (by decide +kernel) ?_; conv => whnf) | (refine RegX.rule (id := 27) hT rfl [] oVPgB22_27 (by decide +kernel) ?_; conv => whnf) | (refine RegX.rule (id := 37) hT rfl [] oVPgB22_37 (by decide +kernel) ?_; conv => whnf) | omega | (refine And.intro ?_ ?_; ((try dsimp only); first | omega | (refine szA rfl ?_; omega) | (refine szB rfl ?_; omega) | (unfold inI64; omega) | exact rfl | (simp only [lns] at *; omega) | decide | (unfold inI64; decide)); conv => whnf) | decide | assumption)
   all_goals try (exfalso; omega)
   refine .weak _ ?_
   conv => whnf
   exact ⟨.tup [.d (pris []), .d (.int .i64 E0)], _, SV.le_tup ⟨SV.le_nilS, lr, trivial⟩, ⟨⟨[], E0, rfl, .inl ⟨h0, hE0.symm, rfl⟩⟩, rfl⟩, trivial⟩
abbrev priS (n : List Ned) (l : List Pri) : Prop := n.length = l.length ∧ ∀ i, i < l.length → (n.getD i nd0).st = (l.getD i pr00).st
abbrev priB (l : List Pri) : Prop := ∀ i, i < l.length → -10000000 ≤ (l.getD i pr00).cents ∧ (l.getD i pr00).cents ≤ 10000000
def priE (n : List Ned) (l : List Pri) : Int := if ¬ priS n l then 3 else if ¬ priB l then 1 else 0
theorem priE_zero {n : List Ned} {l : List Pri} (h : priE n l = 0) : priS n l ∧ priB l := by
 unfold priE at h
 split at h
 · cases h
 · rename_i q
   split at h
   · cases h
   · rename_i q2
     exact ⟨Classical.not_not.1 q, Classical.not_not.1 q2⟩
def pc (l : List Pri) (v : Nat) : Int := (l.getD v pr00).cents
def buF (n : List Ned) (l : List Pri) (v : Nat) : Int := wntF n v * pc l v - havF n v * max 0 (pc l v)
def buX (n : List Ned) (l : List Pri) (x : Ar3) : Int := max 0 (pc l x.to - pc l x.fr - x.car) * min (havF n x.fr) (wntF n x.to)
def bouN (n : List Ned) (r : List Roa) (l : List Pri) : Int := su (buF n l) n.length - su (fun j => buX n l ((arL n r).getD j a30)) (arL n r).length
def lsm {α : Type} (g : α → Int) (l : List α) : Int := (l.map g).sum
theorem lsm_app {α : Type} (g : α → Int) (a b : List α) : lsm g (a ++ b) = lsm g a + lsm g b := by unfold lsm; rw [List.map_append, List.sum_append]
theorem lsm_su {α : Type} (g : α → Int) (d : α) : ∀ l : List α, su (fun j => g (l.getD j d)) l.length = lsm g l := by
 have key : ∀ (l : List α) (k : Nat), k ≤ l.length → su (fun j => g (l.getD j d)) k = lsm g (l.take k) := by
  intro l k
  induction k with
  | zero => intro _; rfl
  | succ k ih =>
    intro hk
    rw [su, ih (by omega), take_getD (d := d) (by omega), lsm_app]
    congr 1
    unfold lsm; simp
 intro l
 rw [key l l.length (Nat.le_refl _), List.take_length]
theorem mul_bd {x y a b : Int} (h1 : 0 ≤ x ∧ x ≤ a) (h2 : -b ≤ y ∧ y ≤ b) : -(a * b) ≤ x * y ∧ x * y ≤ a * b := by
 have hb : 0 ≤ b := by omega
 have e1 : x * b ≤ a * b := Int.mul_le_mul_of_nonneg_right h1.2 hb
 have e2 : x * y ≤ x * b := Int.mul_le_mul_of_nonneg_left h2.2 h1.1
 have e3 : x * (-b) ≤ x * y := Int.mul_le_mul_of_nonneg_left h2.1 h1.1
 rw [Int.mul_neg] at e3
 omega
theorem mul_nb {x y a b : Int} (h1 : 0 ≤ x ∧ x ≤ a) (h2 : 0 ≤ y ∧ y ≤ b) : 0 ≤ x * y ∧ x * y ≤ a * b :=
 ⟨Int.mul_nonneg h1.1 h2.1, Int.mul_le_mul h1.2 h2.2 h2.1 (by omega)⟩
theorem pc_bd {l : List Pri} (h : priB l) (v : Nat) : -10000000 ≤ pc l v ∧ pc l v ≤ 10000000 := by
 rcases Nat.lt_or_ge v l.length with q | q
 · exact h v q
 · unfold pc; rw [List.getD_eq_getElem?_getD, List.getElem?_eq_none q]; decide
theorem buF_bd {n : List Ned} {l : List Pri} (hn : ndsE n = 0) (hl : priB l) (v : Nat) : -400000000 ≤ buF n l v ∧ buF n l v ≤ 400000000 := by
 have h1 := havF_bd hn v
 have h2 := pc_bd hl v
 have h3 := mul_bd h1.2 (b := 10000000) ⟨h2.1, h2.2⟩
 have h4 := mul_nb h1.1 (y := max 0 (pc l v)) (b := 10000000) ⟨by omega, by omega⟩
 unfold buF; omega
theorem buX_bd {n : List Ned} {l : List Pri} (hn : ndsE n = 0) (hl : priB l) {x : Ar3} (hx : 0 ≤ x.car) : 0 ≤ buX n l x ∧ buX n l x ≤ 400000000 := by
 have h1 := havF_bd hn x.fr
 have h2 := havF_bd hn x.to
 have h3 := pc_bd hl x.fr
 have h4 := pc_bd hl x.to
 have := mul_nb (x := max 0 (pc l x.to - pc l x.fr - x.car)) (a := 20000000) (y := min (havF n x.fr) (wntF n x.to)) (b := 20) ⟨by omega, by omega⟩ ⟨by omega, by omega⟩
 unfold buX; omega
theorem wayO_bd {n : List Ned} {r : List Roa} (hr : rdsE r = 0) {i k : Nat} {c : Int} (h : wayO n r i k = some c) : 0 ≤ c ∧ c ≤ 1000000 := by
 unfold wayO at h
 rw [Option.map_eq_some_iff] at h
 obtain ⟨x, hx, e⟩ := h
 have := (roadO_bd hr hx).1
 omega
theorem su_sb {F : Nat → Int} {b : Int} (hb : 0 ≤ b) : ∀ {n : Nat}, (∀ v, v < n → -b ≤ F v ∧ F v ≤ b) → -(b * n) ≤ su F n ∧ su F n ≤ b * n
 | 0, _ => by simp [su]
 | n + 1, h => by
   have := su_sb hb (n := n) (fun v hv => h v (by omega))
   have h2 := h n (by omega)
   have h3 : b * ((n + 1 : Nat) : Int) = b * n + b := by rw [Int.natCast_add, Int.mul_add]; simp
   rw [su]; omega
theorem bouN_prc {n : List Ned} {r : List Roa} (hn : ndsE n = 0) (hr : rdsE r = 0) {f left y : Nat → Int} (hs : (nwG n r).St (getI (havL n)) (getI (wntL n)) f left (fun _ => 0)) (hp : (nwG n r).Prc (getI (havL n)) f (gonF (nwG n r) f (nwG n r).K) y) :
 bouN n r (priL n y n.length) = (nwG n r).cost f := by
 have hB := nwG_bip n r
 have hG := (nwG_ok (n := n) hr).1
 have hpc : ∀ v, v < n.length → pc (priL n y n.length) v = if (n.getD v nd0).many ≠ 0 then y v else 0 := fun v hv => by
  unfold pc priL
  rw [List.getD_eq_getElem?_getD, List.getElem?_map, List.getElem?_range hv]; rfl
 have hz : su (fun j => buX n (priL n y n.length) ((arL n r).getD j a30)) (arL n r).length = 0 := su_zero fun j hj => by
  have hm := arL_mem (nwG_at (n := n) (r := r) (k := j) hj)
  have h1 : pc (priL n y n.length) ((arL n r).getD j a30).fr = y ((arL n r).getD j a30).fr := by
   rw [hpc _ hm.1.1, if_pos]; have := hm.1.2; unfold manyP at this; omega
  have h2 : pc (priL n y n.length) ((arL n r).getD j a30).to = y ((arL n r).getD j a30).to := by
   rw [hpc _ hm.2.1.1, if_pos]; have := hm.2.1.2; unfold manyP at this; omega
  have h3 : y ((arL n r).getD j a30).to ≤ y ((arL n r).getD j a30).fr + ((arL n r).getD j a30).car := hp.ar j hj
  unfold buX
  rw [h1, h2]
  have : max 0 (y ((arL n r).getD j a30).to - y ((arL n r).getD j a30).fr - ((arL n r).getD j a30).car) = 0 := by omega
  rw [this, Int.zero_mul]
 unfold bouN
 rw [hz, Int.sub_zero]
 rw [← Nw.prc_cost hG hs hp (fun v hv => ?_) (fun v hv h0 => ?_)]
 · refine su_congr fun v hv => ?_
   unfold buF
   have hv : v < n.length := hv
   rw [hpc v hv, getI_hav hv, getI_wnt hv]
   by_cases q : (n.getD v nd0).many = 0
   · have e1 : havF n v = 0 := by unfold havF manyP; omega
     have e2 : wntF n v = 0 := by unfold wntF manyP; omega
     rw [e1, e2, Int.zero_mul, Int.zero_mul, Int.zero_mul, Int.zero_mul]
   · rw [if_pos q]
 · have hv : v < n.length := hv
   rw [getI_hav hv, getI_wnt hv]
   unfold havF wntF; omega
 · have hv : v < n.length := hv
   refine gonF_all hB hs (fun v hv hk => by rw [getI_wnt hv]; have := kindB_get.2 hk; unfold wntF; omega) hv ?_
   rw [getI_hav hv] at h0
   cases hk : kindB n v with
   | true => rfl
   | false => have := kindB_get.1 hk; unfold havF at h0; omega
theorem priE_no {n : List Ned} {l : List Pri} (h : ¬ priS n l) : priE n l = 3 := if_pos h
theorem priE_one {n : List Ned} {l : List Pri} (h : priS n l) (h2 : ¬ priB l) : priE n l = 1 := by unfold priE; rw [if_neg (fun q => q h), if_pos h2]
theorem priE_ok {n : List Ned} {l : List Pri} (h : priS n l) (h2 : priB l) : priE n l = 0 := by unfold priE; rw [if_neg (fun q => q h), if_neg (fun q => q h2)]
def mvP (l : List Mov) : Prop := l.length ≤ 2500 ∧ ∀ m ∈ l, 0 ≤ m.many ∧ m.many ≤ 1000000
def mcst (r : List Roa) (m : Mov) : Int := m.many * ((roadO r m.a m.b).getD rd0).car
theorem costN_su (r : List Roa) (l : List Mov) : ∀ k, costN r l k = su (fun i => mcst r (l.getD i mv0)) k
 | 0 => rfl
 | k + 1 => by rw [costN, costN_su r l k]; rfl
theorem costN_lsm (r : List Roa) (l : List Mov) : costN r l l.length = lsm (mcst r) l := by rw [costN_su, lsm_su]
theorem costN_b2 {r : List Roa} {l : List Mov} (hr : rdsE r = 0) (h : mvP l) : ∀ k, k ≤ l.length → 0 ≤ costN r l k ∧ costN r l k ≤ 1000000000000 * k := by
 intro k
 induction k with
 | zero => intro _; simp [costN]
 | succ k ih =>
   intro hk
   have h1 := ih (by omega)
   have h2 := h.2 _ (getD_mem (l := l) (x := mv0) (i := k) (by omega))
   have h3 := roadC_bd hr (l.getD k mv0).a (l.getD k mv0).b
   have h4 := mul_nb h2 h3
   rw [costN]
   omega
theorem lsm_lsV {n : List Ned} {r : List Roa} : ∀ (m a : Nat) (x : Nat → Int), a + m ≤ (nwG n r).K → (∀ k, k < m → 0 ≤ x k) → lsm (mcst r) (lsV (mvN n r) m a x) = su (fun k => x k * (nwG n r).c (a + k)) m
 | 0, _, _, _, _ => rfl
 | m + 1, a, x, ha, hx => by
   have ih := lsm_lsV (n := n) (r := r) m (a + 1) (vtl x) (by omega) (fun k hk => hx (k + 1) (by omega))
   have hm := (arL_mem (nwG_at (n := n) (r := r) (k := a) (by omega))).2.2
   have hc : ((roadO r (n.getD ((arL n r).getD a a30).fr nd0).st (n.getD ((arL n r).getD a a30).to nd0).st).getD rd0).car = (nwG n r).c a := by
    unfold wayO at hm
    rw [Option.map_eq_some_iff] at hm
    obtain ⟨y, hy, e⟩ := hm
    rw [hy]; exact e
   rw [lsV, lsm_app, ih, su_cons]
   have e2 : su (fun k => vtl x k * (nwG n r).c (a + 1 + k)) m = su (fun k => x (k + 1) * (nwG n r).c (a + (k + 1))) m := su_congr fun k _ => by
    show x (k + 1) * _ = _
    rw [show a + 1 + k = a + (k + 1) by omega]
   rw [e2]
   congr 1
   have h0 := hx 0 (by omega)
   by_cases q : 0 < x 0
   · rw [if_pos q]
     show (List.map (mcst r) [mvN n r a (x 0)]).sum = _
     simp only [List.map_cons, List.map_nil, List.sum_cons, List.sum_nil, Int.add_zero]
     show x 0 * _ = x 0 * (nwG n r).c (a + 0)
     rw [Nat.add_zero, ← hc]; rfl
   · rw [if_neg q]
     have : x 0 = 0 := by omega
     rw [this, Int.zero_mul]; rfl
theorem best_cost {n : List Ned} {r : List Roa} {c : Int} {x : Nat → Int} {h w : Nat → Int} (hb : (nwG n r).Best (kindB n) h w c x) : costN r (lsV (mvN n r) (nwG n r).K 0 x) (lsV (mvN n r) (nwG n r).K 0 x).length = c := by
 rw [costN_lsm, lsm_lsV _ _ _ (by omega) hb.fl.g0, ← hb.cost]
 exact su_congr fun k _ => by rw [Nat.zero_add]
def oVPiA63_6 : List (Nat × List Nat) := [(0, []), (1, [0]), (2, [0]), (3, [0]), (4, [0]), (5, [0, 1, 2, 3, 4]), (6, [0]), (7, [0]), (8, [0, 1, 2, 3, 4, 5, 6, 7]), (9, [0, 1, 2, 3, 4, 5, 6, 7]), (10, [0]), (11, [0, 1, 2, 3, 4, 5, 6, 7, 8, 9, 10]), (12, [0, 1, 2, 3, 4, 5, 6, 7, 8, 9, 10]), (13, [0, 1, 2, 3, 4, 5, 6, 7, 8, 9, 10]), (14, [0, 1, 2, 3, 4, 5, 6, 7, 8, 9, 10]), (15, [0, 1, 2, 3, 4, 5, 6, 7, 8, 9, 10, 11, 12, 13, 14]), (16, [0, 1, 2, 3, 4, 5, 6, 7, 8, 9, 10]), (17, [0, 1, 2, 3, 4, 5, 6, 7, 8, 9, 10]), (18, [0, 1, 2, 3, 4, 5, 6, 7, 8, 9, 10, 11, 12, 13, 14, 15, 16, 17]), (19, [0, 1, 2, 3, 4, 5, 6, 7, 8, 9, 10, 11, 12, 13, 14, 15, 16, 17]), (20, [0, 1, 2, 3, 4, 5, 6, 7, 8, 9, 10, 11, 12, 13, 14, 15, 16, 17]), (21, [0, 1, 2, 3, 4, 5, 6, 7, 8, 9, 10]), (22, [0]), (23, []), (24, [])]
def oVPiA63_11 : List (Nat × List Nat) := [(0, []), (1, [0]), (2, [0, 1]), (3, [0, 1]), (4, [0]), (5, [0]), (6, [0]), (7, [0, 1, 2, 3, 4, 5, 6]), (8, [0, 1, 2, 3, 4, 5, 6, 7]), (9, [0, 1, 2, 3, 4, 5, 6, 7]), (10, [0, 1, 2, 3, 4, 5, 6]), (11, [0, 1, 2, 3, 4, 5, 6]), (12, [0, 1, 2, 3, 4, 5, 6]), (13, [0]), (14, [0, 1, 2, 3, 4, 5, 6, 7, 8, 9, 10, 11, 12, 13]), (15, [0, 1, 2, 3, 4, 5, 6, 7, 8, 9, 10, 11, 12, 13]), (16, [0]), (17, [0]), (18, [0, 1, 2, 3, 4, 5, 6, 7, 8, 9, 10, 11, 12, 13, 14, 15, 16, 17]), (19, [0, 1, 2, 3, 4, 5, 6, 7, 8, 9, 10, 11, 12, 13, 14, 15, 16, 17]), (20, [0, 1, 2, 3, 4, 5, 6, 7, 8, 9, 10, 11, 12, 13, 14, 15, 16, 17]), (21, [0, 1, 2, 3, 4, 5, 6, 7, 8, 9, 10, 11, 12, 13, 14, 15, 16, 17]), (22, [0, 1, 2, 3, 4, 5, 6, 7, 8, 9, 10, 11, 12, 13, 14, 15, 16, 17, 18, 19, 20, 21]), (23, [0, 1, 2, 3, 4, 5, 6, 7, 8, 9, 10, 11, 12, 13, 14, 15, 16, 17, 18, 19, 20, 21]), (24, [0, 1, 2, 3, 4, 5, 6, 7, 8, 9, 10, 11, 12, 13, 14, 15, 16, 17]), (25, [0, 1, 2, 3, 4, 5, 6, 7, 8, 9, 10, 11, 12, 13, 14, 15, 16, 17]), (26, [0, 1, 2, 3, 4, 5, 6, 7, 8, 9, 10, 11, 12, 13, 14, 15, 16, 17, 18, 19, 20, 21, 22, 23, 24, 25]), (27, [0, 1, 2, 3, 4, 5, 6, 7, 8, 9, 10, 11, 12, 13, 14, 15, 16, 17, 18, 19, 20, 21, 22, 23, 24, 25]), (28, [0, 1, 2, 3, 4, 5, 6, 7, 8, 9, 10, 11, 12, 13, 14, 15, 16, 17, 18, 19, 20, 21, 22, 23, 24, 25]), (29, [0, 1, 2, 3, 4, 5, 6, 7, 8, 9, 10, 11, 12, 13, 14, 15, 16, 17, 18, 19, 20, 21, 22, 23, 24, 25]), (30, [0, 1, 2, 3, 4, 5, 6, 7, 8, 9, 10, 11, 12, 13, 14, 15, 16, 17, 18, 19, 20, 21, 22, 23, 24, 25, 26, 27, 28, 29]), (31, [0, 1, 2, 3, 4, 5, 6, 7, 8, 9, 10, 11, 12, 13, 14, 15, 16, 17, 18, 19, 20, 21, 22, 23, 24, 25, 26, 27, 28, 29]), (32, [0, 1, 2, 3, 4, 5, 6, 7, 8, 9, 10, 11, 12, 13, 14, 15, 16, 17, 18, 19, 20, 21, 22, 23, 24, 25]), (33, [0, 1, 2, 3, 4, 5, 6, 7, 8, 9, 10, 11, 12, 13, 14, 15, 16, 17, 18, 19, 20, 21, 22, 23, 24, 25]), (34, [0, 1, 2, 3, 4, 5, 6, 7, 8, 9, 10, 11, 12, 13, 14, 15, 16, 17]), (35, [0]), (36, []), (37, [])]
theorem p83 (x : Ned) (y : Pri) : FSpec Tryz.prog 83 [.agg ((ndF x).map .d), .agg ((puF y).map .d)] [] (fun v r => v = .d (.bool (x.st == y.st)) ∧ r = []) := by
 refine spec_of hT (C := []) Tryz.func83 rfl Tryz.call83 rfl rfl rfl ?_
 conv => whnf
 repeat' (first | (refine br_intro ?_ ?_ <;> intro hb <;> (try simp only [brs] at hb) <;> conv => whnf) | omega | (refine And.intro ?_ ?_; ((try dsimp only); first | omega | (refine szA rfl ?_; omega) | (refine szB rfl ?_; omega) | (unfold inI64; omega) | exact rfl | (simp only [lns] at *; omega) | decide | (unfold inI64; decide)); conv => whnf) | decide | assumption)
 all_goals
  refine .ret _ ?_
  conv => whnf
  refine ⟨[], ⟨?_, rfl⟩, trivial⟩
  conv => lhs; whnf
  try first | rfl | (simp; done) | (simp [hb]; done)
set_option maxHeartbeats 4000000 in
theorem p82 (n : List Ned) (l : List Pri) (hn : n.length ≤ 2^40) (hl : l.length ≤ 2^40) : FSpec Tryz.prog 82 [.d (neds n), .d (pris l), .fn 83 []] [] (fun y r => y = .d (.bool (decide (priS n l))) ∧ r = []) := by
 refine spec_of hT (C := []) Tryz.func82 rfl Tryz.call82 rfl rfl rfl ?_
 conv => whnf
 repeat' (first | (refine br_intro ?_ ?_ <;> intro hb <;> (try simp only [brs] at hb) <;> conv => whnf) | omega | (refine And.intro ?_ ?_; ((try dsimp only); first | omega | (refine szA rfl ?_; omega) | (refine szB rfl ?_; omega) | (unfold inI64; omega) | exact rfl | (simp only [lns] at *; omega) | decide | (unfold inI64; decide)); conv => whnf) | decide | assumption)
 · refine .ret _ ?_
   conv => whnf
   refine ⟨[], ⟨?_, rfl⟩, trivial⟩
   conv => lhs; whnf
   rw [decide_eq_false (fun q => by have := q.1; omega)]
 refine LoopX.rule hT (C := []) (ι := Nat) (fun i => i ≤ l.length ∧ ∀ j, j < i → (n.getD j nd0).st = (l.getD j pr00).st) (fun i => mkSt [(1, .d (pris l)), (2, .fn 83 []), (15, .d (neds n)), (16, .d (.int .i64 n.length)), (17, .d (.int .i64 i))] []) (fun i => l.length - i) 0 ⟨Nat.zero_le _, fun j hj => absurd hj (Nat.not_lt_zero _)⟩ ?_ ?_
 · exact Entails.mk' [] rfl rfl ⟨lr, lr, lr, lr, lr, trivial⟩ trivial
 rintro i ⟨hi, ha⟩
 have hi : i ≤ l.length := hi
 have ha : ∀ j, j < i → (n.getD j nd0).st = (l.getD j pr00).st := ha
 have e1 : (i : Int).toNat = i := Int.toNat_natCast i
 rcases Nat.lt_or_ge i l.length with hil | hil
 · have h83 := p83 (n.getD (i : Int).toNat nd0) (l.getD (i : Int).toNat pr00)
   by_cases hq : (n.getD i nd0).st = (l.getD i pr00).st
   · have hbq : ((n.getD (i : Int).toNat nd0).st == (l.getD (i : Int).toNat pr00).st) = true := by rw [e1]; simpa using hq
     rw [hbq] at h83
     conv => whnf
     repeat' (first | (refine CallX.exact (h83) rfl rfl ?_; rotate_right; conv => whnf) | (refine br_intro ?_ ?_ <;> intro hb <;> (try simp only [brs] at hb) <;> conv => whnf) | omega | (refine And.intro ?_ ?_; ((try dsimp only); first | omega | (refine szA rfl ?_; omega) | (refine szB rfl ?_; omega) | (unfold inI64; omega) | exact rfl | (simp only [lns] at *; omega) | decide | (unfold inI64; decide)); conv => whnf) | decide | assumption)
     all_goals try (exfalso; omega)
     exact ⟨i + 1, ⟨hil, fun j hj => by
      by_cases q : j = i
      · rw [q]; exact hq
      · exact ha j (by omega)⟩, by omega, Entails.mk' [] rfl rfl ⟨lr, lr, lr, lr, lr, trivial⟩ trivial⟩
   · have hbq : ((n.getD (i : Int).toNat nd0).st == (l.getD (i : Int).toNat pr00).st) = false := by rw [e1]; simpa using hq
     rw [hbq] at h83
     conv => whnf
     repeat' (first | (refine CallX.exact (h83) rfl rfl ?_; rotate_right; conv => whnf) | (refine br_intro ?_ ?_ <;> intro hb <;> (try simp only [brs] at hb) <;> conv => whnf) | omega | (refine And.intro ?_ ?_; ((try dsimp only); first | omega | (refine szA rfl ?_; omega) | (refine szB rfl ?_; omega) | (unfold inI64; omega) | exact rfl | (simp only [lns] at *; omega) | decide | (unfold inI64; decide)); conv => whnf) | decide | assumption)
     all_goals try (exfalso; omega)
     refine .ret _ ?_
     conv => whnf
     refine ⟨[], ⟨?_, rfl⟩, trivial⟩
     conv => lhs; whnf
     rw [decide_eq_false (fun q => hq (q.2 i hil))]
 · have hil : i = l.length := by omega
   subst hil
   conv => whnf
   repeat' (first | (refine br_intro ?_ ?_ <;> intro hb <;> (try simp only [brs] at hb) <;> conv => whnf) | omega | (refine And.intro ?_ ?_; ((try dsimp only); first | omega | (refine szA rfl ?_; omega) | (refine szB rfl ?_; omega) | (unfold inI64; omega) | exact rfl | (simp only [lns] at *; omega) | decide | (unfold inI64; decide)); conv => whnf) | decide | assumption)
   all_goals try (exfalso; omega)
   refine .ret _ ?_
   conv => whnf
   refine ⟨[], ⟨?_, rfl⟩, trivial⟩
   conv => lhs; whnf
   rw [decide_eq_true (show priS n l from ⟨by omega, ha⟩)]
set_option maxHeartbeats 4000000 in
theorem p62 (n : List Ned) (l : List Pri) (hn : n.length ≤ 2^40) (hl : l.length ≤ 2^40) : FSpec Tryz.prog 62 [.d (neds n), .d (pris l)] [] (fun y r => y = .d (.int .i64 (priE n l)) ∧ r = []) := by
 have h82 := p82 n l hn hl
 by_cases hS : priS n l
 · rw [decide_eq_true hS] at h82
   refine spec_of hT (C := []) Tryz.func62 rfl Tryz.call62 rfl rfl rfl ?_
   conv => whnf
   repeat' (first | (refine CallX.exact (h82) rfl rfl ?_; rotate_right; conv => whnf) | (refine br_intro ?_ ?_ <;> intro hb <;> (try simp only [brs] at hb) <;> conv => whnf) | omega | (refine And.intro ?_ ?_; ((try dsimp only); first | omega | (refine szA rfl ?_; omega) | (refine szB rfl ?_; omega) | (unfold inI64; omega) | exact rfl | (simp only [lns] at *; omega) | decide | (unfold inI64; decide)); conv => whnf) | decide | assumption)
   all_goals try (exfalso; omega)
   refine LoopX.rule hT (C := []) (ι := Nat) (fun i => i ≤ l.length ∧ ∀ j, j < i → -10000000 ≤ (l.getD j pr00).cents ∧ (l.getD j pr00).cents ≤ 10000000) (fun i => mkSt [(11, .d (pris l)), (12, .d (.int .i64 l.length)), (13, .d (.int .i64 i))] []) (fun i => l.length - i) 0 ⟨Nat.zero_le _, fun j hj => absurd hj (Nat.not_lt_zero _)⟩ ?_ ?_
   · exact Entails.mk' [] rfl rfl ⟨lr, lr, lr, trivial⟩ trivial
   rintro i ⟨hi, ha⟩
   have hi : i ≤ l.length := hi
   have ha : ∀ j, j < i → -10000000 ≤ (l.getD j pr00).cents ∧ (l.getD j pr00).cents ≤ 10000000 := ha
   rcases Nat.lt_or_ge i l.length with hil | hil
   · conv => whnf
     repeat' (first | (refine CallX.exact (s119 _ _ _) rfl rfl ?_; rotate_right; conv => whnf) | (refine br_intro ?_ ?_ <;> intro hb <;> (try simp only [brs] at hb) <;> conv => whnf) | omega | (refine And.intro ?_ ?_; ((try dsimp only); first | omega | (refine szA rfl ?_; omega) | (refine szB rfl ?_; omega) | (unfold inI64; omega) | exact rfl | (simp only [lns] at *; omega) | decide | (unfold inI64; decide)); conv => whnf) | decide | assumption)
     all_goals try (exfalso; omega)
     all_goals first
      | (refine .ret _ ?_
         conv => whnf
         refine ⟨[], ⟨?_, rfl⟩, trivial⟩
         conv => lhs; whnf
         rw [priE_one hS (fun q => by have := q i hil; omega)]
         done)
      | exact ⟨i + 1, ⟨hil, fun j hj => by
         by_cases q : j = i
         · rw [q]; omega
         · exact ha j (by omega)⟩, by omega, Entails.mk' [] rfl rfl ⟨lr, lr, lr, trivial⟩ trivial⟩
   · have hil : i = l.length := by omega
     subst hil
     conv => whnf
     repeat' (first | (refine br_intro ?_ ?_ <;> intro hb <;> (try simp only [brs] at hb) <;> conv => whnf) | omega | (refine And.intro ?_ ?_; ((try dsimp only); first | omega | (refine szA rfl ?_; omega) | (refine szB rfl ?_; omega) | (unfold inI64; omega) | exact rfl | (simp only [lns] at *; omega) | decide | (unfold inI64; decide)); conv => whnf) | decide | assumption)
     all_goals try (exfalso; omega)
     refine .ret _ ?_
     conv => whnf
     refine ⟨[], ⟨?_, rfl⟩, trivial⟩
     conv => lhs; whnf
     rw [priE_ok hS ha]
 · rw [decide_eq_false hS] at h82
   refine spec_of hT (C := []) Tryz.func62 rfl Tryz.call62 rfl rfl rfl ?_
   conv => whnf
   repeat' (first | (refine CallX.exact (h82) rfl rfl ?_; rotate_right; conv => whnf) | (refine br_intro ?_ ?_ <;> intro hb <;> (try simp only [brs] at hb) <;> conv => whnf) | omega | (refine And.intro ?_ ?_; ((try dsimp only); first | omega | (refine szA rfl ?_; omega) | (refine szB rfl ?_; omega) | (unfold inI64; omega) | exact rfl | (simp only [lns] at *; omega) | decide | (unfold inI64; decide)); conv => whnf) | decide | assumption)
   all_goals try (exfalso; omega)
   refine .ret _ ?_
   conv => whnf
   refine ⟨[], ⟨?_, rfl⟩, trivial⟩
   conv => lhs; whnf
   rw [priE_no hS]
set_option maxHeartbeats 8000000 in
theorem p63 (n : List Ned) (r : List Roa) (l : List Pri) (hn : ndsE n = 0) (hr : rdsE r = 0) (hp : priE n l = 0) : FSpec Tryz.prog 63 [.d (neds n), .d (roas r), .d (pris l)] [] (fun y q => y = .d (.int .i64 (bouN n r l)) ∧ q = []) := by
 obtain ⟨hS, hB⟩ := priE_zero hp
 have hll := hS.1
 have hnl := (nds_all hn).1
 have hal := arL_len hn r
 have hll2 : (arcs n r).length = (arL n r).length := List.length_map _
 have hhl : (havL n).length = n.length := fillA_length
 have hwl : (wntL n).length = n.length := fillA_length
 have hFs : ∀ i, i ≤ n.length → -4000000000 ≤ su (buF n l) i ∧ su (buF n l) i ≤ 4000000000 := fun i hi => by
  have := su_sb (F := buF n l) (b := 400000000) (by omega) (n := i) (fun v _ => buF_bd hn hB v)
  omega
 obtain ⟨X, hX⟩ : ∃ X : Nat → Int, X = fun j => buX n l ((arL n r).getD j a30) := ⟨_, rfl⟩
 have hbou : bouN n r l = su (buF n l) n.length - su X (arL n r).length := by rw [hX]; rfl
 have hXb : ∀ j, j < (arL n r).length → 0 ≤ X j ∧ X j ≤ 400000000 := fun j hj => by
  rw [hX]
  exact buX_bd hn hB (wayO_bd hr (arL_mem (nwG_at (n := n) (r := r) (k := j) hj)).2.2).1
 have hXs : ∀ k, k ≤ (arL n r).length → 0 ≤ su X k ∧ su X k ≤ 40000000000 := fun k hk => by
  have := su_bd (F := X) (b := 400000000) (n := k) (fun v hv => hXb v (by omega))
  omega
 rw [hbou]
 refine spec_of hT (C := []) Tryz.func63 rfl Tryz.call63 rfl rfl rfl ?_
 conv => whnf
 repeat' (first | (refine CallX.of (p59 n r hn hr) [(20, 20), (15, 1001), (18, 1002), (500, 1003)] rfl ⟨lr, lr, trivial⟩ trivial rfl rfl ?_; rintro x rout ⟨rfl, rfl⟩; refine ⟨rfl, ?_⟩; conv => whnf) | (refine br_intro ?_ ?_ <;> intro hb <;> (try simp only [brs] at hb) <;> conv => whnf) | (refine RegX.rule (id := 6) hT rfl [] oVPiA63_6 (by decide +kernel) ?_; conv => whnf) | (refine RegX.rule (id := 11) hT rfl [] oVPiA63_11 (by decide +kernel) ?_; conv => whnf) | omega | (refine And.intro ?_ ?_; ((try dsimp only); first | omega | (refine szA rfl ?_; omega) | (refine szB rfl ?_; omega) | (unfold inI64; omega) | exact rfl | (simp only [lns] at *; omega) | decide | (unfold inI64; decide)); conv => whnf) | decide | assumption)
 refine LoopX.freeze 1003 108 4 _ _ rfl ?_
 refine LoopX.rule hT (C := []) (ι := Nat) (fun i => i ≤ n.length) (fun i => mkSt [(2, .d (pris l)), (7, .ptr 20 0), (8, .d (.int .i64 (su (buF n l) i))), (16, .d (pris l)), (17, .d (.int .i64 l.length)), (18, .d (.int .i64 i))] [(20, tpV (havL n) (wntL n) (arcs n r))]) (fun i => n.length - i) 0 (Nat.zero_le _) ?_ ?_
 · refine (Entails.froCell 20 1001 1 _ 0 _ rfl rfl rfl).trans ?_
   refine (Entails.froCell 20 1002 1 _ 1 _ rfl rfl rfl).trans ?_
   refine (Entails.froCell 20 1003 4 _ 2 _ rfl rfl rfl).trans ?_
   exact Entails.mk' [(20, 20)] rfl rfl ⟨lr, lr, lr, lr, lr, lr, trivial⟩ ⟨rr, trivial⟩
 rintro i hi
 have hi : i ≤ n.length := hi
 have e1 : (i : Int).toNat = i := Int.toNat_natCast i
 rcases Nat.lt_or_ge i n.length with hin | hin
 · have hs1 := hFs i hi
   have hs2 := buF_bd hn hB i
   have v1 : (havL n).getD (i : Int).toNat 0 = havF n i := by rw [e1]; exact getI_hav hin
   have v2 : (wntL n).getD (i : Int).toNat 0 = wntF n i := by rw [e1]; exact getI_wnt hin
   have v3 := havF_bd hn i
   have v4 := pc_bd hB i
   have v5 : (l.getD (i : Int).toNat pr00).cents = pc l i := by rw [e1]; rfl
   have m1 := mul_bd v3.2 (b := 10000000) ⟨v4.1, v4.2⟩
   have m2 := mul_nb v3.1 (y := max 0 (pc l i)) (b := 10000000) ⟨by omega, by omega⟩
   have hv : (wntL n).getD (i : Int).toNat 0 * (l.getD (i : Int).toNat pr00).cents - (havL n).getD (i : Int).toNat 0 * max 0 (l.getD (i : Int).toNat pr00).cents = buF n l i := by rw [v1, v2, v5]; rfl
   conv => whnf
   repeat' (first | (refine And.intro (show inI64 ((wntL n).getD (i : Int).toNat 0 * (l.getD (i : Int).toNat pr00).cents) by rw [v2, v5]; unfold inI64; omega) ?_; conv => whnf) | (refine And.intro (show inI64 ((havL n).getD (i : Int).toNat 0 * max 0 (l.getD (i : Int).toNat pr00).cents) by rw [v1, v5]; unfold inI64; omega) ?_; conv => whnf) | (refine And.intro (show inI64 ((wntL n).getD (i : Int).toNat 0 * (l.getD (i : Int).toNat pr00).cents - (havL n).getD (i : Int).toNat 0 * max 0 (l.getD (i : Int).toNat pr00).cents) by rw [hv]; unfold inI64; omega) ?_; conv => whnf) | (refine And.intro (show inI64 (su (buF n l) i + ((wntL n).getD (i : Int).toNat 0 * (l.getD (i : Int).toNat pr00).cents - (havL n).getD (i : Int).toNat 0 * max 0 (l.getD (i : Int).toNat pr00).cents)) by rw [hv]; unfold inI64; omega) ?_; conv => whnf) | (refine br_intro ?_ ?_ <;> intro hb <;> (try simp only [brs] at hb) <;> conv => whnf) | (refine RegX.rule (id := 6) hT rfl [] oVPiA63_6 (by decide +kernel) ?_; conv => whnf) | (refine RegX.rule (id := 11) hT rfl [] oVPiA63_11 (by decide +kernel) ?_; conv => whnf) | omega | (refine And.intro ?_ ?_; ((try dsimp only); first | omega | (refine szA rfl ?_; omega) | (refine szB rfl ?_; omega) | (unfold inI64; omega) | exact rfl | (simp only [lns] at *; omega) | decide | (unfold inI64; decide)); conv => whnf) | decide | assumption)
   all_goals try (exfalso; omega)
   refine ⟨i + 1, hin, by show n.length - (i + 1) < n.length - i; omega, Entails.mk' [(20, 20)] rfl rfl ⟨lr, lr, SV.le_int ?_, lr, lr, lr, trivial⟩ ⟨rr, trivial⟩⟩
   show su (buF n l) i + ((wntL n).getD (i : Int).toNat 0 * (l.getD (i : Int).toNat pr00).cents - (havL n).getD (i : Int).toNat 0 * max 0 (l.getD (i : Int).toNat pr00).cents) = _
   rw [hv]; rfl
 · have hin : i = n.length := by omega
   rw [hin]
   have hs1 := hFs n.length (Nat.le_refl _)
   conv => whnf
   repeat' (first | (refine br_intro ?_ ?_ <;> intro hb <;> (try simp only [brs] at hb) <;> conv => whnf) | (refine RegX.rule (id := 6) hT rfl [] oVPiA63_6 (by decide +kernel) ?_; conv => whnf) | (refine RegX.rule (id := 11) hT rfl [] oVPiA63_11 (by decide +kernel) ?_; conv => whnf) | omega | (refine And.intro ?_ ?_; ((try dsimp only); first | omega | (refine szA rfl ?_; omega) | (refine szB rfl ?_; omega) | (unfold inI64; omega) | exact rfl | (simp only [lns] at *; omega) | decide | (unfold inI64; decide)); conv => whnf) | decide | assumption)
   all_goals try (exfalso; omega)
   refine LoopX.rule hT (C := []) (ι := Nat) (fun k => k ≤ (arL n r).length) (fun k => mkSt [(2, .d (pris l)), (7, .ptr 20 0), (8, .d (.int .i64 (su (buF n l) n.length - su X k))), (51, .d (seqD 4 arF ar0 (arcs n r))), (52, .d (.int .i64 (arcs n r).length)), (53, .d (.int .i64 k))] [(20, tpV (havL n) (wntL n) (arcs n r))]) (fun k => (arL n r).length - k) 0 (Nat.zero_le _) ?_ ?_
   · exact Entails.mk' [(20, 20)] rfl rfl ⟨lr, lr, SV.le_int (Int.sub_zero _).symm, lr, lr, lr, trivial⟩ ⟨rr, trivial⟩
   rintro k hk
   have hk : k ≤ (arL n r).length := hk
   have e2 : (k : Int).toNat = k := Int.toNat_natCast k
   rcases Nat.lt_or_ge k (arL n r).length with hka | hka
   · have hm := arL_mem (nwG_at (n := n) (r := r) (k := k) hka)
     have hcar := wayO_bd hr hm.2.2
     have u1 : ((arcs n r).getD (k : Int).toNat ar0).fr = (((arL n r).getD k a30).fr : Nat) := by rw [e2, arcs_get]; rfl
     have u2 : ((arcs n r).getD (k : Int).toNat ar0).to = (((arL n r).getD k a30).to : Nat) := by rw [e2, arcs_get]; rfl
     have u3 : ((arcs n r).getD (k : Int).toNat ar0).car = ((arL n r).getD k a30).car := by rw [e2, arcs_get]; rfl
     have b1 := pc_bd hB ((arL n r).getD k a30).fr
     have b2 := pc_bd hB ((arL n r).getD k a30).to
     have w1 : (l.getD ((arcs n r).getD (k : Int).toNat ar0).fr.toNat pr00).cents = pc l ((arL n r).getD k a30).fr := by rw [u1, Int.toNat_natCast]; rfl
     have w2 : (l.getD ((arcs n r).getD (k : Int).toNat ar0).to.toNat pr00).cents = pc l ((arL n r).getD k a30).to := by rw [u2, Int.toNat_natCast]; rfl
     have w3 : (havL n).getD ((arcs n r).getD (k : Int).toNat ar0).fr.toNat 0 = havF n ((arL n r).getD k a30).fr := by rw [u1, Int.toNat_natCast]; exact getI_hav hm.1.1
     have w4 : (wntL n).getD ((arcs n r).getD (k : Int).toNat ar0).to.toNat 0 = wntF n ((arL n r).getD k a30).to := by rw [u2, Int.toNat_natCast]; exact getI_wnt hm.2.1.1
     have hi1 := hm.1.1
     have hi2 := hm.2.1.1
     have hXk := hXb k hka
     have hXs1 := hXs k hk
     have hW : max 0 ((l.getD ((arcs n r).getD (k : Int).toNat ar0).to.toNat pr00).cents - (l.getD ((arcs n r).getD (k : Int).toNat ar0).fr.toNat pr00).cents - ((arcs n r).getD (k : Int).toNat ar0).car) * min ((havL n).getD ((arcs n r).getD (k : Int).toNat ar0).fr.toNat 0) ((wntL n).getD ((arcs n r).getD (k : Int).toNat ar0).to.toNat 0) = X k := by rw [w1, w2, w3, w4, u3, hX]; rfl
     conv => whnf
     repeat' (first | (refine And.intro (show inI64 (max 0 ((l.getD ((arcs n r).getD (k : Int).toNat ar0).to.toNat pr00).cents - (l.getD ((arcs n r).getD (k : Int).toNat ar0).fr.toNat pr00).cents - ((arcs n r).getD (k : Int).toNat ar0).car) * min ((havL n).getD ((arcs n r).getD (k : Int).toNat ar0).fr.toNat 0) ((wntL n).getD ((arcs n r).getD (k : Int).toNat ar0).to.toNat 0)) by rw [hW]; unfold inI64; omega) ?_; conv => whnf) | (refine And.intro (show inI64 (su (buF n l) n.length - su X k - max 0 ((l.getD ((arcs n r).getD (k : Int).toNat ar0).to.toNat pr00).cents - (l.getD ((arcs n r).getD (k : Int).toNat ar0).fr.toNat pr00).cents - ((arcs n r).getD (k : Int).toNat ar0).car) * min ((havL n).getD ((arcs n r).getD (k : Int).toNat ar0).fr.toNat 0) ((wntL n).getD ((arcs n r).getD (k : Int).toNat ar0).to.toNat 0)) by rw [hW]; unfold inI64; omega) ?_; conv => whnf) | (refine br_intro ?_ ?_ <;> intro hb <;> (try simp only [brs] at hb) <;> conv => whnf) | (refine RegX.rule (id := 6) hT rfl [] oVPiA63_6 (by decide +kernel) ?_; conv => whnf) | (refine RegX.rule (id := 11) hT rfl [] oVPiA63_11 (by decide +kernel) ?_; conv => whnf) | omega | (refine And.intro ?_ ?_; ((try dsimp only); first | omega | (refine szA rfl ?_; omega) | (refine szB rfl ?_; omega) | (unfold inI64; omega) | exact rfl | (simp only [lns] at *; omega) | decide | (unfold inI64; decide)); conv => whnf) | decide | assumption)
     all_goals try (exfalso; omega)
     refine ⟨k + 1, hka, by show (arL n r).length - (k + 1) < (arL n r).length - k; omega, Entails.mk' [(20, 20)] rfl rfl ⟨lr, lr, SV.le_int ?_, lr, lr, lr, trivial⟩ ⟨rr, trivial⟩⟩
     show su (buF n l) n.length - su X k - max 0 ((l.getD ((arcs n r).getD (k : Int).toNat ar0).to.toNat pr00).cents - (l.getD ((arcs n r).getD (k : Int).toNat ar0).fr.toNat pr00).cents - ((arcs n r).getD (k : Int).toNat ar0).car) * min ((havL n).getD ((arcs n r).getD (k : Int).toNat ar0).fr.toNat 0) ((wntL n).getD ((arcs n r).getD (k : Int).toNat ar0).to.toNat 0) = su (buF n l) n.length - (su X k + X k)
     rw [hW]; omega
   · have hka : k = (arL n r).length := by omega
     rw [hka]
     conv => whnf
     repeat' (first | (refine br_intro ?_ ?_ <;> intro hb <;> (try simp only [brs] at hb) <;> conv => whnf) | (refine RegX.rule (id := 6) hT rfl [] oVPiA63_6 (by decide +kernel) ?_; conv => whnf) | (refine RegX.rule (id := 11) hT rfl [] oVPiA63_11 (by decide +kernel) ?_; conv => whnf) | omega | (refine And.intro ?_ ?_; ((try dsimp only); first | omega | (refine szA rfl ?_; omega) | (refine szB rfl ?_; omega) | (unfold inI64; omega) | exact rfl | (simp only [lns] at *; omega) | decide | (unfold inI64; decide)); conv => whnf) | decide | assumption)
     all_goals try (exfalso; omega)
     refine .ret _ ?_
     conv => whnf
     refine ⟨[], ⟨?_, rfl⟩, trivial⟩
     conv => lhs; whnf
theorem p56 (l : List Ned) (s : List UInt8) (hl : l.length ≤ 2^40) : FSpec Tryz.prog 56 [.d (neds l), .d (.str s)] [] (fun y r => y = .d (.int .i64 (manyN l s)) ∧ r = []) := by
 refine spec_of hT (C := []) Tryz.func56 rfl Tryz.call56 rfl rfl rfl ?_
 conv => whnf
 repeat' (first | (refine br_intro ?_ ?_ <;> intro hb <;> (try simp only [brs] at hb) <;> conv => whnf) | omega | (refine And.intro ?_ ?_; ((try dsimp only); first | omega | (refine szA rfl ?_; omega) | (refine szB rfl ?_; omega) | (unfold inI64; omega) | exact rfl | (simp only [lns] at *; omega) | decide | (unfold inI64; decide)); conv => whnf) | decide | assumption)
 refine LoopX.rule hT (C := []) (ι := Nat) (fun i => i ≤ l.length ∧ ∀ j, j < i → ((l.getD j nd0).st == s) = false) (fun i => mkSt [(1, .d (.str s)), (7, .d (neds l)), (8, .d (.int .i64 l.length)), (9, .d (.int .i64 i))] []) (fun i => l.length - i) 0 ⟨Nat.zero_le _, fun j hj => absurd hj (Nat.not_lt_zero _)⟩ ?_ ?_
 · exact Entails.mk' [] rfl rfl ⟨lr, lr, lr, lr, trivial⟩ trivial
 rintro i ⟨hi, ha⟩
 have hi : i ≤ l.length := hi
 have ha : ∀ j, j < i → ((l.getD j nd0).st == s) = false := ha
 rcases Nat.lt_or_ge i l.length with hil | hil
 · conv => whnf
   repeat' (first | (refine br_intro ?_ ?_ <;> intro hb <;> (try simp only [brs] at hb) <;> conv => whnf) | omega | (refine And.intro ?_ ?_; ((try dsimp only); first | omega | (refine szA rfl ?_; omega) | (refine szB rfl ?_; omega) | (unfold inI64; omega) | exact rfl | (simp only [lns] at *; omega) | decide | (unfold inI64; decide)); conv => whnf) | decide | assumption)
   all_goals try (exfalso; omega)
   · refine .ret _ ?_
     conv => whnf
     refine ⟨[], ⟨?_, rfl⟩, trivial⟩
     conv => lhs; whnf
     have h1 : nedX l s = i := ixF_hit hil ha (by simpa using hb)
     unfold manyN
     rw [h1, if_pos (by omega), Int.toNat_natCast]
   · exact ⟨i + 1, ⟨hil, fun j hj => by
      by_cases q : j = i
      · rw [q]; simpa using hb
      · exact ha j (by omega)⟩, by omega, Entails.mk' [] rfl rfl ⟨lr, lr, lr, lr, trivial⟩ trivial⟩
 · have hil : i = l.length := by omega
   subst hil
   conv => whnf
   repeat' (first | (refine br_intro ?_ ?_ <;> intro hb <;> (try simp only [brs] at hb) <;> conv => whnf) | omega | (refine And.intro ?_ ?_; ((try dsimp only); first | omega | (refine szA rfl ?_; omega) | (refine szB rfl ?_; omega) | (unfold inI64; omega) | exact rfl | (simp only [lns] at *; omega) | decide | (unfold inI64; decide)); conv => whnf) | decide | assumption)
   all_goals try (exfalso; omega)
   refine .ret _ ?_
   conv => whnf
   refine ⟨[], ⟨?_, rfl⟩, trivial⟩
   conv => lhs; whnf
   have h1 : nedX l s = -1 := ixF_none ha
   unfold manyN
   rw [h1, if_neg (by omega)]
def hsN (l : List Mov) (s : List UInt8) : Nat → Bool
 | 0 => false
 | k + 1 => decide (s = (l.getD k mv0).b) || (decide (s = (l.getD k mv0).a) || hsN l s k)
def keyT : List DV → List UInt8
 | [.str s] => s
 | _ => []
abbrev mvdR (l : List Mov) (k : Nat) : Res := .map false false [.str] [.int .i64 0] (fun K => hsN l (keyT K) k) (fun K => [.int .i64 (mvdN l (keyT K) k)])
theorem mvdN_bd {l : List Mov} (h : mvsE l = 0) (s : List UInt8) {k : Nat} (hk : k ≤ l.length) : -50000 ≤ mvdN l s k ∧ mvdN l s k ≤ 50000 := by
 have h1 := awayN_bd h s k hk
 have h2 := hereN_bd h s k hk
 have h3 := (mvs_all h).1
 rw [mvdN_eq]; omega
theorem mvdR_step {l : List Mov} {k : Nat} (hab : (l.getD k mv0).a ≠ (l.getD k mv0).b) : Res.le (.map false false [.str] [.int .i64 0] (fun q => keyEq q [.str (l.getD k mv0).b] || (keyEq q [.str (l.getD k mv0).a] || hsN l (keyT q) k))
 (fun q => bif keyEq q [.str (l.getD k mv0).b] then [.int .i64 (mvdN l (l.getD k mv0).b k - (l.getD k mv0).many)] else bif keyEq q [.str (l.getD k mv0).a] then [.int .i64 (mvdN l (l.getD k mv0).a k + (l.getD k mv0).many)] else [.int .i64 (mvdN l (keyT q) k)])) (mvdR l (k + 1)) := Res.le_map fun K hK => by
 obtain ⟨s, rfl⟩ := wk_str hK
 rw [keyEq_str, keyEq_str]
 refine ⟨rfl, ?_⟩
 show (bif decide (s = (l.getD k mv0).b) then [DV.int .i64 (mvdN l (l.getD k mv0).b k - (l.getD k mv0).many)] else bif decide (s = (l.getD k mv0).a) then [.int .i64 (mvdN l (l.getD k mv0).a k + (l.getD k mv0).many)] else [.int .i64 (mvdN l s k)]) = [.int .i64 (mvdN l s (k + 1))]
 rw [mvdN]
 by_cases q : s = (l.getD k mv0).b
 · have q2 : ¬ (l.getD k mv0).a = s := fun z => hab (z.trans q)
   rw [decide_eq_true q, if_neg q2, if_pos q.symm, ← q]
   show [DV.int .i64 _] = _
   rw [show mvdN l s k - (l.getD k mv0).many = mvdN l s k + 0 - (l.getD k mv0).many by omega]
 · have q3 : ¬ (l.getD k mv0).b = s := fun z => q z.symm
   rw [decide_eq_false q, if_neg q3]
   by_cases q2 : s = (l.getD k mv0).a
   · rw [decide_eq_true q2, if_pos q2.symm, ← q2]
     show [DV.int .i64 _] = _
     rw [Int.sub_zero]
   · have q4 : ¬ (l.getD k mv0).a = s := fun z => q2 z.symm
     rw [decide_eq_false q2, if_neg q4]
     show [DV.int .i64 _] = _
     rw [Int.add_zero, Int.sub_zero]
theorem mov_ab {l : List Mov} (h : mvsE l = 0) {i : Nat} (hi : i < l.length) : (l.getD i mv0).a ≠ (l.getD i mv0).b := fun q => by
 have := (mvs_all h).2 i hi
 unfold mvE at this
 simp only [q] at this
 grind
def plnE (n : List Ned) (r : List Roa) (l : List Mov) : Int := if firstE [ndsE n, rdsE r, mvsE l] ≠ 0 then firstE [ndsE n, rdsE r, mvsE l] else planE n r l
theorem firstE_tri {a b c : Int} (h : firstE [a, b, c] = 0) : a = 0 ∧ b = 0 ∧ c = 0 := by
 by_cases ha : a = 0
 · rw [firstE, if_pos ha] at h
   exact ⟨ha, firstE_two h⟩
 · rw [firstE, if_neg ha] at h; exact absurd h ha
set_option maxHeartbeats 8000000 in
theorem p18 (n : List Ned) (r : List Roa) (l : List Mov) (hn : ndOk n) (hr : rdOk r) (hl : mvOk l) : FSpec Tryz.prog 18 [.d (neds n), .d (roas r), .d (movs l)] [] (fun y q => y = .d (.int .i64 (plnE n r l)) ∧ q = []) := by
 obtain ⟨E0, hE0⟩ : ∃ e, firstE [ndsE n, rdsE r, mvsE l] = e := ⟨_, rfl⟩
 have h53 := s105 [ndsE n, rdsE r, mvsE l] (by simp)
 rw [hE0] at h53
 have h12 := s163 n hn
 have h13 := s164 r hr
 have h54 := z116 l hl
 unfold plnE
 rw [hE0]
 by_cases h0 : E0 = 0
 · subst h0
   obtain ⟨z1, z2, z3⟩ := firstE_tri hE0
   have hnl := (nds_all z1).1
   have hml := (mvs_all z3).1
   rw [if_neg (by omega)]
   refine spec_of hT (C := []) Tryz.func18 rfl Tryz.call18 rfl rfl rfl ?_
   conv => whnf
   repeat' (first | (refine CallX.exact (h12) rfl rfl ?_; rotate_right; conv => whnf) | (refine CallX.exact (h13) rfl rfl ?_; rotate_right; conv => whnf) | (refine CallX.exact (h54) rfl rfl ?_; rotate_right; conv => whnf) | (refine CallX.pure h53 ⟨SV.le_lit (by rfl) (by rfl), trivial⟩ rfl ?_; conv => whnf) | (refine CallX.of (z117 r z2) [(3, 29)] rfl ⟨lr, trivial⟩ trivial rfl rfl ?_; rintro x rout ⟨rfl, rfl⟩; refine ⟨rfl, ?_⟩; conv => whnf) | (refine br_intro ?_ ?_ <;> intro hb <;> (try simp only [brs] at hb) <;> conv => whnf) | omega | (refine And.intro ?_ ?_; ((try dsimp only); first | omega | (refine szA rfl ?_; omega) | (refine szB rfl ?_; omega) | (unfold inI64; omega) | exact rfl | (simp only [lns] at *; omega) | decide | (unfold inI64; decide)); conv => whnf) | decide | assumption)
   refine LoopX.rule hT (C := []) (ι := Nat) (fun i => i ≤ l.length ∧ ∀ j, j < i → onPlan n r l j = 0) (fun i => mkSt [(0, .d (neds n)), (8, .mp 29), (9, .mp 30), (31, .d (movs l)), (32, .d (.int .i64 l.length)), (33, .d (.int .i64 i))] [(29, netG r), (30, mvdR l i)]) (fun i => l.length - i) 0 ⟨Nat.zero_le _, fun j hj => absurd hj (Nat.not_lt_zero _)⟩ ?_ ?_
   · exact Entails.mk' [(29, 29), (30, 30)] rfl rfl ⟨lr, lr, lr, lr, lr, lr, trivial⟩ ⟨rr, Res.le_map (fun _ _ => ⟨rfl, rfl⟩), trivial⟩
   rintro i ⟨hi, ha⟩
   have hi : i ≤ l.length := hi
   have ha : ∀ j, j < i → onPlan n r l j = 0 := ha
   have e1 : (i : Int).toNat = i := Int.toNat_natCast i
   rcases Nat.lt_or_ge i l.length with hil | hil
   · have h56a := p56 n (l.getD (i : Int).toNat mv0).a (by omega)
     have h56b := p56 n (l.getD (i : Int).toNat mv0).b (by omega)
     have hab := mov_ab z3 hil
     have hkab : keyEq [.str (l.getD (i : Int).toNat mv0).b] [.str (l.getD (i : Int).toNat mv0).a] = false := by
      rw [keyEq_str, e1]; exact decide_eq_false (fun q => hab q.symm)
     have hbd := mov_bd z3 hil
     rw [← e1] at hbd
     have hv1 := mvdN_bd z3 (l.getD (i : Int).toNat mv0).a hi
     have hv2 := mvdN_bd z3 (l.getD (i : Int).toNat mv0).b hi
     have hbad : ∀ e : Int, e ≠ 0 → onPlan n r l i = e → planE n r l = e := fun e q1 q2 => by
      unfold planE
      have := firstAt_eq hil ha q1 q2
      rw [this, if_pos q1]
     conv => whnf
     repeat' (first | (refine And.intro (show inI64 (mvdN l (l.getD (i : Int).toNat mv0).a i + (l.getD (i : Int).toNat mv0).many) by unfold inI64; omega) ?_; conv => whnf) | (refine And.intro (show inI64 (mvdN l (l.getD (i : Int).toNat mv0).b i - (l.getD (i : Int).toNat mv0).many) by unfold inI64; omega) ?_; conv => whnf) | (refine CallX.exact (h56a) rfl rfl ?_; rotate_right; conv => whnf) | (refine CallX.exact (h56b) rfl rfl ?_; rotate_right; conv => whnf) | (refine And.intro (rfl : zrow _ = some [.str [], .str [], .int .i64 0, .int .i64 0]) ?_; conv => whnf) | (refine And.intro (rfl : zrow _ = some [.int .i64 0]) ?_; conv => whnf) | (refine br_intro ?_ ?_ <;> intro hb <;> (try simp only [brs] at hb) <;> conv => whnf) | omega | (refine And.intro ?_ ?_; ((try dsimp only); first | omega | (refine szA rfl ?_; omega) | (refine szB rfl ?_; omega) | (unfold inI64; omega) | exact rfl | (simp only [lns] at *; omega) | decide | (unfold inI64; decide)); conv => whnf) | decide | assumption)
     all_goals try (exfalso; omega)
     · refine .ret _ ?_
       conv => whnf
       refine ⟨[], ⟨?_, rfl⟩, trivial⟩
       conv => lhs; whnf
       rw [hbad 16 (by decide) (by unfold onPlan; simp only; rw [if_pos (.inl hb)])]
     · refine .ret _ ?_
       conv => whnf
       refine ⟨[], ⟨?_, rfl⟩, trivial⟩
       conv => lhs; whnf
       rw [hbad 16 (by decide) (by unfold onPlan; simp only; rw [if_pos (.inr hb)])]
     · refine .ret _ ?_
       conv => whnf
       refine ⟨[], ⟨?_, rfl⟩, trivial⟩
       conv => lhs; whnf
       have hb2 : (roadO r (l.getD i mv0).a (l.getD i mv0).b).isSome = false := hb
       rw [hbad 8 (by decide) (by unfold onPlan; simp only; rw [if_neg (by omega), if_pos hb2])]
     · have hb2 : (roadO r (l.getD i mv0).a (l.getD i mv0).b).isSome = true := hb
       rename_i q1 q2
       simp only [hkab, cond_false]
       conv => whnf
       repeat' (first | (refine And.intro (show inI64 (mvdN l (l.getD (i : Int).toNat mv0).b i - (l.getD (i : Int).toNat mv0).many) by unfold inI64; omega) ?_; conv => whnf) | (refine And.intro (rfl : zrow _ = some [.int .i64 0]) ?_; conv => whnf) | (refine br_intro ?_ ?_ <;> intro hb <;> (try simp only [brs] at hb) <;> conv => whnf) | omega | (refine And.intro ?_ ?_; ((try dsimp only); first | omega | (refine szA rfl ?_; omega) | (refine szB rfl ?_; omega) | (unfold inI64; omega) | exact rfl | (simp only [lns] at *; omega) | decide | (unfold inI64; decide)); conv => whnf) | decide | assumption)
       refine ⟨i + 1, ⟨hil, first_step ha ?_⟩, by show l.length - (i + 1) < l.length - i; omega, Entails.mk' [(29, 29), (30, 30)] rfl rfl ⟨lr, lr, lr, lr, lr, lr, trivial⟩ ⟨rr, mvdR_step hab, trivial⟩⟩
       unfold onPlan
       simp only
       rw [if_neg (by omega), if_neg (by rw [hb2]; decide)]
   · have hil : i = l.length := by omega
     subst hil
     have hz : firstAt (onPlan n r l) l.length = 0 := firstAt_zero ha
     have hpl : planE n r l = firstAt (sumE n l) n.length := by unfold planE; rw [hz, if_neg (fun q => q rfl)]
     rw [hpl]
     conv => whnf
     repeat' (first | (refine br_intro ?_ ?_ <;> intro hb <;> (try simp only [brs] at hb) <;> conv => whnf) | omega | (refine And.intro ?_ ?_; ((try dsimp only); first | omega | (refine szA rfl ?_; omega) | (refine szB rfl ?_; omega) | (unfold inI64; omega) | exact rfl | (simp only [lns] at *; omega) | decide | (unfold inI64; decide)); conv => whnf) | decide | assumption)
     all_goals try (exfalso; omega)
     refine LoopX.rule hT (C := []) (ι := Nat) (fun i => i ≤ n.length ∧ ∀ j, j < i → sumE n l j = 0) (fun i => mkSt [(9, .mp 30), (76, .d (neds n)), (77, .d (.int .i64 n.length)), (78, .d (.int .i64 i))] [(30, mvdR l l.length)]) (fun i => n.length - i) 0 ⟨Nat.zero_le _, fun j hj => absurd hj (Nat.not_lt_zero _)⟩ ?_ ?_
     · exact Entails.mk' [(30, 30)] rfl rfl ⟨lr, lr, lr, lr, trivial⟩ ⟨rr, trivial⟩
     rintro i ⟨hi, ha⟩
     have hi : i ≤ n.length := hi
     have ha : ∀ j, j < i → sumE n l j = 0 := ha
     have e1 : (i : Int).toNat = i := Int.toNat_natCast i
     rcases Nat.lt_or_ge i n.length with hin | hin
     · have hbad : ∀ e : Int, e ≠ 0 → sumE n l i = e → firstAt (sumE n l) n.length = e := fun e q1 q2 => firstAt_eq hin ha q1 q2
       have hv := mvdN_bd z3 (n.getD i nd0).st (Nat.le_refl l.length)
       conv => whnf
       repeat' (first | (refine And.intro (rfl : zrow _ = some [.int .i64 0]) ?_; conv => whnf) | (refine br_intro ?_ ?_ <;> intro hb <;> (try simp only [brs] at hb) <;> conv => whnf) | omega | (refine And.intro ?_ ?_; ((try dsimp only); first | omega | (refine szA rfl ?_; omega) | (refine szB rfl ?_; omega) | (unfold inI64; omega) | exact rfl | (simp only [lns] at *; omega) | decide | (unfold inI64; decide)); conv => whnf) | decide | assumption)
       all_goals try (exfalso; omega)
       · rename_i q1
         have hb2 : (n.getD i nd0).many < mvdN l (n.getD i nd0).st l.length := hb
         refine .ret _ ?_
         conv => whnf
         refine ⟨[], ⟨?_, rfl⟩, trivial⟩
         conv => lhs; whnf
         rw [hbad 15 (by decide) (by unfold sumE; simp only; rw [if_pos (.inl ⟨q1, hb2⟩)])]
       · rename_i q1 q2
         have q2 : mvdN l (n.getD i nd0).st l.length ≤ (n.getD i nd0).many := q2
         exact ⟨i + 1, ⟨hin, first_step ha (by unfold sumE; simp only; rw [if_neg (by omega)])⟩, by show n.length - (i + 1) < n.length - i; omega, Entails.mk' [(30, 30)] rfl rfl ⟨lr, lr, lr, lr, trivial⟩ ⟨rr, trivial⟩⟩
       · rename_i q1 q2
         have hb2 : ¬ mvdN l (n.getD i nd0).st l.length = (n.getD i nd0).many := hb
         refine .ret _ ?_
         conv => whnf
         refine ⟨[], ⟨?_, rfl⟩, trivial⟩
         conv => lhs; whnf
         rw [hbad 15 (by decide) (by unfold sumE; simp only; rw [if_pos (.inr ⟨q2, hb2⟩)])]
       · have hb2 : mvdN l (n.getD i nd0).st l.length = (n.getD i nd0).many := hb
         exact ⟨i + 1, ⟨hin, first_step ha (by unfold sumE; simp only; rw [if_neg (by omega)])⟩, by show n.length - (i + 1) < n.length - i; omega, Entails.mk' [(30, 30)] rfl rfl ⟨lr, lr, lr, lr, trivial⟩ ⟨rr, trivial⟩⟩
       · exact ⟨i + 1, ⟨hin, first_step ha (by unfold sumE; simp only; rw [if_neg (by omega)])⟩, by show n.length - (i + 1) < n.length - i; omega, Entails.mk' [(30, 30)] rfl rfl ⟨lr, lr, lr, lr, trivial⟩ ⟨rr, trivial⟩⟩
     · have hin : i = n.length := by omega
       subst hin
       conv => whnf
       repeat' (first | (refine br_intro ?_ ?_ <;> intro hb <;> (try simp only [brs] at hb) <;> conv => whnf) | omega | (refine And.intro ?_ ?_; ((try dsimp only); first | omega | (refine szA rfl ?_; omega) | (refine szB rfl ?_; omega) | (unfold inI64; omega) | exact rfl | (simp only [lns] at *; omega) | decide | (unfold inI64; decide)); conv => whnf) | decide | assumption)
       all_goals try (exfalso; omega)
       refine .ret _ ?_
       conv => whnf
       refine ⟨[], ⟨?_, rfl⟩, trivial⟩
       conv => lhs; whnf
       rw [firstAt_zero ha]
 · rw [if_pos h0]
   refine spec_of hT (C := []) Tryz.func18 rfl Tryz.call18 rfl rfl rfl ?_
   conv => whnf
   repeat' (first | (refine CallX.exact (h12) rfl rfl ?_; rotate_right; conv => whnf) | (refine CallX.exact (h13) rfl rfl ?_; rotate_right; conv => whnf) | (refine CallX.exact (h54) rfl rfl ?_; rotate_right; conv => whnf) | (refine CallX.pure h53 ⟨SV.le_lit (by rfl) (by rfl), trivial⟩ rfl ?_; conv => whnf) | (refine br_intro ?_ ?_ <;> intro hb <;> (try simp only [brs] at hb) <;> conv => whnf) | omega | (refine And.intro ?_ ?_; ((try dsimp only); first | omega | (refine szA rfl ?_; omega) | (refine szB rfl ?_; omega) | (unfold inI64; omega) | exact rfl | (simp only [lns] at *; omega) | decide | (unfold inI64; decide)); conv => whnf) | decide | assumption)
   all_goals try (exfalso; omega)
   refine .ret _ ?_
   conv => whnf
   refine ⟨[], ⟨?_, rfl⟩, trivial⟩
   conv => lhs; whnf
def oVPiC43_6 : List (Nat × List Nat) := [(0, []), (1, [0]), (2, [0]), (3, [0, 1, 2]), (4, [0, 1, 2, 3]), (5, [0, 1, 2, 3]), (6, [0, 1, 2, 3, 4, 5]), (7, [0, 1, 2, 3, 4, 5]), (8, [0, 1, 2, 3]), (9, [0, 1, 2]), (10, [0, 1, 2]), (11, [0]), (12, []), (13, [])]
theorem mvsE_ok {l : List Mov} (h : mvsE l = 0) : mvP l := ⟨(mvs_all h).1, fun m hm => by
 obtain ⟨i, hi, rfl⟩ := mem_getD (d := mv0) hm
 have := mov_bd h hi
 omega⟩
set_option maxHeartbeats 4000000 in
theorem p43 (r : List Roa) (l : List Mov) (hr : rdsE r = 0) (hl : mvP l) : FSpec Tryz.prog 43 [.d (roas r), .d (movs l)] [] (fun y q => y = .d (.int .i64 (costN r l l.length)) ∧ q = []) := by
 have hrl := (rds_all hr).1
 have hll := hl.1
 refine spec_of hT (C := []) Tryz.func43 rfl Tryz.call43 rfl rfl rfl ?_
 conv => whnf
 repeat' (first | (refine CallX.of (z117 r hr) [(3, 10)] rfl ⟨lr, trivial⟩ trivial rfl rfl ?_; rintro x rout ⟨rfl, rfl⟩; refine ⟨rfl, ?_⟩; conv => whnf) | (refine br_intro ?_ ?_ <;> intro hb <;> (try simp only [brs] at hb) <;> conv => whnf) | (refine RegX.rule (id := 6) hT rfl [] oVPiC43_6 (by decide +kernel) ?_; conv => whnf) | omega | (refine And.intro ?_ ?_; ((try dsimp only); first | omega | (refine szA rfl ?_; omega) | (refine szB rfl ?_; omega) | (unfold inI64; omega) | exact rfl | (simp only [lns] at *; omega) | decide | (unfold inI64; decide)); conv => whnf) | decide | assumption)
 refine LoopX.rule hT (C := []) (ι := Nat) (fun i => i ≤ l.length) (fun i => mkSt [(5, .mp 10), (6, .d (.int .i64 (costN r l i))), (11, .d (movs l)), (12, .d (.int .i64 l.length)), (13, .d (.int .i64 i))] [(10, netG r)]) (fun i => l.length - i) 0 (Nat.zero_le _) ?_ ?_
 · exact Entails.mk' [(10, 10)] rfl rfl ⟨lr, lr, lr, lr, lr, trivial⟩ ⟨rr, trivial⟩
 rintro i hi
 have hi : i ≤ l.length := hi
 have e1 : (i : Int).toNat = i := Int.toNat_natCast i
 have hb1 := costN_b2 hr hl i hi
 rcases Nat.lt_or_ge i l.length with hil | hil
 · have h2 := hl.2 _ (getD_mem (l := l) (x := mv0) (i := (i : Int).toNat) (by omega))
   have h3 := roadC_bd hr (l.getD (i : Int).toNat mv0).a (l.getD (i : Int).toNat mv0).b
   have h4 := mul_nb h2 h3
   conv => whnf
   repeat' (first | (refine And.intro (rfl : zrow _ = some [.str [], .str [], .int .i64 0, .int .i64 0]) ?_; conv => whnf) | (refine And.intro (show inI64 ((l.getD (i : Int).toNat mv0).many * ((roadO r (l.getD (i : Int).toNat mv0).a (l.getD (i : Int).toNat mv0).b).getD rd0).car) by unfold inI64; omega) ?_; conv => whnf) | (refine And.intro (show inI64 (costN r l i + (l.getD (i : Int).toNat mv0).many * ((roadO r (l.getD (i : Int).toNat mv0).a (l.getD (i : Int).toNat mv0).b).getD rd0).car) by unfold inI64; omega) ?_; conv => whnf) | (refine br_intro ?_ ?_ <;> intro hb <;> (try simp only [brs] at hb) <;> conv => whnf) | (refine RegX.rule (id := 6) hT rfl [] oVPiC43_6 (by decide +kernel) ?_; conv => whnf) | omega | (refine And.intro ?_ ?_; ((try dsimp only); first | omega | (refine szA rfl ?_; omega) | (refine szB rfl ?_; omega) | (unfold inI64; omega) | exact rfl | (simp only [lns] at *; omega) | decide | (unfold inI64; decide)); conv => whnf) | decide | assumption)
   all_goals try (exfalso; omega)
   exact ⟨i + 1, hil, by show l.length - (i + 1) < l.length - i; omega, Entails.mk' [(10, 10)] rfl rfl ⟨lr, lr, lr, lr, lr, trivial⟩ ⟨rr, trivial⟩⟩
 · have hil : i = l.length := by omega
   subst hil
   conv => whnf
   repeat' (first | (refine br_intro ?_ ?_ <;> intro hb <;> (try simp only [brs] at hb) <;> conv => whnf) | (refine RegX.rule (id := 6) hT rfl [] oVPiC43_6 (by decide +kernel) ?_; conv => whnf) | omega | (refine And.intro ?_ ?_; ((try dsimp only); first | omega | (refine szA rfl ?_; omega) | (refine szB rfl ?_; omega) | (unfold inI64; omega) | exact rfl | (simp only [lns] at *; omega) | decide | (unfold inI64; decide)); conv => whnf) | decide | assumption)
   all_goals try (exfalso; omega)
   refine .ret _ ?_
   conv => whnf
   refine ⟨[], ⟨?_, rfl⟩, trivial⟩
   conv => lhs; whnf
theorem plnE_zero {n : List Ned} {r : List Roa} {l : List Mov} (h : plnE n r l = 0) : (ndsE n = 0 ∧ rdsE r = 0 ∧ mvsE l = 0) ∧ planE n r l = 0 := by
 unfold plnE at h
 split at h
 · rename_i q; exact absurd h q
 · rename_i q; exact ⟨firstE_tri (Classical.not_not.1 q), h⟩
theorem p9 (n : List Ned) (r : List Roa) (l : List Mov) (hn : ndOk n) (hr : rdOk r) (hl : mvOk l) : FSpec Tryz.prog 9 [.d (neds n), .d (roas r), .d (movs l)] [] (fun y q => y = .tup [.d (.int .i64 (if plnE n r l = 0 then costN r l l.length else 0)), .d (.int .i64 (plnE n r l))] ∧ q = []) := by
 have h18 := p18 n r l hn hr hl
 obtain ⟨e, he⟩ : ∃ e, plnE n r l = e := ⟨_, rfl⟩
 rw [he] at h18
 rw [he]
 by_cases h0 : e = 0
 · subst h0
   obtain ⟨⟨z1, z2, z3⟩, z4⟩ := plnE_zero he
   have h43 := p43 r l z2 (mvsE_ok z3)
   refine spec_of hT (C := []) Tryz.func9 rfl Tryz.call9 rfl rfl rfl ?_
   conv => whnf
   repeat' (first | (refine CallX.exact (h18) rfl rfl ?_; rotate_right; conv => whnf) | (refine CallX.exact (h43) rfl rfl ?_; rotate_right; conv => whnf) | (refine br_intro ?_ ?_ <;> intro hb <;> (try simp only [brs] at hb) <;> conv => whnf) | omega | (refine And.intro ?_ ?_; ((try dsimp only); first | omega | (refine szA rfl ?_; omega) | (refine szB rfl ?_; omega) | (unfold inI64; omega) | exact rfl | (simp only [lns] at *; omega) | decide | (unfold inI64; decide)); conv => whnf) | decide | assumption)
   refine .weak _ ?_
   conv => whnf
   exact ⟨.tup [.d (.int .i64 (if 0 = (0 : Int) then costN r l l.length else 0)), .d (.int .i64 0)], _, SV.le_tup ⟨SV.le_int (if_pos rfl).symm, lr, trivial⟩, ⟨rfl, rfl⟩, trivial⟩
 · refine spec_of hT (C := []) Tryz.func9 rfl Tryz.call9 rfl rfl rfl ?_
   conv => whnf
   repeat' (first | (refine CallX.exact (h18) rfl rfl ?_; rotate_right; conv => whnf) | (refine br_intro ?_ ?_ <;> intro hb <;> (try simp only [brs] at hb) <;> conv => whnf) | omega | (refine And.intro ?_ ?_; ((try dsimp only); first | omega | (refine szA rfl ?_; omega) | (refine szB rfl ?_; omega) | (unfold inI64; omega) | exact rfl | (simp only [lns] at *; omega) | decide | (unfold inI64; decide)); conv => whnf) | decide | assumption)
   all_goals try (exfalso; omega)
   refine .weak _ ?_
   conv => whnf
   exact ⟨.tup [.d (.int .i64 (if e = (0 : Int) then costN r l l.length else 0)), .d (.int .i64 e)], _, SV.le_tup ⟨SV.le_int (if_neg h0).symm, lr, trivial⟩, ⟨rfl, rfl⟩, trivial⟩
def bndE (n : List Ned) (r : List Roa) (p : List Pri) : Int := firstE [firstE [ndsE n, rdsE r], priE n p]
def prvE (n : List Ned) (r : List Roa) (l : List Mov) (p : List Pri) : Int := firstE [plnE n r l, priE n p]
theorem p23 (n : List Ned) (r : List Roa) (p : List Pri) (hn : ndOk n) (hr : rdOk r) (hp : p.length ≤ 2^40) : FSpec Tryz.prog 23 [.d (neds n), .d (roas r), .d (pris p)] [] (fun y q => y = .tup [.d (.int .i64 (if bndE n r p = 0 then bouN n r p else 0)), .d (.int .i64 (bndE n r p))] ∧ q = []) := by
 obtain ⟨e1, he1⟩ : ∃ e, firstE [ndsE n, rdsE r] = e := ⟨_, rfl⟩
 obtain ⟨e2, he2⟩ : ∃ e, priE n p = e := ⟨_, rfl⟩
 obtain ⟨e, he⟩ : ∃ e, firstE [e1, e2] = e := ⟨_, rfl⟩
 have h58 := s113 n r hn hr
 have h62 := p62 n p hn.1 hp
 have h53 := s105 [e1, e2] (by simp)
 rw [he1] at h58
 rw [he2] at h62
 rw [he] at h53
 have hb : bndE n r p = e := by unfold bndE; rw [he1, he2, he]
 rw [hb]
 by_cases h0 : e = 0
 · subst h0
   obtain ⟨z1, z2⟩ := firstE_two he
   obtain ⟨z3, z4⟩ := firstE_two (he1.trans z1)
   have h63 := p63 n r p z3 z4 (he2.trans z2)
   refine spec_of hT (C := []) Tryz.func23 rfl Tryz.call23 rfl rfl rfl ?_
   conv => whnf
   repeat' (first | (refine CallX.exact (h58) rfl rfl ?_; rotate_right; conv => whnf) | (refine CallX.exact (h62) rfl rfl ?_; rotate_right; conv => whnf) | (refine CallX.pure h53 ⟨SV.le_lit (by rfl) (by rfl), trivial⟩ rfl ?_; conv => whnf) | (refine CallX.exact (h63) rfl rfl ?_; rotate_right; conv => whnf) | (refine br_intro ?_ ?_ <;> intro hb <;> (try simp only [brs] at hb) <;> conv => whnf) | omega | (refine And.intro ?_ ?_; ((try dsimp only); first | omega | (refine szA rfl ?_; omega) | (refine szB rfl ?_; omega) | (unfold inI64; omega) | exact rfl | (simp only [lns] at *; omega) | decide | (unfold inI64; decide)); conv => whnf) | decide | assumption)
   refine .weak _ ?_
   conv => whnf
   exact ⟨.tup [.d (.int .i64 (if 0 = (0 : Int) then bouN n r p else 0)), .d (.int .i64 0)], _, SV.le_tup ⟨SV.le_int (if_pos rfl).symm, lr, trivial⟩, ⟨rfl, rfl⟩, trivial⟩
 · refine spec_of hT (C := []) Tryz.func23 rfl Tryz.call23 rfl rfl rfl ?_
   conv => whnf
   repeat' (first | (refine CallX.exact (h58) rfl rfl ?_; rotate_right; conv => whnf) | (refine CallX.exact (h62) rfl rfl ?_; rotate_right; conv => whnf) | (refine CallX.pure h53 ⟨SV.le_lit (by rfl) (by rfl), trivial⟩ rfl ?_; conv => whnf) | (refine br_intro ?_ ?_ <;> intro hb <;> (try simp only [brs] at hb) <;> conv => whnf) | omega | (refine And.intro ?_ ?_; ((try dsimp only); first | omega | (refine szA rfl ?_; omega) | (refine szB rfl ?_; omega) | (unfold inI64; omega) | exact rfl | (simp only [lns] at *; omega) | decide | (unfold inI64; decide)); conv => whnf) | decide | assumption)
   all_goals try (exfalso; omega)
   refine .weak _ ?_
   conv => whnf
   exact ⟨.tup [.d (.int .i64 (if e = (0 : Int) then bouN n r p else 0)), .d (.int .i64 e)], _, SV.le_tup ⟨SV.le_int (if_neg h0).symm, lr, trivial⟩, ⟨rfl, rfl⟩, trivial⟩
theorem p24 (n : List Ned) (r : List Roa) (l : List Mov) (p : List Pri) (hn : ndOk n) (hr : rdOk r) (hl : mvOk l) (hp : p.length ≤ 2^40) : FSpec Tryz.prog 24 [.d (neds n), .d (roas r), .d (movs l), .d (pris p)] []
 (fun y q => y = .tup [.d (.bool (decide (prvE n r l p = 0 ∧ costN r l l.length = bouN n r p))), .d (.int .i64 (prvE n r l p))] ∧ q = []) := by
 obtain ⟨e1, he1⟩ : ∃ e, plnE n r l = e := ⟨_, rfl⟩
 obtain ⟨e2, he2⟩ : ∃ e, priE n p = e := ⟨_, rfl⟩
 obtain ⟨e, he⟩ : ∃ e, firstE [e1, e2] = e := ⟨_, rfl⟩
 have h18 := p18 n r l hn hr hl
 have h62 := p62 n p hn.1 hp
 have h53 := s105 [e1, e2] (by simp)
 rw [he1] at h18
 rw [he2] at h62
 rw [he] at h53
 have hb : prvE n r l p = e := by unfold prvE; rw [he1, he2, he]
 rw [hb]
 by_cases h0 : e = 0
 · subst h0
   obtain ⟨z1, z2⟩ := firstE_two he
   obtain ⟨⟨z3, z4, z5⟩, _⟩ := plnE_zero (he1.trans z1)
   have h63 := p63 n r p z3 z4 (he2.trans z2)
   have h43 := p43 r l z4 (mvsE_ok z5)
   obtain ⟨c, hc⟩ : ∃ c, costN r l l.length = c := ⟨_, rfl⟩
   obtain ⟨b, hbb⟩ : ∃ b, bouN n r p = b := ⟨_, rfl⟩
   rw [hc] at h43
   rw [hbb] at h63
   rw [hc, hbb]
   refine spec_of hT (C := []) Tryz.func24 rfl Tryz.call24 rfl rfl rfl ?_
   conv => whnf
   repeat' (first | (refine CallX.exact (h18) rfl rfl ?_; rotate_right; conv => whnf) | (refine CallX.exact (h62) rfl rfl ?_; rotate_right; conv => whnf) | (refine CallX.pure h53 ⟨SV.le_lit (by rfl) (by rfl), trivial⟩ rfl ?_; conv => whnf) | (refine CallX.exact (h63) rfl rfl ?_; rotate_right; conv => whnf) | (refine CallX.exact (h43) rfl rfl ?_; rotate_right; conv => whnf) | (refine br_intro ?_ ?_ <;> intro hb <;> (try simp only [brs] at hb) <;> conv => whnf) | omega | (refine And.intro ?_ ?_; ((try dsimp only); first | omega | (refine szA rfl ?_; omega) | (refine szB rfl ?_; omega) | (unfold inI64; omega) | exact rfl | (simp only [lns] at *; omega) | decide | (unfold inI64; decide)); conv => whnf) | decide | assumption)
   refine .weak _ ?_
   conv => whnf
   exact ⟨.tup [.d (.bool (decide (0 = (0 : Int) ∧ c = b))), .d (.int .i64 0)], _, SV.le_tup ⟨SV.le_bool (by simp), lr, trivial⟩, ⟨rfl, rfl⟩, trivial⟩
 · refine spec_of hT (C := []) Tryz.func24 rfl Tryz.call24 rfl rfl rfl ?_
   conv => whnf
   repeat' (first | (refine CallX.exact (h18) rfl rfl ?_; rotate_right; conv => whnf) | (refine CallX.exact (h62) rfl rfl ?_; rotate_right; conv => whnf) | (refine CallX.pure h53 ⟨SV.le_lit (by rfl) (by rfl), trivial⟩ rfl ?_; conv => whnf) | (refine br_intro ?_ ?_ <;> intro hb <;> (try simp only [brs] at hb) <;> conv => whnf) | omega | (refine And.intro ?_ ?_; ((try dsimp only); first | omega | (refine szA rfl ?_; omega) | (refine szB rfl ?_; omega) | (unfold inI64; omega) | exact rfl | (simp only [lns] at *; omega) | decide | (unfold inI64; decide)); conv => whnf) | decide | assumption)
   all_goals try (exfalso; omega)
   refine .weak _ ?_
   conv => whnf
   exact ⟨.tup [.d (.bool (decide (e = 0 ∧ costN r l l.length = bouN n r p))), .d (.int .i64 e)], _, SV.le_tup ⟨SV.le_bool (decide_eq_false (fun q => h0 q.1)).symm, lr, trivial⟩, ⟨rfl, rfl⟩, trivial⟩
theorem ndOk_of {l : List Ned} (h : allK ndS 5 l) : ndOk l := ⟨by have := h.1; omega, fun x hx => by have h1 : x.st.length ≤ 8 := h.2 x hx; show x.st.length ≤ 2^40; omega⟩
theorem rdOk_of {l : List Roa} (h : allK rdS 25 l) : rdOk l := ⟨by have := h.1; omega, fun x hx => by have h1 := h.2 x hx; exact ⟨by have := h1.1; omega, by have := h1.2; omega⟩⟩
theorem mvOk_of {l : List Mov} (h : allK mvG 100 l) : mvOk l := ⟨by have := h.1; omega, fun x hx => by have h1 := h.2 x hx; exact ⟨by have := h1.1; omega, by have := h1.2; omega⟩⟩
theorem plnE_eq {n : List Ned} {r : List Roa} {l : List Mov} (h : firstE [ndsE n, rdsE r, mvsE l] = 0) : plnE n r l = planE n r l := by
 unfold plnE; rw [h, if_neg (fun q => q rfl)]
def oVPiE20_5 : List (Nat × List Nat) := [(0, []), (1, [0]), (2, [0]), (3, [0, 1, 2]), (4, [0, 1, 2, 3]), (5, [0, 1, 2]), (6, [0]), (7, [0]), (8, []), (9, [])]
abbrev puB (l : List Pri) : Res := seqB 95 2 puF pr00 l
set_option maxHeartbeats 4000000 in
theorem sPrs (n : Nat) (L : Nat → Int) (hL : Rok n L) (a : Int) (h0 : 0 ≤ a) (ha : a ≤ 2^36) (N : List Ned) (hN : N.length ≤ 5) :
 FSpec Tryz.prog 20 [.ptr 1000000 0, .d (neds N)] [(1000000, strm n L a)] (fun y r => (∃ l : List Pri, l.length ≤ 5 ∧ y = .d (pris l)) ∧ Moved n L a 100 r) := by
 refine spec_of hT (C := []) Tryz.func20 rfl Tryz.call20 rfl rfl rfl ?_
 conv => whnf
 repeat' (first | (refine br_intro ?_ ?_ <;> intro hb <;> (try simp only [brs] at hb) <;> conv => whnf) | (refine RegX.rule (id := 5) hT rfl [] oVPiE20_5 (by decide +kernel) ?_; conv => whnf) | omega | (refine And.intro ?_ ?_; ((try dsimp only); first | omega | (refine szA rfl ?_; omega) | (refine szB rfl ?_; omega) | (unfold inI64; omega) | exact rfl | (simp only [lns] at *; omega) | decide | (unfold inI64; decide)); conv => whnf) | decide | assumption)
 refine LoopX.rule hT (C := []) (ι := Int × Nat × List Pri) (fun (b, i, l) => (a ≤ b ∧ b ≤ a + i ∧ i ≤ N.length) ∧ l.length ≤ i)
  (fun (b, i, l) => mkSt [(0, .ptr 1000000 0), (5, .buf 5), (9, .d (neds N)), (10, .d (.int .i64 N.length)), (11, .d (.int .i64 i))] [(1000000, strm n L b), (5, puB l)]) (fun (_, i, _) => N.length - i) (a, 0, []) ⟨⟨by omega, by show a ≤ a + ((0 : Nat) : Int); omega, by omega⟩, by simp⟩ ?_ ?_
 · exact (Entails.nil 5 5 95 2 (rowF puF pr00 []) rfl rfl (by decide)).trans (by (refine Entails.mk' [(1000000, 1000000), (5, 5)] rfl rfl ?_ ?_ <;> repeat' (first | exact True.intro | exact lr | exact rr | exact SV.le_int (by omega) | exact SV.le_any _ | refine And.intro ?_ ?_)); done)
 rintro ⟨b, i, l⟩ ⟨⟨p1, p2, p3⟩, p4⟩
 have p1 : a ≤ b := p1
 have p2 : b ≤ a + i := p2
 have p3 : i ≤ N.length := p3
 have p4 : l.length ≤ i := p4
 rcases Nat.lt_or_ge i N.length with hin | hin
 · conv => whnf
   repeat' (first | (refine CallX.of (s33 n L hL _ ?_ ?_ [0, 0, 1, 2, 3, 5, 8, -2, 10000000] ?_ ?_) [(1000000, 1000000)] rfl ⟨lr, SV.le_lit rfl rfl, trivial⟩ ⟨rr, trivial⟩ rfl rfl ?_; rotate_right; rintro x rout ⟨⟨u, hu, rfl⟩, ⟨c, c1, c2, rfl⟩⟩; refine ⟨rfl, ?_⟩; conv => whnf) | (refine br_intro ?_ ?_ <;> intro hb <;> (try simp only [brs] at hb) <;> conv => whnf) | (refine RegX.rule (id := 5) hT rfl [] oVPiE20_5 (by decide +kernel) ?_; conv => whnf) | omega | (refine And.intro ?_ ?_; ((try dsimp only); first | omega | (refine szA rfl ?_; omega) | (refine szB rfl ?_; omega) | (unfold inI64; omega) | exact rfl | (simp only [lns] at *; omega) | decide | (unfold inI64; decide)); conv => whnf) | decide | assumption)
   all_goals try (exfalso; omega)
   refine ⟨(_, i + 1, l ++ [⟨(N.getD (i : Int).toNat nd0).st, u⟩]), ⟨⟨by omega, ?_, by omega⟩, by show (l ++ [_]).length ≤ i + 1; rw [List.length_append]; show l.length + 1 ≤ i + 1; omega⟩, (show N.length - (i + 1) < N.length - i by omega), Entails.mk' [(1000000, 1000000), (5, 23)] rfl rfl ⟨lr, lr, lr, lr, lr, trivial⟩ ⟨rr, Res.le_snocF rfl, trivial⟩⟩
   show _ ≤ a + ((i + 1 : Nat) : Int)
   omega
 have hl5 : l.length ≤ 5 := by omega
 conv => whnf
 repeat' (first | (refine CallX.of (s84 n L hL _ ?_ ?_ _ ?_) [(1000000, 1000000)] rfl ⟨lr, lr, trivial⟩ ⟨rr, trivial⟩ rfl rfl ?_; rotate_right; rintro x rout ⟨⟨f, rfl⟩, ⟨c, c1, c2, rfl⟩⟩; refine ⟨rfl, ?_⟩; conv => whnf) | (refine CallX.of (s86 n L hL _ ?_ ?_ _ ?_) [(1000000, 1000000)] rfl ⟨lr, lr, trivial⟩ ⟨rr, trivial⟩ rfl rfl ?_; rotate_right; rintro x rout ⟨⟨j, hj1, hj2, hj3, rfl⟩, ⟨c, c1, c2, rfl⟩⟩; refine ⟨rfl, ?_⟩; conv => whnf) | (refine CallX.of (s15 n L hL _ ?_ ?_ [(l.getD j.toNat pr00).st, [122]] (by simp) (by simp)) [(1000000, 1000000)] rfl ⟨lr, SV.le_lit rfl rfl, trivial⟩ ⟨rr, trivial⟩ rfl rfl ?_; rotate_right; rintro x rout ⟨⟨u1, hu1, rfl⟩, ⟨c, c1, c2, rfl⟩⟩; refine ⟨rfl, ?_⟩; conv => whnf) | (refine CallX.of (s104 n L hL _ ?_ ?_ (-10000000) 10000000 ?_ ?_ ?_) [(1000000, 1000000)] rfl ⟨lr, lr, lr, trivial⟩ ⟨rr, trivial⟩ rfl rfl ?_; rotate_right; rintro x rout ⟨⟨u3, hk1, hk2, rfl⟩, ⟨c, c1, c2, rfl⟩⟩; refine ⟨rfl, ?_⟩; conv => whnf) | (refine br_intro ?_ ?_ <;> intro hb <;> (try simp only [brs] at hb) <;> conv => whnf) | (refine RegX.rule (id := 5) hT rfl [] oVPiE20_5 (by decide +kernel) ?_; conv => whnf) | omega | (refine And.intro ?_ ?_; ((try dsimp only); first | omega | (refine szA rfl ?_; omega) | (refine szB rfl ?_; omega) | (unfold inI64; omega) | exact rfl | (simp only [lns] at *; omega) | decide | (unfold inI64; decide)); conv => whnf) | decide | assumption)
 all_goals try (exfalso; omega)
 all_goals first
  | (refine .freeze _ 5 95 2 _ _ rfl (.weak _ ?_)
     (conv => whnf)
     exact ⟨_, [(1000000, strm n L _)], lr, ⟨⟨l, hl5, rfl⟩, _, by omega, by omega, rfl⟩, rr, trivial⟩)
  | (refine .freeze _ 5 95 2 _ _ rfl (.weak _ ?_)
     (conv => whnf)
     refine ⟨_, [(1000000, strm n L _)], SV.le_upd2 (f := puF) (d := pr00) (fun y : Pri => { y with st := u1 }) (fun y => { y with cents := u3 }) (fun _ => rfl) (fun _ => rfl), ⟨⟨_, ?_, rfl⟩, _, by omega, by omega, rfl⟩, rr, trivial⟩
     simp only [List.length_set]; exact hl5)
theorem priceR_len {n : List Ned} {r : List Roa} {l : List Pri} {e : Int} (h : PriceR n r l e) : l.length ≤ n.length := by
 rcases h with ⟨_, _, h⟩ | ⟨_, ⟨_, _, h⟩ | ⟨⟨_, _, y, _, _, _, _, h⟩, _⟩⟩
 · rw [h]; exact Nat.zero_le _
 · rw [h]; exact Nat.zero_le _
 · rw [h, priL_len]; exact Nat.le_refl _
abbrev FlG (n : List Ned) (r : List Roa) (x : Nat → Int) : Prop := (nwG n r).Fl (kindB n) (getI (havL n)) (getI (wntL n)) x
theorem su_neg (F : Nat → Int) (n : Nat) : su (fun k => 0 - F k) n = 0 - su F n := by
 rw [su_sub (fun _ => 0) F n, su_zero (fun _ _ => rfl)]
theorem fl_le {n : List Ned} {r : List Roa} {x : Nat → Int} (hx : FlG n r x) {k : Nat} (hk : k < (nwG n r).K) : 0 ≤ x k ∧ x k ≤ havF n ((nwG n r).fr k) ∧ x k ≤ wntF n ((nwG n r).to k) := by
 have hB := nwG_bip n r
 obtain ⟨f1, f2⟩ := hB.fr k hk
 obtain ⟨t1, t2⟩ := hB.to k hk
 refine ⟨hx.g0 k hk, ?_, ?_⟩
 · have h1 := hx.src _ f1 f2
   rw [getI_hav f1] at h1
   have h2 : (if (nwG n r).fr k = (nwG n r).fr k then x k else 0) - (if (nwG n r).to k = (nwG n r).fr k then x k else 0) ≤ (nwG n r).net x ((nwG n r).fr k) := by
    refine le_su (F := fun j => (if (nwG n r).fr j = (nwG n r).fr k then x j else 0) - (if (nwG n r).to j = (nwG n r).fr k then x j else 0)) (fun j hj => ?_) hk
    have h0 := hx.g0 j hj
    have : ¬ (nwG n r).to j = (nwG n r).fr k := fun q => by have := (hB.to j hj).2; rw [q, f2] at this; cases this
    simp only [if_neg this]
    split <;> omega
   have h3 : ¬ (nwG n r).to k = (nwG n r).fr k := fun q => by rw [q, f2] at t2; cases t2
   rw [if_pos rfl, if_neg h3] at h2
   omega
 · have h1 := hx.dst _ t1 t2
   rw [getI_wnt t1] at h1
   have h2 : 0 - ((if (nwG n r).fr k = (nwG n r).to k then x k else 0) - (if (nwG n r).to k = (nwG n r).to k then x k else 0)) ≤ su (fun j => 0 - ((if (nwG n r).fr j = (nwG n r).to k then x j else 0) - (if (nwG n r).to j = (nwG n r).to k then x j else 0))) (nwG n r).K := by
    refine le_su (F := fun j => 0 - ((if (nwG n r).fr j = (nwG n r).to k then x j else 0) - (if (nwG n r).to j = (nwG n r).to k then x j else 0))) (fun j hj => ?_) hk
    have h0 := hx.g0 j hj
    have : ¬ (nwG n r).fr j = (nwG n r).to k := fun q => by have := (hB.fr j hj).2; rw [q, t2] at this; cases this
    simp only [if_neg this]
    split <;> omega
   rw [su_neg] at h2
   have h3 : ¬ (nwG n r).fr k = (nwG n r).to k := fun q => by rw [q, t2] at f2; cases f2
   rw [if_pos rfl, if_neg h3] at h2
   have h4 : (nwG n r).net x ((nwG n r).to k) = su (fun j => (if (nwG n r).fr j = (nwG n r).to k then x j else 0) - (if (nwG n r).to j = (nwG n r).to k then x j else 0)) (nwG n r).K := rfl
   omega
theorem bou_le {n : List Ned} {r : List Roa} (hn : ndsE n = 0) (hr : rdsE r = 0) (P : List Pri) {x : Nat → Int} (hx : FlG n r x) : bouN n r P ≤ (nwG n r).cost x := by
 have hG := (nwG_ok (n := n) hr).1
 have hB := nwG_bip n r
 have hd := Nw.dual hG x (pc P)
 have h1 : su (buF n P) n.length ≤ su (fun v => 0 - pc P v * (nwG n r).net x v) n.length := su_le fun v hv => by
  have hbv := havF_bd hn v
  cases hk : kindB n v with
  | true =>
    have k1 := hx.src v hv hk
    have k2 := hB.net_src hx.g0 hk
    have k3 := kindB_get.2 hk
    rw [getI_hav hv] at k1
    have e2 : wntF n v = 0 := by unfold wntF; omega
    unfold buF
    rw [e2, Int.zero_mul]
    have key : pc P v * (nwG n r).net x v ≤ havF n v * max 0 (pc P v) := by
     by_cases hp : 0 ≤ pc P v
     · rw [show max 0 (pc P v) = pc P v by omega, Int.mul_comm (havF n v)]
       exact Int.mul_le_mul_of_nonneg_left k1 hp
     · rw [show max 0 (pc P v) = 0 by omega, Int.mul_zero]
       have := Int.mul_le_mul_of_nonneg_right (show pc P v ≤ 0 by omega) k2
       rwa [Int.zero_mul] at this
    omega
  | false =>
    have k1 := hx.dst v hv hk
    have k3 := kindB_get.1 hk
    rw [getI_wnt hv] at k1
    have e2 : havF n v = 0 := by unfold havF; omega
    unfold buF
    rw [e2, Int.zero_mul, k1, Int.mul_neg, Int.mul_comm (pc P v)]
    omega
 rw [su_neg (fun v => pc P v * (nwG n r).net x v)] at h1
 have h2 : su (fun k => x k * (pc P ((nwG n r).to k) - pc P ((nwG n r).fr k))) (nwG n r).K ≤ su (fun k => buX n P ((arL n r).getD k a30) + x k * (nwG n r).c k) (nwG n r).K := su_le fun k hk => by
  obtain ⟨f0, f1, f2⟩ := fl_le hx hk
  obtain ⟨D, hD⟩ : ∃ D, pc P ((nwG n r).to k) - pc P ((nwG n r).fr k) - (nwG n r).c k = D := ⟨_, rfl⟩
  have e1 : pc P ((nwG n r).to k) - pc P ((nwG n r).fr k) = D + (nwG n r).c k := by omega
  have e2 : buX n P ((arL n r).getD k a30) = max 0 D * min (havF n ((nwG n r).fr k)) (wntF n ((nwG n r).to k)) := by rw [← hD]; rfl
  rw [e1, e2, Int.mul_add]
  have key : x k * D ≤ max 0 D * min (havF n ((nwG n r).fr k)) (wntF n ((nwG n r).to k)) := by
   by_cases hp : 0 ≤ D
   · rw [show max 0 D = D by omega, Int.mul_comm (x k)]
     exact Int.mul_le_mul_of_nonneg_left (by omega) hp
   · rw [show max 0 D = 0 by omega, Int.zero_mul]
     have := Int.mul_le_mul_of_nonneg_left (show D ≤ 0 by omega) f0
     rwa [Int.mul_zero] at this
  omega
 rw [su_add] at h2
 have e3 : (nwG n r).cost x = su (fun k => x k * (nwG n r).c k) (nwG n r).K := rfl
 have e4 : (nwG n r).N = n.length := rfl
 have e5 : bouN n r P = su (buF n P) n.length - su (fun j => buX n P ((arL n r).getD j a30)) (nwG n r).K := rfl
 rw [e4] at hd
 rw [e3, e5]
 rw [hd] at h2
 omega
abbrev stFr (n : List Ned) (r : List Roa) (k : Nat) : List UInt8 := (n.getD ((nwG n r).fr k) nd0).st
abbrev stTo (n : List Ned) (r : List Roa) (k : Nat) : List UInt8 := (n.getD ((nwG n r).to k) nd0).st
theorem manyN_at {n : List Ned} {s : List UInt8} (h : manyN n s ≠ 0) : ∃ u, u < n.length ∧ (n.getD u nd0).st = s ∧ manyP n u = manyN n s := by
 have hb := ixF_bd (p := fun j => (n.getD j nd0).st == s) (n := n.length)
 unfold manyN at h ⊢
 by_cases h0 : 0 ≤ nedX n s
 · rw [if_pos h0] at h ⊢
   have h1 := hb.2.2 h0
   have h2 : (n.getD (nedX n s).toNat nd0).st = s := eq_of_beq h1
   have hlt : nedX n s < n.length := hb.2.1
   exact ⟨(nedX n s).toNat, by omega, h2, rfl⟩
 · rw [if_neg h0] at h; exact absurd rfl h
abbrev onK (n : List Ned) (r : List Roa) (m : Mov) (k : Nat) : Prop := m.a = stFr n r k ∧ m.b = stTo n r k
theorem mov_way {n : List Ned} {r : List Roa} (hn : ndsE n = 0) {m : Mov} (h1 : 0 < manyN n m.a) (h2 : manyN n m.b < 0) (h3 : (roadO r m.a m.b).isSome = true) :
 ∃ k, k < (nwG n r).K ∧ (∀ k', k' < (nwG n r).K → (onK n r m k' ↔ k = k')) ∧ (nwG n r).c k = ((roadO r m.a m.b).getD rd0).car := by
 obtain ⟨u, hu, hus, hum⟩ := manyN_at (n := n) (s := m.a) (by omega)
 obtain ⟨v, hv, hvs, hvm⟩ := manyN_at (n := n) (s := m.b) (by omega)
 obtain ⟨y, hy⟩ : ∃ y, roadO r m.a m.b = some y := by
  cases q : roadO r m.a m.b with
  | none => rw [q] at h3; cases h3
  | some y => exact ⟨y, rfl⟩
 have hw : wayO n r u v = some y.car := by unfold wayO; rw [hus, hvs, hy]; rfl
 have hmem : (⟨u, v, y.car⟩ : Ar3) ∈ arL n r := by
  unfold arL
  rw [List.mem_flatMap]
  refine ⟨u, List.mem_range.2 hu, ?_⟩
  unfold arRow
  rw [List.mem_filterMap]
  refine ⟨v, List.mem_range.2 hv, ?_⟩
  rw [if_pos ⟨by omega, by omega⟩, hw]; rfl
 obtain ⟨k, hk, hke⟩ := List.getElem_of_mem hmem
 have hg : (arL n r).getD k a30 = ⟨u, v, y.car⟩ := by rw [List.getD_eq_getElem?_getD, List.getElem?_eq_getElem hk, hke]; rfl
 have ef : (nwG n r).fr k = u := by show ((arL n r).getD k a30).fr = u; rw [hg]
 have et : (nwG n r).to k = v := by show ((arL n r).getD k a30).to = v; rw [hg]
 refine ⟨k, hk, fun k' hk' => ⟨fun ⟨q1, q2⟩ => ?_, fun q => ?_⟩, ?_⟩
 · have hm := arL_mem (nwG_at hk')
   have e1 : ((arL n r).getD k' a30).fr = u := ned_inj hn hm.1.1 hu (q1.symm.trans hus.symm)
   have e2 : ((arL n r).getD k' a30).to = v := ned_inj hn hm.2.1.1 hv (q2.symm.trans hvs.symm)
   have f1 : ((arL n r).getD k a30).fr = u := ef
   have f2 : ((arL n r).getD k a30).to = v := et
   rcases Nat.lt_trichotomy k k' with w | w | w
   · have := nwG_inc w hk'; omega
   · exact w
   · have := nwG_inc w hk; omega
 · subst q
   unfold onK stFr stTo
   rw [ef, et]; exact ⟨hus.symm, hvs.symm⟩
 · show ((arL n r).getD k a30).car = _
   rw [hg, hy]; rfl
def flM (n : List Ned) (r : List Roa) (l : List Mov) (k : Nat) : Int := lsm (fun m => if onK n r m k then m.many else 0) l
theorem lsm_cons {α : Type} (g : α → Int) (x : α) (l : List α) : lsm g (x :: l) = g x + lsm g l := by unfold lsm; rw [List.map_cons, List.sum_cons]
theorem lsm_congr {α : Type} {g h : α → Int} : ∀ {l : List α}, (∀ x ∈ l, g x = h x) → lsm g l = lsm h l
 | [], _ => rfl
 | x :: l, e => by rw [lsm_cons, lsm_cons, e x (by simp), lsm_congr fun y hy => e y (by simp [hy])]
theorem flM_sum (n : List Ned) (r : List Roa) (g : Nat → Int) (K : Nat) : ∀ l, su (fun k => g k * flM n r l k) K = lsm (fun m => m.many * su (fun k => if onK n r m k then g k else 0) K) l
 | [] => su_zero fun k _ => Int.mul_zero _
 | m :: l => by
   rw [lsm_cons, ← flM_sum n r g K l, ← su_mul, ← su_add]
   refine su_congr fun k _ => ?_
   unfold flM
   rw [lsm_cons, Int.mul_add]
   by_cases q : onK n r m k
   · rw [if_pos q, if_pos q, Int.mul_comm]
   · rw [if_neg q, if_neg q, Int.mul_zero, Int.mul_zero]
theorem flM_nn {n : List Ned} {r : List Roa} {k : Nat} : ∀ {l : List Mov}, (∀ m ∈ l, 0 ≤ m.many) → 0 ≤ flM n r l k
 | [], _ => Int.le_refl _
 | m :: l, h => by
   have h1 := flM_nn (n := n) (r := r) (k := k) (l := l) fun x hx => h x (by simp [hx])
   have h2 := h m (by simp)
   unfold flM at h1 ⊢
   rw [lsm_cons]
   split <;> omega
theorem mvdN_lsm (l : List Mov) (s : List UInt8) : mvdN l s l.length = lsm (fun m => (if m.a = s then m.many else 0) - (if m.b = s then m.many else 0)) l := by
 rw [← lsm_su _ mv0]
 have : ∀ k, mvdN l s k = su (fun j => (if (l.getD j mv0).a = s then (l.getD j mv0).many else 0) - (if (l.getD j mv0).b = s then (l.getD j mv0).many else 0)) k := fun k => by
  induction k with
  | zero => rfl
  | succ k ih => rw [mvdN, su, ih]; omega
 exact this _
theorem net_nil {n : List Ned} {r : List Roa} {x : Nat → Int} {v : Nat} (h : manyP n v = 0) : (nwG n r).net x v = 0 := su_zero fun k hk => by
 have hm := arL_mem (nwG_at hk)
 have h1 : ¬ (nwG n r).fr k = v := fun q => by have := hm.1.2; have q : ((arL n r).getD k a30).fr = v := q; rw [q] at this; omega
 have h2 : ¬ (nwG n r).to k = v := fun q => by have := hm.2.1.2; have q : ((arL n r).getD k a30).to = v := q; rw [q] at this; omega
 rw [if_neg h1, if_neg h2]; rfl
theorem mem_at {α : Type} {l : List α} {x d : α} (h : x ∈ l) : ∃ i, i < l.length ∧ l.getD i d = x := by
 obtain ⟨i, hi, e⟩ := List.getElem_of_mem h
 exact ⟨i, hi, by rw [List.getD_eq_getElem?_getD, List.getElem?_eq_getElem hi, e]; rfl⟩
theorem planE_zero {n : List Ned} {r : List Roa} {l : List Mov} (h : planE n r l = 0) : (∀ i, i < l.length → onPlan n r l i = 0) ∧ ∀ v, v < n.length → sumE n l v = 0 := by
 unfold planE at h
 split at h
 · rename_i q; exact absurd h q
 · rename_i q
   exact ⟨firstAt_all (Classical.not_not.1 q), firstAt_all h⟩
theorem plan_flow {n : List Ned} {r : List Roa} {l : List Mov} (hn : ndsE n = 0) (hm : mvsE l = 0) (hp : planE n r l = 0) : FlG n r (flM n r l) ∧ (nwG n r).cost (flM n r l) = costN r l l.length := by
 obtain ⟨h1, h2⟩ := planE_zero hp
 have hw : ∀ m ∈ l, 1 ≤ m.many ∧ ∃ k, k < (nwG n r).K ∧ (∀ k', k' < (nwG n r).K → (onK n r m k' ↔ k = k')) ∧ (nwG n r).c k = ((roadO r m.a m.b).getD rd0).car := fun m hml => by
  obtain ⟨i, hi, rfl⟩ := mem_at (d := mv0) hml
  have h3 := h1 i hi
  unfold onPlan at h3
  simp only at h3
  refine ⟨(mov_bd hm hi).1, mov_way hn ?_ ?_ ?_⟩
  · grind
  · grind
  · grind
 have hsum : ∀ g : Nat → Int, ∀ m ∈ l, ∃ k, k < (nwG n r).K ∧ onK n r m k ∧ (nwG n r).c k = ((roadO r m.a m.b).getD rd0).car ∧ su (fun k => if onK n r m k then g k else 0) (nwG n r).K = g k := fun g m hml => by
  obtain ⟨_, k, hk, hu, hc⟩ := hw m hml
  refine ⟨k, hk, (hu k hk).2 rfl, hc, ?_⟩
  rw [su_congr (H := fun k' => if k = k' then g k else 0) fun k' hk' => ?_, su_one hk]
  by_cases q : k = k'
  · subst q; rw [if_pos rfl, if_pos ((hu k hk').2 rfl)]
  · rw [if_neg q, if_neg (fun z => q ((hu k' hk').1 z))]
 have hnet : ∀ v, v < n.length → (nwG n r).net (flM n r l) v = mvdN l (n.getD v nd0).st l.length := fun v hv => by
  have e1 : (nwG n r).net (flM n r l) v = su (fun k => ((if (nwG n r).fr k = v then 1 else 0) - (if (nwG n r).to k = v then 1 else 0)) * flM n r l k) (nwG n r).K := su_congr fun k _ => by
   rw [Int.sub_mul]
   split <;> split <;> simp
  rw [e1, flM_sum, mvdN_lsm]
  refine lsm_congr fun m hml => ?_
  obtain ⟨k, hk, ho, _, hs⟩ := hsum (fun k => (if (nwG n r).fr k = v then 1 else 0) - (if (nwG n r).to k = v then 1 else 0)) m hml
  rw [hs]
  have hmem := arL_mem (nwG_at hk)
  have q1 : (nwG n r).fr k = v ↔ m.a = (n.getD v nd0).st := ⟨fun q => by subst q; exact ho.1, fun q => ned_inj hn hmem.1.1 hv (ho.1.symm.trans q)⟩
  have q2 : (nwG n r).to k = v ↔ m.b = (n.getD v nd0).st := ⟨fun q => by subst q; exact ho.2, fun q => ned_inj hn hmem.2.1.1 hv (ho.2.symm.trans q)⟩
  simp only [q1, q2, Int.mul_sub]
  congr 1 <;> split <;> simp
 refine ⟨⟨fun k hk => flM_nn fun m hml => by have := (hw m hml).1; omega, fun v hv hk => ?_, fun v hv hk => ?_⟩, ?_⟩
 · have k3 := kindB_get.2 hk
   have h3 := h2 v hv
   rw [getI_hav hv]
   by_cases q : manyP n v = 0
   · rw [net_nil q]; unfold havF; omega
   · rw [hnet v hv]
     unfold sumE at h3
     simp only at h3
     have k4 : 0 < (n.getD v nd0).many := by unfold manyP at k3 q; omega
     unfold havF manyP
     grind
 · have k3 := kindB_get.1 hk
   have h3 := h2 v hv
   rw [getI_wnt hv, hnet v hv]
   unfold sumE at h3
   simp only at h3
   have k4 : (n.getD v nd0).many < 0 := k3
   unfold wntF manyP
   grind
 · have e1 : (nwG n r).cost (flM n r l) = su (fun k => (nwG n r).c k * flM n r l k) (nwG n r).K := su_congr fun k _ => Int.mul_comm _ _
   rw [e1, flM_sum, costN_lsm]
   refine lsm_congr fun m hml => ?_
   obtain ⟨k, hk, ho, hc, hs⟩ := hsum (nwG n r).c m hml
   rw [hs, hc]; rfl
theorem lsV_mem2 {n : List Ned} {r : List Roa} : ∀ (m a : Nat) (x : Nat → Int), ∀ y ∈ lsV (mvN n r) m a x, ∃ k, k < m ∧ 0 < x k ∧ y = mvN n r (a + k) (x k)
 | 0, _, _, y, hy => by cases hy
 | m + 1, a, x, y, hy => by
   rw [lsV] at hy
   rcases List.mem_append.1 hy with z | z
   · split at z
     · rename_i q
       exact ⟨0, by omega, q, by simpa using z⟩
     · cases z
   · obtain ⟨k, hk, h0, e⟩ := lsV_mem2 m (a + 1) (vtl x) y z
     exact ⟨k + 1, by omega, h0, by rw [e, show a + 1 + k = a + (k + 1) by omega]; rfl⟩
theorem lsV_len {n : List Ned} {r : List Roa} : ∀ (m a : Nat) (x : Nat → Int), (lsV (mvN n r) m a x).length ≤ m
 | 0, _, _ => Nat.le_refl _
 | m + 1, a, x => by
   have := lsV_len (n := n) (r := r) m (a + 1) (vtl x)
   rw [lsV, List.length_append]
   split
   · show 1 + _ ≤ _; omega
   · show 0 + _ ≤ _; omega
theorem lsV_inc {n : List Ned} {r : List Roa} (hn : ndsE n = 0) : ∀ (m a : Nat) (x : Nat → Int), a + m ≤ (nwG n r).K → (lsV (mvN n r) m a x).Pairwise fun p q => endLt p.a p.b q.a q.b
 | 0, _, _, _ => List.Pairwise.nil
 | m + 1, a, x, ha => by
   rw [lsV, List.pairwise_append]
   refine ⟨?_, lsV_inc hn m (a + 1) (vtl x) (by omega), fun p hp q hq => ?_⟩
   · split
     · exact List.pairwise_singleton _ _
     · exact List.Pairwise.nil
   · split at hp
     · have hp : p = mvN n r a (x 0) := by simpa using hp
       obtain ⟨k, hk, _, e⟩ := lsV_mem2 m (a + 1) (vtl x) q hq
       rw [hp, e]
       have hK : a + 1 + k < (nwG n r).K := by omega
       have hm := arL_mem (nwG_at (n := n) (r := r) hK)
       rcases nwG_inc (n := n) (r := r) (show a < a + 1 + k by omega) hK with w | ⟨w1, w2⟩
       · exact .inl (nds_inc hn w hm.1.1)
       · exact .inr ⟨by show (n.getD ((arL n r).getD a a30).fr nd0).st = _; rw [w1]; rfl, nds_inc hn w2 hm.2.1.1⟩
     · cases hp
theorem lsV_lsm {n : List Ned} {r : List Roa} (g : Mov → Int) : ∀ (m a : Nat) (x : Nat → Int), lsm g (lsV (mvN n r) m a x) = su (fun k => if 0 < x k then g (mvN n r (a + k) (x k)) else 0) m
 | 0, _, _ => rfl
 | m + 1, a, x => by
   rw [lsV, lsm_app, lsV_lsm g m (a + 1) (vtl x), su_cons]
   have e2 : su (fun k => if 0 < vtl x k then g (mvN n r (a + 1 + k) (vtl x k)) else 0) m = su (fun k => if 0 < x (k + 1) then g (mvN n r (a + (k + 1)) (x (k + 1))) else 0) m := su_congr fun k _ => by
    show (if 0 < x (k + 1) then _ else _) = _
    rw [show a + 1 + k = a + (k + 1) by omega]; rfl
   rw [e2]
   congr 1
   split
   · rw [lsm_cons]; show _ + 0 = _; rw [Int.add_zero]; rfl
   · rfl
theorem ned_key {n : List Ned} (hn : ndsE n = 0) {i : Nat} (hi : i < n.length) : isKeyB (n.getD i nd0).st = true := by
 have := (nds_all hn).2 i hi
 unfold ndE at this
 simp only at this
 grind
theorem flow_plan {n : List Ned} {r : List Roa} (hn : ndsE n = 0) {x : Nat → Int} (hx : FlG n r x) : mvsE (lsV (mvN n r) (nwG n r).K 0 x) = 0 ∧ planE n r (lsV (mvN n r) (nwG n r).K 0 x) = 0 := by
 have hlen := lsV_len (n := n) (r := r) (nwG n r).K 0 x
 have hK : (nwG n r).K ≤ 100 := arL_len hn r
 have hinc := List.pairwise_iff_getElem.1 (lsV_inc (r := r) hn (nwG n r).K 0 x (by omega))
 have hmem := lsV_mem2 (n := n) (r := r) (nwG n r).K 0 x
 have hs : ∀ v, v < n.length → mvdN (lsV (mvN n r) (nwG n r).K 0 x) (n.getD v nd0).st (lsV (mvN n r) (nwG n r).K 0 x).length = (nwG n r).net x v := fun v hv => by
  rw [mvdN_lsm, lsV_lsm]
  refine su_congr fun k hk => ?_
  have h0 := hx.g0 k hk
  have hm := arL_mem (nwG_at hk)
  have q1 : (nwG n r).fr k = v ↔ (mvN n r (0 + k) (x k)).a = (n.getD v nd0).st := by
   rw [Nat.zero_add]
   exact ⟨fun q => by subst q; rfl, fun q => ned_inj hn hm.1.1 hv q⟩
  have q2 : (nwG n r).to k = v ↔ (mvN n r (0 + k) (x k)).b = (n.getD v nd0).st := by
   rw [Nat.zero_add]
   exact ⟨fun q => by subst q; rfl, fun q => ned_inj hn hm.2.1.1 hv q⟩
  simp only [q1, q2]
  have e : (mvN n r (0 + k) (x k)).many = x k := rfl
  rw [e]
  by_cases hp : 0 < x k
  · rw [if_pos hp]
  · rw [if_neg hp, show x k = 0 by omega]; simp
 generalize lsV (mvN n r) (nwG n r).K 0 x = l at *
 have hat : ∀ i, i < l.length → ∃ k, k < (nwG n r).K ∧ 0 < x k ∧ l.getD i mv0 = mvN n r k (x k) := fun i hi => by
  obtain ⟨k, hk, h0, e⟩ := hmem (l.getD i mv0) (getD_mem hi)
  exact ⟨k, hk, h0, by rw [e, Nat.zero_add]⟩
 constructor
 · unfold mvsE
   rw [if_neg (by omega)]
   refine firstAt_zero fun i hi => ?_
   have hord : ¬ (0 < i ∧ 0 ≤ endsC (l.getD (i - 1) mv0).a (l.getD (i - 1) mv0).b (l.getD i mv0).a (l.getD i mv0).b) := fun ⟨q1, q2⟩ => by
    have h1 := hinc (i - 1) i (by omega) hi (by omega)
    have e1 : l.getD (i - 1) mv0 = l[i - 1] := by rw [List.getD_eq_getElem?_getD, List.getElem?_eq_getElem (by omega)]; rfl
    have e2 : l.getD i mv0 = l[i] := by rw [List.getD_eq_getElem?_getD, List.getElem?_eq_getElem hi]; rfl
    rw [e1, e2] at q2
    have := endsC_lt.2 h1
    omega
   unfold mvE
   simp only
   rw [if_neg (c := 0 < i ∧ _) hord]
   obtain ⟨k, hk, h0, e⟩ := hat i hi
   rw [e]
   have hm := arL_mem (nwG_at hk)
   have hfl := fl_le hx hk
   have hbd := (havF_bd hn ((nwG n r).fr k)).1
   have hka : isKeyB (mvN n r k (x k)).a = true := ned_key hn hm.1.1
   have hkb : isKeyB (mvN n r k (x k)).b = true := ned_key hn hm.2.1.1
   have hab : ¬ (mvN n r k (x k)).a = (mvN n r k (x k)).b := fun q => by
    have := ned_inj hn hm.1.1 hm.2.1.1 q
    have h1 := hm.1.2
    have h2 := hm.2.1.2
    rw [this] at h1; omega
   have hmn : (mvN n r k (x k)).many = x k := rfl
   rw [if_neg (by rw [hka, hkb]; simp), if_neg hab, hmn, if_neg (by omega)]
 · have hon : ∀ i, i < l.length → onPlan n r l i = 0 := fun i hi => by
    obtain ⟨k, hk, h0, e⟩ := hat i hi
    have hm := arL_mem (nwG_at hk)
    unfold onPlan
    simp only
    rw [e]
    have h1 : manyN n (mvN n r k (x k)).a = manyP n ((arL n r).getD k a30).fr := manyN_eq hn hm.1.1
    have h2 : manyN n (mvN n r k (x k)).b = manyP n ((arL n r).getD k a30).to := manyN_eq hn hm.2.1.1
    have h3 : (roadO r (mvN n r k (x k)).a (mvN n r k (x k)).b).isSome = true := by
     have := hm.2.2
     unfold wayO at this
     rw [Option.map_eq_some_iff] at this
     obtain ⟨y, hy, _⟩ := this
     show (roadO r (n.getD ((arL n r).getD k a30).fr nd0).st (n.getD ((arL n r).getD k a30).to nd0).st).isSome = true
     rw [hy]; rfl
    have h4 := hm.1.2
    have h5 := hm.2.1.2
    rw [h1, h2, h3, if_neg (by omega), if_neg (by simp)]
   unfold planE
   rw [if_neg (fun q => q (firstAt_zero hon))]
   refine firstAt_zero fun v hv => ?_
   unfold sumE
   simp only
   rw [hs v hv]
   refine if_neg fun q => ?_
   have e0 : manyP n v = (n.getD v nd0).many := rfl
   rcases q with ⟨q1, q2⟩ | ⟨q1, q2⟩
   · have hk : kindB n v = true := by unfold kindB; simp; omega
     have := hx.src v hv hk
     rw [getI_hav hv] at this
     unfold havF at this; omega
   · have hk : kindB n v = false := by unfold kindB; simp; omega
     have := hx.dst v hv hk
     rw [getI_wnt hv] at this
     unfold wntF at this; omega
def oVDNtA88_8 : List (Nat × List Nat) := [(0, []), (1, []), (2, []), (3, []), (4, []), (5, [3, 4]), (6, [3, 4, 5]), (7, [3, 4, 5]), (8, [3, 4]), (9, [3, 4]), (10, [3, 4]), (11, []), (12, []), (13, [])]
def oVDNtA66_1 : List (Nat × List Nat) := [(0, []), (2, [0]), (3, [0]), (5, [0, 2, 3]), (7, [0, 2, 3, 5]), (8, [0, 2, 3, 5, 7]), (9, [0, 2, 3, 5, 7]), (10, [0, 2, 3, 5]), (1, [2, 3, 5, 7, 8, 9, 10]), (4, [5, 7, 8, 9, 10]), (6, [7, 8, 9, 10]), (11, []), (12, []), (13, []), (14, [])]
def oVDNtA66_5 : List (Nat × List Nat) := [(0, []), (1, []), (2, [0, 1]), (3, [0, 1, 2]), (4, [0, 1, 2]), (5, [0, 1]), (6, [0, 1]), (7, [0, 1, 2, 3, 4, 5, 6]), (8, [0, 1, 2, 3, 4, 5, 6]), (9, [0, 1]), (10, [0, 1, 2, 3, 4, 5, 6, 7, 8, 9]), (11, [0, 1, 2, 3, 4, 5, 6, 7, 8, 9]), (12, [0, 1]), (13, []), (14, []), (15, [])]
structure Ntr where
 name : Int
 pay : Int
 step : Int
 late : Int
def ntrF : Ntr → List DV := fun r => [.int .i64 r.name, .int .i64 r.pay, .int .i64 r.step, .int .i64 r.late]
structure Ntc where
 key : List UInt8
 plate : List UInt8
 tm : Int
 came : Int
 cents : Int
def ntcF : Ntc → List DV := fun n => [.str n.key, .str n.plate, .int .i64 n.tm, .int .i64 n.came, .int .i64 n.cents]
def ntc0 : Ntc := ⟨[], [], 0, 0, 0⟩
abbrev ntcs (l : List Ntc) : DV := seqD 5 ntcF ntc0 l
def ntrE (r : Ntr) : Int := if (0 ≤ r.name ∧ r.name ≤ 4000) ∧ (0 ≤ r.pay ∧ r.pay ≤ 4000) ∧ (1 ≤ r.step ∧ r.step ≤ 4000) ∧ (0 ≤ r.late ∧ r.late ≤ 1000000) then 0 else 1
def ntcE (l : List Ntc) (i : Nat) : Int :=
 if isKeyB (l.getD i ntc0).key = false then 5 else if 0 < i ∧ strLe (l.getD i ntc0).key (l.getD (i - 1) ntc0).key = true then 7 else if isPlateB (l.getD i ntc0).plate = false then 3
 else if ¬ ((0 ≤ (l.getD i ntc0).tm ∧ (l.getD i ntc0).tm ≤ (l.getD i ntc0).came) ∧ (0 ≤ (l.getD i ntc0).came ∧ (l.getD i ntc0).came ≤ 5761439) ∧ (0 ≤ (l.getD i ntc0).cents ∧ (l.getD i ntc0).cents ≤ 1000000)) then 1 else 0
def ntcsE (l : List Ntc) : Int := if 200 < l.length then 2 else firstAt (ntcE l) l.length
def ntK (n : Ntc) : Prop := n.key.length ≤ 2^40 ∧ n.plate.length ≤ 2^40
def ntOk (l : List Ntc) : Prop := l.length ≤ 2^40 ∧ ∀ x ∈ l, ntK x
theorem sNtRules (r : Ntr) : FSpec Tryz.prog 87 [.agg ((ntrF r).map .d)] [] (fun x o => x = .d (.int .i64 (ntrE r)) ∧ o = []) := by
 refine spec_of hT (C := []) Tryz.func87 rfl Tryz.call87 rfl rfl rfl ?_
 conv => whnf
 repeat' (first | (refine CallX.exact (s119 _ _ _) rfl rfl ?_; rotate_right; conv => whnf) | (refine CallX.exact (s107 _ _) rfl rfl ?_; rotate_right; conv => whnf) | (refine br_intro ?_ ?_ <;> intro hb <;> (try simp only [brs] at hb) <;> conv => whnf) | omega | (refine And.intro ?_ ?_; ((try dsimp only); first | omega | (refine szA rfl ?_; omega) | (refine szB rfl ?_; omega) | (unfold inI64; omega) | exact rfl | (simp only [lns] at *; omega) | decide | (unfold inI64; decide)); conv => whnf) | decide | assumption)
 all_goals
  refine .ret _ ?_
  conv => whnf
  refine ⟨[], ⟨?_, rfl⟩, trivial⟩
  conv => lhs; whnf
  congr 2
  unfold ntrE; grind
theorem sMoment (n : Int) : FSpec Tryz.prog 89 [.d (.int .i64 n)] [] (fun x o => x = .d (.int .i64 (if 0 ≤ n ∧ n ≤ 5761439 then 0 else 1)) ∧ o = []) := by
 refine spec_of hT (C := []) Tryz.func89 rfl Tryz.call89 rfl rfl rfl ?_
 conv => whnf
 repeat' (first | (refine CallX.exact (s154 _) rfl rfl ?_; rotate_right; conv => whnf) | (refine CallX.exact (s107 _ _) rfl rfl ?_; rotate_right; conv => whnf) | (refine br_intro ?_ ?_ <;> intro hb <;> (try simp only [brs] at hb) <;> conv => whnf) | omega | (refine And.intro ?_ ?_; ((try dsimp only); first | omega | (refine szA rfl ?_; omega) | (refine szB rfl ?_; omega) | (unfold inI64; omega) | exact rfl | (simp only [lns] at *; omega) | decide | (unfold inI64; decide)); conv => whnf) | decide | assumption)
 refine .ret _ ?_
 conv => whnf
 refine ⟨[], ⟨?_, rfl⟩, trivial⟩
 conv => lhs; whnf
 congr 2
 grind
theorem sNotices (l : List Ntc) (hk : ntOk l) : FSpec Tryz.prog 88 [.d (ntcs l)] [] (fun x r => x = .d (.int .i64 (ntcsE l)) ∧ r = []) := by
 refine spec_of hT (C := []) Tryz.func88 rfl Tryz.call88 rfl rfl rfl ?_
 conv => whnf
 refine br_intro (fun h0 => ?_) (fun h0 => ?_)
 · simp at h0
   conv => whnf
   refine .ret _ ?_
   conv => whnf
   refine ⟨[], ⟨?_, rfl⟩, trivial⟩
   conv => lhs; whnf
   unfold ntcsE; rw [if_pos (by omega)]
 simp at h0
 conv => whnf
 refine LoopX.rule hT (C := []) (ι := Nat) (fun i => i ≤ l.length ∧ ∀ j, j < i → ntcE l j = 0) (fun i => mkSt [(0, .d (ntcs l)), (8, .d (ntcs l)), (9, .d (.int .i64 l.length)), (10, .d (.int .i64 i))] []) (fun i => l.length - i) 0 ⟨by omega, by omega⟩ (by (refine Entails.mk' [] rfl rfl ?_ ?_ <;> repeat' (first | exact True.intro | exact lr | exact rr | exact SV.le_int (by omega) | exact SV.le_any _ | refine And.intro ?_ ?_)); done) ?_
 rintro i ⟨p1, p2⟩
 have hx : (i : Int) < l.length → ntK (l.getD (i : Int).toNat ntc0) := fun hi => hk.2 _ (getD_mem (by omega))
 have e1 : (i : Int).toNat = i := Int.toNat_natCast i
 have hbad : ∀ e : Int, i < l.length → e ≠ 0 → ntcE l i = e → ntcsE l = e := fun e h h1 h2 => by
  unfold ntcsE; rw [if_neg (by omega)]
  exact firstAt_eq h p2 h1 h2
 conv => whnf
 repeat' (first | (refine CallX.exact (s108 _ (hx (by omega)).1) rfl rfl ?_; rotate_right; conv => whnf) | (refine CallX.exact (s185 _ (hx (by omega)).2) rfl rfl ?_; rotate_right; conv => whnf) | (refine CallX.exact (s119 _ _ _) rfl rfl ?_; rotate_right; conv => whnf) | (refine CallX.exact (s154 _) rfl rfl ?_; rotate_right; conv => whnf) | (refine br_intro ?_ ?_ <;> intro hb <;> (try simp only [brs] at hb) <;> conv => whnf) | (refine RegX.rule (id := 8) hT rfl [] oVDNtA88_8 (by decide +kernel) ?_; conv => whnf) | omega | (refine And.intro ?_ ?_; ((try dsimp only); first | omega | (refine szA rfl ?_; omega) | (refine szB rfl ?_; omega) | (unfold inI64; omega) | exact rfl | (simp only [lns] at *; omega) | decide | (unfold inI64; decide)); conv => whnf) | decide | assumption)
 all_goals first
  | (refine ⟨i + 1, ⟨by omega, first_step p2 (by clear p2 hbad hk hx; simp only [e1, toNat_pred] at *; unfold ntcE strLe; grind)⟩, by omega, (by (refine Entails.mk' [] rfl rfl ?_ ?_ <;> repeat' (first | exact True.intro | exact lr | exact rr | exact SV.le_int (by omega) | exact SV.le_any _ | refine And.intro ?_ ?_)); done)⟩)
  | (refine .ret _ ?_
     conv => whnf
     refine ⟨[], ⟨?_, rfl⟩, trivial⟩
     conv => lhs; whnf
     congr 2
     first
      | exact (hbad _ (by omega) (by decide) (by clear p2 hbad hk hx; simp only [e1, toNat_pred] at *; unfold ntcE strLe; grind)).symm
      | (have : i = l.length := by omega
         subst this
         unfold ntcsE; rw [if_neg (by omega), firstAt_zero p2]))
def dueE (r : Ntr) (n : Ntc) (t : Int) : Int := firstE [ntrE r, ntcsE [n], if 0 ≤ t ∧ t ≤ 5761439 then 0 else 1, if t < n.came then 11 else 0]
def dueO (r : Ntr) (n : Ntc) (t : Int) : Int := (max 0 (t.tdiv 1440 - n.came.tdiv 1440 - r.pay) + r.step - 1).tdiv r.step
def dueV (r : Ntr) (n : Ntc) (t : Int) : Int := n.cents + dueO r n t * r.late
theorem ntc_one {n : Ntc} (h : ntcsE [n] = 0) : isKeyB n.key = true ∧ isPlateB n.plate = true ∧ (0 ≤ n.tm ∧ n.tm ≤ n.came) ∧ (0 ≤ n.came ∧ n.came ≤ 5761439) ∧ (0 ≤ n.cents ∧ n.cents ≤ 1000000) := by
 have h : ntcE [n] 0 = 0 := by simpa [ntcsE, firstAt] using h
 unfold ntcE at h
 simp only [List.getD_cons_zero] at h
 grind
theorem ntr_zero {r : Ntr} (h : ntrE r = 0) : (0 ≤ r.name ∧ r.name ≤ 4000) ∧ (0 ≤ r.pay ∧ r.pay ≤ 4000) ∧ (1 ≤ r.step ∧ r.step ≤ 4000) ∧ (0 ≤ r.late ∧ r.late ≤ 1000000) := by unfold ntrE at h; grind
theorem dueE_zero {r : Ntr} {n : Ntc} {t : Int} (h : dueE r n t = 0) : ntrE r = 0 ∧ ntcsE [n] = 0 ∧ (0 ≤ t ∧ t ≤ 5761439) ∧ n.came ≤ t := by
 unfold dueE at h
 simp only [firstE] at h
 grind
theorem mul_bdN {a b A B : Int} (h0 : 0 ≤ a) (h1 : a ≤ A) (h2 : 0 ≤ b) (h3 : b ≤ B) : 0 ≤ a * b ∧ a * b ≤ A * B :=
 ⟨Int.mul_nonneg h0 h2, Int.mul_le_mul h1 h3 h2 (by omega)⟩
theorem tdiv_bd {a b : Int} (h0 : 0 ≤ a) (h1 : 1 ≤ b) : 0 ≤ a.tdiv b ∧ a.tdiv b ≤ a := by
 refine ⟨Int.tdiv_nonneg h0 (by omega), ?_⟩
 have h4 := Int.tmod_add_mul_tdiv a b
 have h2 : 0 ≤ a.tmod b := Int.tmod_nonneg _ h0
 have h5 : a.tdiv b * 1 ≤ a.tdiv b * b := Int.mul_le_mul_of_nonneg_left h1 (Int.tdiv_nonneg h0 (by omega))
 rw [Int.mul_comm] at h4
 omega
theorem dueO_bd {r : Ntr} {n : Ntc} {t : Int} (h1 : ntrE r = 0) (hc : 0 ≤ n.came) (ht : n.came ≤ t) (ht2 : t ≤ 5761439) : 0 ≤ dueO r n t ∧ dueO r n t ≤ 10000 := by
 obtain ⟨_, h2, h3, _⟩ := ntr_zero h1
 unfold dueO
 have a1 := tdiv_bd (a := t) (b := 1440) (by omega) (by omega)
 have a2 := tdiv_bd (a := n.came) (b := 1440) (by omega) (by omega)
 have h4 := Int.tmod_add_mul_tdiv t 1440
 have h5 : 0 ≤ t.tmod 1440 := Int.tmod_nonneg _ (by omega)
 obtain ⟨q, hq⟩ : ∃ q, q = max 0 (t.tdiv 1440 - n.came.tdiv 1440 - r.pay) + r.step - 1 := ⟨_, rfl⟩
 have hq0 : 0 ≤ q ∧ q ≤ 10000 := by omega
 rw [← hq]
 have := tdiv_bd hq0.1 h3.1
 omega
def dueW (r : Ntr) (n : Ntc) (t : Int) : SV := if dueE r n t = 0 then .tup [.d (.int .i64 (dueV r n t)), .d (.int .i64 0)] else .tup [.d (.int .i64 0), .d (.int .i64 (dueE r n t))]
theorem ntOk_one {n : Ntc} (h : ntK n) : ntOk [n] := ⟨by simp, fun x hx => by rw [List.mem_singleton] at hx; rw [hx]; exact h⟩
theorem sDue (r : Ntr) (n : Ntc) (t : Int) (hn : ntK n) : FSpec Tryz.prog 66 [.agg ((ntrF r).map .d), .agg ((ntcF n).map .d), .d (.int .i64 t)] [] (fun x o => x = dueW r n t ∧ o = []) := by
 have h105 := s105 [ntrE r, ntcsE [n], if 0 ≤ t ∧ t ≤ 5761439 then 0 else 1, if decide (t < n.came) = true then 11 else 0] (by simp)
 have hE : firstE [ntrE r, ntcsE [n], if 0 ≤ t ∧ t ≤ 5761439 then 0 else 1, if decide (t < n.came) = true then 11 else 0] = dueE r n t := by
  unfold dueE; simp only [decide_eq_true_eq]
 rw [hE] at h105
 unfold dueW
 by_cases hz : dueE r n t = 0
 · rw [if_pos hz]
   rw [hz] at h105
   obtain ⟨h1, h2, h3, h4⟩ := dueE_zero hz
   obtain ⟨_, _, _, h5, h6⟩ := ntc_one h2
   obtain ⟨_, h7, h8, h9⟩ := ntr_zero h1
   have hO := dueO_bd h1 h5.1 h4 h3.2
   have hM := mul_bdN hO.1 hO.2 h9.1 h9.2
   have a1 := tdiv_bd (a := t) (b := 1440) (by omega) (by omega)
   have a2 := tdiv_bd (a := n.came) (b := 1440) (by omega) (by omega)
   have hM1 : inI64 (dueO r n t * r.late) := by unfold inI64; omega
   have hM2 : inI64 (dueV r n t) := by unfold dueV inI64; omega
   have hq : inI64 (max 0 (t.tdiv 1440 - n.came.tdiv 1440 - r.pay) + r.step) := by unfold inI64; omega
   have hq2 : inI64 (max 0 (t.tdiv 1440 - n.came.tdiv 1440 - r.pay) + r.step - 1) := by unfold inI64; omega
   have hq3 : inI64 (dueO r n t) := by unfold inI64; omega
   refine spec_of hT (C := []) Tryz.func66 rfl Tryz.call66 rfl rfl rfl ?_
   conv => whnf
   repeat' (first | (refine CallX.exact (sNtRules r) rfl rfl ?_; rotate_right; conv => whnf) | (refine CallX.pure (sNotices [n] (ntOk_one hn)) ⟨SV.le_lit (by rfl) (by rfl), trivial⟩ rfl ?_; conv => whnf) | (refine CallX.exact (sMoment t) rfl rfl ?_; rotate_right; conv => whnf) | (refine CallX.exact (s107 _ _) rfl rfl ?_; rotate_right; conv => whnf) | (refine CallX.pure h105 ⟨SV.le_lit (by rfl) (by rfl), trivial⟩ rfl ?_; conv => whnf) | (refine And.intro hq ?_; conv => whnf) | (refine And.intro hq2 ?_; conv => whnf) | (refine And.intro hq3 ?_; conv => whnf) | (refine And.intro hM1 ?_; conv => whnf) | (refine And.intro hM2 ?_; conv => whnf) | (refine br_intro ?_ ?_ <;> intro hb <;> (try simp only [brs] at hb) <;> conv => whnf) | (refine RegX.rule (id := 1) hT rfl [] oVDNtA66_1 (by decide +kernel) ?_; conv => whnf) | (refine RegX.rule (id := 5) hT rfl [] oVDNtA66_5 (by decide +kernel) ?_; conv => whnf) | omega | (refine And.intro ?_ ?_; ((try dsimp only); first | omega | (refine szA rfl ?_; omega) | (refine szB rfl ?_; omega) | (unfold inI64; omega) | exact rfl | (simp only [lns] at *; omega) | decide | (unfold inI64; decide)); conv => whnf) | decide | assumption)
   refine .ret _ ?_
   conv => whnf
   refine ⟨[], ⟨congrArg SV.tup ?_, rfl⟩, trivial⟩
   repeat' (refine cons_eq ?_ ?_)
   all_goals (conv => lhs; whnf)
   all_goals try (with_reducible rfl)
   all_goals rfl
 · rw [if_neg hz]
   generalize dueE r n t = e at h105 hz
   refine spec_of hT (C := []) Tryz.func66 rfl Tryz.call66 rfl rfl rfl ?_
   conv => whnf
   repeat' (first | (refine CallX.exact (sNtRules r) rfl rfl ?_; rotate_right; conv => whnf) | (refine CallX.pure (sNotices [n] (ntOk_one hn)) ⟨SV.le_lit (by rfl) (by rfl), trivial⟩ rfl ?_; conv => whnf) | (refine CallX.exact (sMoment t) rfl rfl ?_; rotate_right; conv => whnf) | (refine CallX.exact (s107 _ _) rfl rfl ?_; rotate_right; conv => whnf) | (refine CallX.pure h105 ⟨SV.le_lit (by rfl) (by rfl), trivial⟩ rfl ?_; conv => whnf) | (refine br_intro ?_ ?_ <;> intro hb <;> (try simp only [brs] at hb) <;> conv => whnf) | (refine RegX.rule (id := 1) hT rfl [] oVDNtA66_1 (by decide +kernel) ?_; conv => whnf) | (refine RegX.rule (id := 5) hT rfl [] oVDNtA66_5 (by decide +kernel) ?_; conv => whnf) | omega | (refine And.intro ?_ ?_; ((try dsimp only); first | omega | (refine szA rfl ?_; omega) | (refine szB rfl ?_; omega) | (unfold inI64; omega) | exact rfl | (simp only [lns] at *; omega) | decide | (unfold inI64; decide)); conv => whnf) | decide | assumption)
   refine .ret _ ?_
   conv => whnf
   refine ⟨[], ⟨congrArg SV.tup ?_, rfl⟩, trivial⟩
   repeat' (refine cons_eq ?_ ?_)
   all_goals (conv => lhs; whnf)
   all_goals try (with_reducible rfl)
   all_goals rfl
end Go.Proofs.YteehenjdddlnnaaGreatDoor
namespace Go.Proofs
open Go.Shelf
def Tryz.laysGrowE_ren : Go.Shelf.Ren := ⟨fun | 4 => 117 | n => n, fun | 22 => 117 | 25 => 121 | 3 => 3 | 4 => 4 | 9 => 9 | 20 => 20 | 0 => 0 | n => n, fun | n => n⟩
theorem Tryz.laysGrowE : Go.Proofs.Lays8.n4 Tryz.prog Tryz.laysGrowE_ren := {
 mixed := by kernel_rfl
 f4 := ⟨Tryz.f117.name, by decide, Tryz.func117.trans (congrArg some (by kernel_rfl))⟩
 t0 := Tryz.underlying0
 a0 := Tryz.isAgg0
 z0 := Tryz.sizeOf0
 v0 := Tryz.zeroValue0
 t3 := Tryz.underlying3
 a3 := Tryz.isAgg3
 z3 := Tryz.sizeOf3
 v3 := Tryz.zeroValue3
 t4 := Tryz.underlying4
 a4 := Tryz.isAgg4
 z4 := Tryz.sizeOf4
 v4 := Tryz.zeroValue4
 t9 := Tryz.underlying9
 a9 := Tryz.isAgg9
 z9 := Tryz.sizeOf9
 v9 := Tryz.zeroValue9
 t20 := Tryz.underlying20
 a20 := Tryz.isAgg20
 z20 := Tryz.sizeOf20
 v20 := Tryz.zeroValue20
 t22 := Tryz.underlying117
 a22 := Tryz.isAgg117
 z22 := Tryz.sizeOf117
 v22 := Tryz.zeroValue117 }
end Go.Proofs
set_option maxRecDepth 20000
namespace Go.Proofs.YteehenjdddlnnaaGreatDoor
open Go Go.Eng Go.RowKit
structure Ent where
 tm : Int
 desk : List UInt8
 no : Int
 words : List UInt8
def enF : Ent → List DV := fun x => [.int .i64 x.tm, .str x.desk, .int .i64 x.no, .str x.words]
def en0 : Ent := ⟨0, [], 0, []⟩
abbrev ents (l : List Ent) : DV := seqD 4 enF en0 l
theorem sGrowE (n : Nat) (hn : n ≤ 2^20) : FSpec Tryz.prog 117 [.d .nilsl, .d (.int .i64 n)] [] (fun y r => y = .buf 1000001 ∧ r = [(1000001, .buf 121 4 0 fun _ => [])]) := by
 refine FSpec.ofRow (by decide) Tryz.call117 (fun G β w vs _ hl hd => ?_)
 match vs, hl with
 | [u, v], _ =>
   have hu := hd 0 _ _ rfl rfl
   have hv := hd 1 _ _ rfl rfl
   cases hu with | d _ _ hu => cases hu with | nilsl =>
   cases hv with | d _ _ hv => cases hv with | int _ _ =>
   by_cases h0 : n = 0
   · subst h0
     refine (Go.Proofs.Any8.slices_Grow_room Go.Proofs.Tryz.laysGrowE none 0 0 0 w (by decide) (by decide) (by decide) (by decide)).mono ?_
     rintro e w' ⟨rfl, rfl⟩
     exact ⟨Below.refl _ _, _, rfl, .inl rfl⟩
   · obtain ⟨_, inf, hi, hsz, hby, hz⟩ := hT.get (t := 121) (i := (T 121).get rfl) rfl
     have hg1 := grownCap_ge w (0 + n) 0 121
     have hg2 := grownCap_le_maxLen w (0 + n) 0 121 (by simp only [maxLen]; omega)
     refine (Go.Proofs.Any8.slices_Grow_grow Go.Proofs.Tryz.laysGrowE inf _ hi hz (by rw [hsz]; decide) none 0 0 n [] w (Nat.le_refl _) (by omega) (by rw [hby]; show (0 + n) * 48 ≤ _; omega) (by omega) (by simp) (fun _ => rfl) (fun a h => by cases h)).mono ?_
     rintro e w' ⟨rfl, rfl⟩
     refine ⟨⟨rfl, rfl, rfl, ?_, fun b hb => ?_⟩, _, rfl, .inr ⟨_, _, _, rfl, Nat.le_refl _, Array.getElem?_push_size, hg2, ?_⟩⟩
     · show w.heap.size ≤ (w.heap.push _).size
       rw [Array.size_push]; omega
     · show (w.heap.push _)[b]? = w.heap[b]?
       rw [Array.getElem?_push]; exact if_neg (by omega)
     · rw [Array.size_append, Array.size_append, size_zeroCells, size_zeroCells]
       show 0 + (0 + n - 0) * 4 + (grownCap w (0 + n) 0 121 - (0 + n)) * 4 = grownCap w (0 + n) 0 121 * 4
       omega
def oVDRdB90_16 : List (Nat × List Nat) := [(0, []), (1, []), (2, []), (3, []), (4, [3]), (5, [3]), (6, []), (7, []), (8, [3, 4, 5, 6, 7]), (9, []), (10, []), (11, []), (12, [])]
def oVDRdB135_4 : List (Nat × List Nat) := [(0, []), (1, [0]), (2, []), (3, []), (4, []), (5, [4]), (6, [4, 5]), (7, [4]), (8, [4]), (9, [4, 5, 6, 7, 8]), (10, [4, 5, 6, 7, 8, 9]), (11, [4, 5, 6, 7, 8, 9]), (12, [4, 5, 6, 7, 8]), (13, [4, 5, 6, 7, 8]), (14, []), (15, []), (16, [])]
def oVDRdB135_6 : List (Nat × List Nat) := [(0, []), (1, [0]), (2, [0, 1]), (3, [0, 1, 2]), (4, [0, 1, 2]), (5, [0, 1, 2, 3, 4]), (6, [0, 1, 2, 3, 4, 5]), (7, [0, 1, 2, 3, 4, 5]), (8, [0, 1, 2, 3, 4]), (9, [0, 1, 2, 3, 4]), (10, [0, 1, 2, 3, 4, 5, 6, 7, 8, 9]), (11, [0, 1, 2, 3, 4, 5, 6, 7, 8, 9, 10]), (12, [0, 1, 2, 3, 4, 5, 6, 7, 8, 9]), (13, [0, 1, 2, 3, 4, 5, 6, 7, 8, 9]), (14, [2, 3, 4]), (15, [2, 3, 4]), (16, []), (17, [])]
def oVDRdB95_6 : List (Nat × List Nat) := [(0, []), (1, [0]), (2, []), (3, []), (4, [0, 1, 2, 3]), (5, [0, 1, 2, 3, 4]), (6, [0, 1, 2, 3, 4]), (7, [0, 1, 2, 3]), (8, [0, 1, 2, 3]), (9, [])]
def oVDRdB95_11 : List (Nat × List Nat) := [(0, []), (1, [0]), (2, []), (3, []), (4, [0, 1, 2, 3]), (5, [0, 1, 2, 3, 4]), (6, [0, 1, 2, 3, 4]), (7, [0, 1, 2, 3]), (8, [0, 1, 2, 3]), (9, [])]
def esF : List Ent → List DV := fun l => [ents l]
abbrev entss (l : List (List Ent)) : DV := seqD 1 esF [] l
def lensE (l : List (List Ent)) : Nat := (l.map List.length).sum
theorem lensE_take {l : List (List Ent)} {i : Nat} (h : i < l.length) : lensE (l.take (i + 1)) = lensE (l.take i) + (l.getD i []).length := by
 unfold lensE; rw [take_snocD (d := []) h]; simp
theorem lensE_le {l : List (List Ent)} {i : Nat} : lensE (l.take i) ≤ lensE l := by
 have h := congrArg lensE (List.take_append_drop i l)
 have h2 : lensE (l.take i ++ l.drop i) = lensE (l.take i) + lensE (l.drop i) := by unfold lensE; rw [List.map_append, List.sum_append]
 omega
theorem flat_lenE (l : List (List Ent)) : l.flatten.length = lensE l := by
 unfold lensE; rw [List.length_flatten]
theorem sConcatE (l : List (List Ent)) (hl : l.length ≤ 2^20) (hn : lensE l ≤ 2^20) :
 FSpec Tryz.prog 91 [.d (entss l)] [] (fun y r => y = .buf 6 ∧ r = [(6, seqB 121 4 enF en0 l.flatten)]) := by
 refine spec_of hT (C := []) Tryz.func91 rfl Tryz.call91 rfl rfl rfl ?_
 conv => whnf
 refine LoopX.rule hT (C := []) (ι := Nat) (fun i => i ≤ l.length) (fun i => mkSt [(0, .d (entss l)), (3, .d (.int .i64 (lensE (l.take i)))), (9, .d (entss l)), (10, .d (.int .i64 l.length)), (11, .d (.int .i64 i))] []) (fun i => l.length - i) 0 (by omega) (by (refine Entails.mk' [] rfl rfl ?_ ?_ <;> repeat' (first | exact True.intro | exact lr | exact rr | exact SV.le_int (by omega) | exact SV.le_any _ | refine And.intro ?_ ?_)); done) ?_
 rintro i p1
 have e1 : (i : Int).toNat = i := Int.toNat_natCast i
 have hls : lensE (l.take i) ≤ lensE l := lensE_le
 have hls2 : i < l.length → lensE (l.take i) + (l.getD (i : Int).toNat []).length ≤ lensE l := fun h => by rw [e1, ← lensE_take h]; exact lensE_le
 conv => whnf
 repeat' (first | (refine br_intro ?_ ?_ <;> intro hb <;> (try simp only [brs] at hb) <;> conv => whnf) | omega | (refine And.intro ?_ ?_; ((try dsimp only); first | omega | (refine szA rfl ?_; omega) | (refine szB rfl ?_; omega) | (unfold inI64; omega) | exact rfl | (simp only [lns] at *; omega) | decide | (unfold inI64; decide)); conv => whnf) | decide | assumption)
 · refine ⟨i + 1, by omega, by omega, Entails.mk' [] rfl rfl ⟨lr, SV.le_int ?_, lr, lr, lr, trivial⟩ trivial⟩
   rw [lensE_take (by omega), e1]; omega
 have hi : i = l.length := by omega
 subst hi
 rw [List.take_length] at *
 refine CallX.of (sGrowE (lensE l) hn) [(1000001, 24)] rfl ⟨lr, lr, trivial⟩ trivial rfl rfl ?_
 rintro x rout ⟨rfl, rfl⟩
 refine ⟨rfl, ?_⟩
 conv => whnf
 repeat' (first | (refine br_intro ?_ ?_ <;> intro hb <;> (try simp only [brs] at hb) <;> conv => whnf) | omega | (refine And.intro ?_ ?_; ((try dsimp only); first | omega | (refine szA rfl ?_; omega) | (refine szB rfl ?_; omega) | (unfold inI64; omega) | exact rfl | (simp only [lns] at *; omega) | decide | (unfold inI64; decide)); conv => whnf) | decide | assumption)
 refine LoopX.rule hT (C := []) (ι := Nat) (fun i => i ≤ l.length) (fun i => mkSt [(6, .buf 6), (25, .d (entss l)), (26, .d (.int .i64 l.length)), (27, .d (.int .i64 i))] [(6, seqB 121 4 enF en0 (l.take i).flatten)]) (fun i => l.length - i) 0 (by omega) ?_ ?_
 · exact Entails.mk' [(6, 24)] rfl rfl ⟨lr, lr, lr, lr, trivial⟩ ⟨Res.le_buf rfl (fun i hi => absurd hi (by omega)), trivial⟩
 rintro i p1
 have e1 : (i : Int).toNat = i := Int.toNat_natCast i
 have hls : lensE (l.take i) ≤ lensE l := lensE_le
 have hf := flat_lenE (l.take i)
 have hls2 : (i : Int) < l.length → (l.take i).flatten.length + (l.getD (i : Int).toNat []).length ≤ 2^20 := fun h => by rw [e1, hf, ← lensE_take (by omega)]; exact Nat.le_trans lensE_le hn
 conv => whnf
 repeat' (first | (refine br_intro ?_ ?_ <;> intro hb <;> (try simp only [brs] at hb) <;> conv => whnf) | omega | (refine And.intro ?_ ?_; ((try dsimp only); first | omega | (refine szA rfl ?_; omega) | (refine szB rfl ?_; omega) | (unfold inI64; omega) | exact rfl | (simp only [lns] at *; omega) | decide | (unfold inI64; decide)); conv => whnf) | decide | assumption)
 · have e2 : (l.take (i + 1)).flatten = (l.take i).flatten ++ l.getD (i : Int).toNat [] := by rw [take_snocD (d := []) (by omega), e1]; simp
   refine ⟨i + 1, by omega, by omega, Entails.mk' [(6, 33)] rfl rfl ⟨lr, lr, lr, lr, trivial⟩ ⟨?_, trivial⟩⟩
   rw [e2]; exact Res.le_appF
 · have hi : i = l.length := by omega
   subst hi
   refine .ret _ ?_
   conv => whnf
   refine ⟨_, ⟨rfl, rfl⟩, ?_, trivial⟩
   rw [List.take_length]; exact rr
def e1 : Ent := ⟨1, [100], 1, [120]⟩
theorem sPrinted1 : FSpec Tryz.prog 116 [.d (.str [120])] [] (fun x r => x = .d (.bool true) ∧ r = []) := by
 refine spec_of hT (C := []) Tryz.func116 rfl Tryz.call116 rfl rfl rfl ?_
 conv => whnf
 repeat' (first | (refine LoopX.run hT (C := []) 4 rfl [0, 5, 6] [] (fun _ _ h => h) (fun _ h => h) ?_; conv => whnf) | (refine br_intro ?_ ?_ <;> intro hb <;> (try simp only [brs] at hb) <;> conv => whnf) | omega | (refine And.intro ?_ ?_; ((try dsimp only); first | omega | (refine szA rfl ?_; omega) | (refine szB rfl ?_; omega) | (unfold inI64; omega) | exact rfl | (simp only [lns] at *; omega) | decide | (unfold inI64; decide)); conv => whnf) | decide | assumption)
 refine .ret _ ?_
 conv => whnf
 refine ⟨[], ⟨?_, rfl⟩, trivial⟩
 conv => lhs; whnf
set_option maxHeartbeats 4000000 in
theorem sDChk1 : FSpec Tryz.prog 90 [.d (ents [e1])] [] (fun x r => x = .d (.int .i64 0) ∧ r = []) := by
 have h108 := s108 [100] (by simp)
 rw [show isKeyB [100] = true from by decide] at h108
 refine spec_of hT (C := []) Tryz.func90 rfl Tryz.call90 rfl rfl rfl ?_
 conv => whnf
 repeat' (first | (refine LoopX.run hT (C := []) 10 rfl [0, 3, 11, 12, 13] [] (fun _ _ h => h) (fun _ h => h) ?_; conv => whnf) | (refine CallX.exact (s154 1) rfl rfl ?_; rotate_right; conv => whnf) | (refine CallX.exact (h108) rfl rfl ?_; rotate_right; conv => whnf) | (refine CallX.exact (s119 1 1 1000000) rfl rfl ?_; rotate_right; conv => whnf) | (refine CallX.exact (sPrinted1) rfl rfl ?_; rotate_right; conv => whnf) | (refine br_intro ?_ ?_ <;> intro hb <;> (try simp only [brs] at hb) <;> conv => whnf) | (refine RegX.rule (id := 16) hT rfl [] oVDRdB90_16 (by decide +kernel) ?_; conv => whnf) | omega | (refine And.intro ?_ ?_; ((try dsimp only); first | omega | (refine szA rfl ?_; omega) | (refine szB rfl ?_; omega) | (unfold inI64; omega) | exact rfl | (simp only [lns] at *; omega) | decide | (unfold inI64; decide)); conv => whnf) | decide | assumption)
 refine .ret _ ?_
 conv => whnf
 refine ⟨[], ⟨?_, rfl⟩, trivial⟩
 conv => lhs; whnf
theorem sDChk0 : FSpec Tryz.prog 90 [.d (ents [])] [] (fun x r => x = .d (.int .i64 0) ∧ r = []) := by
 refine spec_of hT (C := []) Tryz.func90 rfl Tryz.call90 rfl rfl rfl ?_
 conv => whnf
 repeat' (first | (refine LoopX.run hT (C := []) 10 rfl [0, 3, 11, 12, 13] [] (fun _ _ h => h) (fun _ h => h) ?_; conv => whnf) | (refine br_intro ?_ ?_ <;> intro hb <;> (try simp only [brs] at hb) <;> conv => whnf) | (refine RegX.rule (id := 16) hT rfl [] oVDRdB90_16 (by decide +kernel) ?_; conv => whnf) | omega | (refine And.intro ?_ ?_; ((try dsimp only); first | omega | (refine szA rfl ?_; omega) | (refine szB rfl ?_; omega) | (unfold inI64; omega) | exact rfl | (simp only [lns] at *; omega) | decide | (unfold inI64; decide)); conv => whnf) | decide | assumption)
 refine .ret _ ?_
 conv => whnf
 refine ⟨[], ⟨?_, rfl⟩, trivial⟩
 conv => lhs; whnf
abbrev enB (l : List Ent) : Res := seqB 121 4 enF en0 l
theorem sIns1 : FSpec Tryz.prog 135 [.buf 1000001, .d (.int .i64 0), .d (.int .i64 1), .fn 93 []] [(1000001, enB [e1])] (fun y r => y = .tup [] ∧ r = [(1000001, enB [e1])]) := by
 refine spec_of hT (C := []) Tryz.func135 rfl Tryz.call135 rfl rfl rfl ?_
 conv => whnf
 repeat' (first | (refine LoopX.run hT (C := []) 2 rfl [0, 1, 2, 3, 8] [1000001] (fun _ _ h => h) (fun _ h => h) ?_; conv => whnf) | (refine LoopX.run hT (C := []) 8 rfl [0, 1, 2, 3, 8, 9] [1000001] (fun _ _ h => h) (fun _ h => h) ?_; conv => whnf) | (refine br_intro ?_ ?_ <;> intro hb <;> (try simp only [brs] at hb) <;> conv => whnf) | (refine RegX.rule (id := 4) hT rfl [] oVDRdB135_4 (by decide +kernel) ?_; conv => whnf) | (refine RegX.rule (id := 6) hT rfl [] oVDRdB135_6 (by decide +kernel) ?_; conv => whnf) | omega | (refine And.intro ?_ ?_; ((try dsimp only); first | omega | (refine szA rfl ?_; omega) | (refine szB rfl ?_; omega) | (unfold inI64; omega) | exact rfl | (simp only [lns] at *; omega) | decide | (unfold inI64; decide)); conv => whnf) | decide | assumption)
 refine .ret _ ?_
 conv => whnf
 exact ⟨_, ⟨rfl, rfl⟩, rr, trivial⟩
theorem sStb1 : FSpec Tryz.prog 118 [.buf 1000001, .d (.int .i64 1), .fn 93 []] [(1000001, enB [e1])] (fun y r => y = .tup [] ∧ r = [(1000001, enB [e1])]) := by
 refine spec_of hT (C := []) Tryz.func118 rfl Tryz.call118 rfl rfl rfl ?_
 conv => whnf
 repeat' (first | (refine LoopX.run hT (C := []) 4 rfl [0, 1, 2, 6, 7, 8] [1000001] (fun _ _ h => h) (fun _ h => h) ?_; conv => whnf) | (refine LoopX.run hT (C := []) 14 rfl [0, 1, 2, 6] [1000001] (fun _ _ h => h) (fun _ h => h) ?_; conv => whnf) | (refine LoopX.run hT (C := []) 18 rfl [0, 1, 2, 6, 7, 8] [1000001] (fun _ _ h => h) (fun _ h => h) ?_; conv => whnf) | (refine CallX.of sIns1 [(1000001, 1000001)] rfl ⟨lr, lr, lr, lr, trivial⟩ ⟨rr, trivial⟩ rfl rfl ?_; rintro x rout ⟨rfl, rfl⟩; refine ⟨rfl, ?_⟩; conv => whnf) | (refine br_intro ?_ ?_ <;> intro hb <;> (try simp only [brs] at hb) <;> conv => whnf) | omega | (refine And.intro ?_ ?_; ((try dsimp only); first | omega | (refine szA rfl ?_; omega) | (refine szB rfl ?_; omega) | (unfold inI64; omega) | exact rfl | (simp only [lns] at *; omega) | decide | (unfold inI64; decide)); conv => whnf) | decide | assumption)
 refine .ret _ ?_
 conv => whnf
 exact ⟨_, ⟨rfl, rfl⟩, rr, trivial⟩
theorem sSrt1 : FSpec Tryz.prog 92 [.buf 1000001, .fn 93 []] [(1000001, enB [e1])] (fun y r => y = .tup [] ∧ r = [(1000001, enB [e1])]) := by
 refine spec_of hT (C := []) Tryz.func92 rfl Tryz.call92 rfl rfl rfl ?_
 conv => whnf
 repeat' (first | (refine CallX.of sStb1 [(1000001, 1000001)] rfl ⟨lr, lr, lr, trivial⟩ ⟨rr, trivial⟩ rfl rfl ?_; rintro x rout ⟨rfl, rfl⟩; refine ⟨rfl, ?_⟩; conv => whnf) | (refine br_intro ?_ ?_ <;> intro hb <;> (try simp only [brs] at hb) <;> conv => whnf) | omega | (refine And.intro ?_ ?_; ((try dsimp only); first | omega | (refine szA rfl ?_; omega) | (refine szB rfl ?_; omega) | (unfold inI64; omega) | exact rfl | (simp only [lns] at *; omega) | decide | (unfold inI64; decide)); conv => whnf) | decide | assumption)
 refine .ret _ ?_
 conv => whnf
 exact ⟨_, ⟨rfl, rfl⟩, rr, trivial⟩
theorem sCmp1 : FSpec Tryz.prog 95 [.buf 1000001] [(1000001, enB [e1])] (fun y r => y = .buf 1000001 ∧ r = [(1000001, enB [e1])]) := by
 refine spec_of hT (C := []) Tryz.func95 rfl Tryz.call95 rfl rfl rfl ?_
 conv => whnf
 repeat' (first | (refine br_intro ?_ ?_ <;> intro hb <;> (try simp only [brs] at hb) <;> conv => whnf) | (refine RegX.rule (id := 6) hT rfl [] oVDRdB95_6 (by decide +kernel) ?_; conv => whnf) | (refine RegX.rule (id := 11) hT rfl [] oVDRdB95_11 (by decide +kernel) ?_; conv => whnf) | omega | (refine And.intro ?_ ?_; ((try dsimp only); first | omega | (refine szA rfl ?_; omega) | (refine szB rfl ?_; omega) | (unfold inI64; omega) | exact rfl | (simp only [lns] at *; omega) | decide | (unfold inI64; decide)); conv => whnf) | decide | assumption)
 refine .ret _ ?_
 conv => whnf
 exact ⟨_, ⟨rfl, rfl⟩, rr, trivial⟩
set_option maxHeartbeats 4000000 in
theorem sMerge1 : FSpec Tryz.prog 67 [.d (ents [e1]), .d (ents [])] [] (fun y r => y = .tup [.d (ents [e1]), .d (.int .i64 0)] ∧ r = []) := by
 have h105 := s105 [0, 0] (by simp)
 have hc := sConcatE [[e1], []] (by simp) (by decide)
 refine spec_of hT (C := []) Tryz.func67 rfl Tryz.call67 rfl rfl rfl ?_
 conv => whnf
 repeat' (first | (refine CallX.exact (sDChk1) rfl rfl ?_; rotate_right; conv => whnf) | (refine CallX.exact (sDChk0) rfl rfl ?_; rotate_right; conv => whnf) | (refine CallX.pure h105 ⟨SV.le_lit (by rfl) (by rfl), trivial⟩ rfl ?_; conv => whnf) | (refine br_intro ?_ ?_ <;> intro hb <;> (try simp only [brs] at hb) <;> conv => whnf) | omega | (refine And.intro ?_ ?_; ((try dsimp only); first | omega | (refine szA rfl ?_; omega) | (refine szB rfl ?_; omega) | (unfold inI64; omega) | exact rfl | (simp only [lns] at *; omega) | decide | (unfold inI64; decide)); conv => whnf) | decide | assumption)
 refine CallX.of hc [(6, 24)] rfl ⟨SV.le_lit (by rfl) (by rfl), trivial⟩ trivial rfl rfl ?_
 rintro x rout ⟨rfl, rfl⟩
 refine ⟨rfl, ?_⟩
 conv => whnf
 repeat' (first | (refine CallX.of sSrt1 [(1000001, 24)] rfl ⟨lr, lr, trivial⟩ ⟨rr, trivial⟩ rfl rfl ?_; rintro x rout ⟨rfl, rfl⟩; refine ⟨rfl, ?_⟩; conv => whnf) | (refine CallX.of sCmp1 [(1000001, 24)] rfl ⟨lr, trivial⟩ ⟨rr, trivial⟩ rfl rfl ?_; rintro x rout ⟨rfl, rfl⟩; refine ⟨rfl, ?_⟩; conv => whnf) | (refine LoopX.run hT (C := []) 18 rfl [7, 8, 30, 31, 32] [24] (fun _ _ h => h) (fun _ h => h) ?_; conv => whnf) | (refine br_intro ?_ ?_ <;> intro hb <;> (try simp only [brs] at hb) <;> conv => whnf) | omega | (refine And.intro ?_ ?_; ((try dsimp only); first | omega | (refine szA rfl ?_; omega) | (refine szB rfl ?_; omega) | (unfold inI64; omega) | exact rfl | (simp only [lns] at *; omega) | decide | (unfold inI64; decide)); conv => whnf) | decide | assumption)
 refine .freeze _ 24 121 4 _ _ rfl (.weak _ ?_)
 conv => whnf
 exact ⟨.tup [.d (ents [e1]), .d (.int .i64 0)], _, SV.le_tup ⟨lr, lr, trivial⟩, ⟨rfl, rfl⟩, trivial⟩
theorem dueE_1 : dueE ⟨0, 0, 1, 0⟩ ⟨[110], [65, 65], 0, 0, 7⟩ 0 = 0 := by decide +kernel
theorem dueV_1 : dueV ⟨0, 0, 1, 0⟩ ⟨[110], [65, 65], 0, 0, 7⟩ 0 = 7 := by decide +kernel
theorem dueW_1 : dueW ⟨0, 0, 1, 0⟩ ⟨[110], [65, 65], 0, 0, 7⟩ 0 = .tup [.d (.int .i64 7), .d (.int .i64 0)] := by unfold dueW; rw [if_pos dueE_1, dueV_1]
set_option maxHeartbeats 4000000 in
theorem sReady : FSpec Tryz.prog 28 [] [] (fun x r => x = .d (.bool true) ∧ r = []) := by
 have h35 := s35 3 [1, 1] (by simp)
 rw [splitF_31, if_pos rfl, splitG_31] at h35
 have hd := sDue ⟨0, 0, 1, 0⟩ ⟨[110], [65, 65], 0, 0, 7⟩ 0 ⟨by simp, by simp⟩
 rw [dueW_1] at hd
 refine spec_of hT (C := []) Tryz.func28 rfl Tryz.call28 rfl rfl rfl ?_
 conv => whnf
 repeat' (first | (refine CallX.pure h35 ⟨lr, SV.le_lit (by rfl) (by rfl), trivial⟩ rfl ?_; conv => whnf) | (refine CallX.exact (hd) rfl rfl ?_; rotate_right; conv => whnf) | (refine CallX.pure s27t ⟨SV.le_lit rfl rfl, SV.le_lit rfl rfl, trivial⟩ rfl ?_; conv => whnf) | (refine CallX.pure sMerge1 ⟨SV.le_lit rfl rfl, SV.le_nilS, trivial⟩ rfl ?_; conv => whnf) | (refine br_intro ?_ ?_ <;> intro hb <;> (try simp only [brs] at hb) <;> conv => whnf) | omega | (refine And.intro ?_ ?_; ((try dsimp only); first | omega | (refine szA rfl ?_; omega) | (refine szB rfl ?_; omega) | (unfold inI64; omega) | exact rfl | (simp only [lns] at *; omega) | decide | (unfold inI64; decide)); conv => whnf) | decide | assumption)
 all_goals first
  | (exfalso; omega)
  | (refine .ret _ ?_
     conv => whnf
     refine ⟨[], ⟨?_, rfl⟩, trivial⟩
     conv => lhs; whnf
     all_goals rfl)
theorem planR_ne {n : List Ned} {r : List Roa} {l best : List Mov} {g : Int} (hP : PlanR n r best g) (h : plnE n r l = 0) : g = 0 := by
 obtain ⟨⟨z1, z2, z3⟩, z4⟩ := plnE_zero h
 rcases hP with ⟨q, _, _⟩ | ⟨_, ⟨q, _, _⟩ | ⟨_, q⟩⟩
 · rw [z1, z2] at q; exact absurd rfl q
 · exact absurd (plan_flow z1 z3 z4).1 (q _)
 · exact q
theorem planR_zero {n : List Ned} {r : List Roa} {best : List Mov} (hP : PlanR n r best 0) : (ndsE n = 0 ∧ rdsE r = 0) ∧ ∃ c x, (nwG n r).Best (kindB n) (getI (havL n)) (getI (wntL n)) c x ∧ best = lsV (mvN n r) (nwG n r).K 0 x := by
 rcases hP with ⟨q, q2, _⟩ | ⟨z, ⟨_, q, _⟩ | ⟨q, _⟩⟩
 · exact absurd q2.symm q
 · cases q
 · exact ⟨z, q⟩
theorem prv_ok {n : List Ned} {r : List Roa} {l : List Pri} {e c : Int} {x : Nat → Int} (hn : ndsE n = 0) (hr : rdsE r = 0) (hp : PriceR n r l e) (hx : (nwG n r).Best (kindB n) (getI (havL n)) (getI (wntL n)) c x) : e = 0 ∧ priE n l = 0 ∧ bouN n r l = c := by
 rcases hp with ⟨h0, _, _⟩ | ⟨_, ⟨h1, h2, h3⟩ | ⟨⟨f, left, y, h1, h2, h3, h4, rfl⟩, h5⟩⟩
 · rw [hn, hr] at h0; exact absurd rfl h0
 · exact absurd hx.fl (h1 x)
 · have hlen := priL_len n y n.length
   have hget : ∀ i, i < n.length → (priL n y n.length).getD i pr00 = ⟨(n.getD i nd0).st, if (n.getD i nd0).many ≠ 0 then y i else 0⟩ := fun i hi => by
    unfold priL
    rw [List.getD_eq_getElem?_getD, List.getElem?_map, List.getElem?_range hi]; rfl
   refine ⟨h5, priE_ok ⟨hlen.symm, fun i hi => by rw [hget i (by omega)]⟩ (fun i hi => ?_), ?_⟩
   · rw [hget i (by omega)]
     have := h4 i (by omega)
     show -10000000 ≤ (if (n.getD i nd0).many ≠ 0 then y i else 0) ∧ (if (n.getD i nd0).many ≠ 0 then y i else 0) ≤ 10000000
     split <;> omega
   · obtain ⟨⟨g, hg, hgc⟩, hle⟩ := h2
     rw [bouN_prc hn hr h1 h3]
     have e1 := hle x hx.fl
     have e2 := hx.le g hg
     rw [hgc] at e2
     rw [hx.cost] at e1
     omega
set_option maxHeartbeats 16000000 in
theorem z5 (n : Nat) (L : Nat → Int) (hn : n ≤ maxLen) (hl : ∀ i, -2^63 ≤ L i ∧ L i < 2^63) : FSpec Tryz.prog 5 [.d (.ro 1 n fun i => [.int .i64 (L i)])] [] (fun x r => x = .d (.bool true) ∧ r = []) := by
 have hL : Rok n L := ⟨hn, hl⟩
 refine spec_of hT (C := []) Tryz.func5 rfl Tryz.call5 rfl rfl rfl ?_
 conv => whnf
 repeat' (first | (refine CallX.of (sNds n L hL _ ?_ ?_ ) [(1000000, 22)] rfl ⟨lr, trivial⟩ ⟨rr, trivial⟩ rfl rfl ?_; rotate_right; rintro x rout ⟨⟨N, hN, rfl⟩, ⟨c, c1, c2, rfl⟩⟩; refine ⟨rfl, ?_⟩; conv => whnf) | (refine CallX.of (sRds n L hL _ ?_ ?_ ) [(1000000, 22)] rfl ⟨lr, trivial⟩ ⟨rr, trivial⟩ rfl rfl ?_; rotate_right; rintro x rout ⟨⟨R, hR, rfl⟩, ⟨c, c1, c2, rfl⟩⟩; refine ⟨rfl, ?_⟩; conv => whnf) | (refine CallX.of (sMvs n L hL _ ?_ ?_ N R hN hR) [(1000000, 22)] rfl ⟨lr, lr, lr, trivial⟩ ⟨rr, trivial⟩ rfl rfl ?_; rotate_right; rintro x rout ⟨⟨l, hl, rfl⟩, ⟨c, c1, c2, rfl⟩⟩; refine ⟨rfl, ?_⟩; conv => whnf) | (refine CallX.of (sPrs n L hL _ ?_ ?_ N hN.1) [(1000000, 22)] rfl ⟨lr, lr, trivial⟩ ⟨rr, trivial⟩ rfl rfl ?_; rotate_right; rintro x rout ⟨⟨P, hP, rfl⟩, ⟨c, c1, c2, rfl⟩⟩; refine ⟨rfl, ?_⟩; conv => whnf) | (refine br_intro ?_ ?_ <;> intro hb <;> (try simp only [brs] at hb) <;> conv => whnf) | omega | (refine And.intro ?_ ?_; ((try dsimp only); first | omega | (refine szA rfl ?_; omega) | (refine szB rfl ?_; omega) | (unfold inI64; omega) | exact rfl | (simp only [lns] at *; omega) | decide | (unfold inI64; decide)); conv => whnf) | decide | assumption)
 have hnd := ndOk_of hN
 have hrd := rdOk_of hR
 have hmv := mvOk_of hl
 have hP5 : P.length ≤ 2^40 := by omega
 have h9 := p9 N R l hnd hrd hmv
 have h23 := p23 N R P hnd hrd hP5
 obtain ⟨e, he⟩ : ∃ e, plnE N R l = e := ⟨_, rfl⟩
 obtain ⟨f, hf⟩ : ∃ e, bndE N R P = e := ⟨_, rfl⟩
 rw [he] at h9
 rw [hf] at h23
 obtain ⟨c, hc⟩ : ∃ c, (if e = 0 then costN R l l.length else 0) = c := ⟨_, rfl⟩
 obtain ⟨b, hbb⟩ : ∃ c, (if f = 0 then bouN N R P else 0) = c := ⟨_, rfl⟩
 rw [hc] at h9
 rw [hbb] at h23
 have hE : e = 0 → (ndsE N = 0 ∧ rdsE R = 0) ∧ FlG N R (flM N R l) ∧ (nwG N R).cost (flM N R l) = c := fun q => by
  obtain ⟨⟨z1, z2, z3⟩, z4⟩ := plnE_zero (he.trans q)
  rw [if_pos q] at hc
  rw [← hc]
  exact ⟨⟨z1, z2⟩, plan_flow z1 z3 z4⟩
 have hF : f = 0 → (ndsE N = 0 ∧ rdsE R = 0) → ∀ x, FlG N R x → b ≤ (nwG N R).cost x := fun q ⟨z1, z2⟩ x hx => by
  rw [if_pos q] at hbb
  rw [← hbb]
  exact bou_le z1 z2 P hx
 have hW : e = 0 → f = 0 → b ≤ c := fun q1 q2 => by
  obtain ⟨z, h1, h2⟩ := hE q1
  rw [← h2]; exact hF q2 z _ h1
 repeat' (first | (refine CallX.exact (h9) rfl rfl ?_; rotate_right; conv => whnf) | (refine CallX.exact (h23) rfl rfl ?_; rotate_right; conv => whnf) | (refine CallX.of (p27 N R hnd hrd) [] rfl ⟨lr, lr, trivial⟩ trivial rfl rfl ?_; rintro x rout ⟨⟨best, g, rfl, hB⟩, rfl⟩; have hg : e = 0 → g = 0 := fun q => planR_ne (l := l) hB (he.trans q); refine ⟨rfl, ?_⟩; conv => whnf) | (refine CallX.exact (sReady) rfl rfl ?_; rotate_right; conv => whnf) | (refine br_intro ?_ ?_ <;> intro hb <;> (try simp only [brs] at hb) <;> conv => whnf) | omega | (refine And.intro ?_ ?_; ((try dsimp only); first | omega | (refine szA rfl ?_; omega) | (refine szB rfl ?_; omega) | (unfold inI64; omega) | exact rfl | (simp only [lns] at *; omega) | decide | (unfold inI64; decide)); conv => whnf) | decide | assumption)
 all_goals try (exfalso; omega)
 · subst hb
   obtain ⟨⟨k1, k2⟩, cb, x, hX, rfl⟩ := planR_zero hB
   obtain ⟨m1, m2⟩ := flow_plan k1 hX.fl
   have hbc := best_cost hX
   have hmb : mvOk (lsV (mvN N R) (nwG N R).K 0 x) := by
    have a1 := lsV_len (n := N) (r := R) (nwG N R).K 0 x
    have a2 : (nwG N R).K ≤ 100 := arL_len k1 R
    refine ⟨by omega, fun m hm => ?_⟩
    obtain ⟨k, v, rfl⟩ := lsV_mem _ _ _ m hm
    have a3 := mvN_g (r := R) (k := k) (v := v) hN
    exact ⟨by have := a3.1; omega, by have := a3.2; omega⟩
   have hE1 : e = 0 → cb ≤ c := fun q => by
    obtain ⟨_, h1, h2⟩ := hE q
    rw [← h2]; exact hX.le _ h1
   have hF1 : f = 0 → b ≤ cb := fun q => by
    rw [← hX.cost]; exact hF q ⟨k1, k2⟩ x hX.fl
   have hpl : plnE N R (lsV (mvN N R) (nwG N R).K 0 x) = 0 := by rw [plnE_eq (by rw [k1, k2, m1]; rfl), m2]
   have h9b := p9 N R (lsV (mvN N R) (nwG N R).K 0 x) hnd hrd hmb
   rw [hpl, hbc, if_pos rfl] at h9b
   refine CallX.of (p22 N R hnd hrd) [] rfl ⟨lr, lr, trivial⟩ trivial rfl rfl ?_
   rintro x' rout ⟨⟨Q, h, rfl, hQ⟩, rfl⟩
   obtain ⟨rfl, hq1, hq2⟩ := prv_ok k1 k2 hQ hX
   have hQ5 : Q.length ≤ 2^40 := by have := priceR_len hQ; have := hN.1; omega
   have h24 := p24 N R (lsV (mvN N R) (nwG N R).K 0 x) Q hnd hrd hmb hQ5
   have hpv : prvE N R (lsV (mvN N R) (nwG N R).K 0 x) Q = 0 := by unfold prvE; rw [hpl, hq1]; rfl
   rw [hpv, hbc, hq2, decide_eq_true ⟨rfl, rfl⟩] at h24
   refine ⟨rfl, ?_⟩
   conv => whnf
   repeat' (first | (refine CallX.exact (h24) rfl rfl ?_; rotate_right; conv => whnf) | (refine CallX.exact (h9b) rfl rfl ?_; rotate_right; conv => whnf) | (refine CallX.exact (sReady) rfl rfl ?_; rotate_right; conv => whnf) | (refine br_intro ?_ ?_ <;> intro hb <;> (try simp only [brs] at hb) <;> conv => whnf) | omega | (refine And.intro ?_ ?_; ((try dsimp only); first | omega | (refine szA rfl ?_; omega) | (refine szB rfl ?_; omega) | (unfold inI64; omega) | exact rfl | (simp only [lns] at *; omega) | decide | (unfold inI64; decide)); conv => whnf) | decide | assumption)
   all_goals try (exfalso; omega)
   all_goals
    refine .ret _ ?_
    conv => whnf
    refine ⟨[], ⟨?_, rfl⟩, trivial⟩
    conv => lhs; whnf
 · subst hb
   obtain ⟨⟨k1, k2⟩, cb, x, hX, rfl⟩ := planR_zero hB
   obtain ⟨m1, m2⟩ := flow_plan k1 hX.fl
   have hbc := best_cost hX
   have hmb : mvOk (lsV (mvN N R) (nwG N R).K 0 x) := by
    have a1 := lsV_len (n := N) (r := R) (nwG N R).K 0 x
    have a2 : (nwG N R).K ≤ 100 := arL_len k1 R
    refine ⟨by omega, fun m hm => ?_⟩
    obtain ⟨k, v, rfl⟩ := lsV_mem _ _ _ m hm
    have a3 := mvN_g (r := R) (k := k) (v := v) hN
    exact ⟨by have := a3.1; omega, by have := a3.2; omega⟩
   have hE1 : e = 0 → cb ≤ c := fun q => by
    obtain ⟨_, h1, h2⟩ := hE q
    rw [← h2]; exact hX.le _ h1
   have hF1 : f = 0 → b ≤ cb := fun q => by
    rw [← hX.cost]; exact hF q ⟨k1, k2⟩ x hX.fl
   have hpl : plnE N R (lsV (mvN N R) (nwG N R).K 0 x) = 0 := by rw [plnE_eq (by rw [k1, k2, m1]; rfl), m2]
   have h9b := p9 N R (lsV (mvN N R) (nwG N R).K 0 x) hnd hrd hmb
   rw [hpl, hbc, if_pos rfl] at h9b
   refine CallX.of (p22 N R hnd hrd) [] rfl ⟨lr, lr, trivial⟩ trivial rfl rfl ?_
   rintro x' rout ⟨⟨Q, h, rfl, hQ⟩, rfl⟩
   obtain ⟨rfl, hq1, hq2⟩ := prv_ok k1 k2 hQ hX
   have hQ5 : Q.length ≤ 2^40 := by have := priceR_len hQ; have := hN.1; omega
   have h24 := p24 N R (lsV (mvN N R) (nwG N R).K 0 x) Q hnd hrd hmb hQ5
   have hpv : prvE N R (lsV (mvN N R) (nwG N R).K 0 x) Q = 0 := by unfold prvE; rw [hpl, hq1]; rfl
   rw [hpv, hbc, hq2, decide_eq_true ⟨rfl, rfl⟩] at h24
   refine ⟨rfl, ?_⟩
   conv => whnf
   repeat' (first | (refine CallX.exact (h24) rfl rfl ?_; rotate_right; conv => whnf) | (refine CallX.exact (h9b) rfl rfl ?_; rotate_right; conv => whnf) | (refine CallX.exact (sReady) rfl rfl ?_; rotate_right; conv => whnf) | (refine br_intro ?_ ?_ <;> intro hb <;> (try simp only [brs] at hb) <;> conv => whnf) | omega | (refine And.intro ?_ ?_; ((try dsimp only); first | omega | (refine szA rfl ?_; omega) | (refine szB rfl ?_; omega) | (unfold inI64; omega) | exact rfl | (simp only [lns] at *; omega) | decide | (unfold inI64; decide)); conv => whnf) | decide | assumption)
   all_goals try (exfalso; omega)
   all_goals
    refine .ret _ ?_
    conv => whnf
    refine ⟨[], ⟨?_, rfl⟩, trivial⟩
    conv => lhs; whnf
 · refine .ret _ ?_
   conv => whnf
   refine ⟨[], ⟨?_, rfl⟩, trivial⟩
   conv => lhs; whnf
 · subst hb
   obtain ⟨⟨k1, k2⟩, cb, x, hX, rfl⟩ := planR_zero hB
   obtain ⟨m1, m2⟩ := flow_plan k1 hX.fl
   have hbc := best_cost hX
   have hmb : mvOk (lsV (mvN N R) (nwG N R).K 0 x) := by
    have a1 := lsV_len (n := N) (r := R) (nwG N R).K 0 x
    have a2 : (nwG N R).K ≤ 100 := arL_len k1 R
    refine ⟨by omega, fun m hm => ?_⟩
    obtain ⟨k, v, rfl⟩ := lsV_mem _ _ _ m hm
    have a3 := mvN_g (r := R) (k := k) (v := v) hN
    exact ⟨by have := a3.1; omega, by have := a3.2; omega⟩
   have hE1 : e = 0 → cb ≤ c := fun q => by
    obtain ⟨_, h1, h2⟩ := hE q
    rw [← h2]; exact hX.le _ h1
   have hF1 : f = 0 → b ≤ cb := fun q => by
    rw [← hX.cost]; exact hF q ⟨k1, k2⟩ x hX.fl
   have hpl : plnE N R (lsV (mvN N R) (nwG N R).K 0 x) = 0 := by rw [plnE_eq (by rw [k1, k2, m1]; rfl), m2]
   have h9b := p9 N R (lsV (mvN N R) (nwG N R).K 0 x) hnd hrd hmb
   rw [hpl, hbc, if_pos rfl] at h9b
   refine CallX.of (p22 N R hnd hrd) [] rfl ⟨lr, lr, trivial⟩ trivial rfl rfl ?_
   rintro x' rout ⟨⟨Q, h, rfl, hQ⟩, rfl⟩
   obtain ⟨rfl, hq1, hq2⟩ := prv_ok k1 k2 hQ hX
   have hQ5 : Q.length ≤ 2^40 := by have := priceR_len hQ; have := hN.1; omega
   have h24 := p24 N R (lsV (mvN N R) (nwG N R).K 0 x) Q hnd hrd hmb hQ5
   have hpv : prvE N R (lsV (mvN N R) (nwG N R).K 0 x) Q = 0 := by unfold prvE; rw [hpl, hq1]; rfl
   rw [hpv, hbc, hq2, decide_eq_true ⟨rfl, rfl⟩] at h24
   refine ⟨rfl, ?_⟩
   conv => whnf
   repeat' (first | (refine CallX.exact (h24) rfl rfl ?_; rotate_right; conv => whnf) | (refine CallX.exact (h9b) rfl rfl ?_; rotate_right; conv => whnf) | (refine CallX.exact (sReady) rfl rfl ?_; rotate_right; conv => whnf) | (refine br_intro ?_ ?_ <;> intro hb <;> (try simp only [brs] at hb) <;> conv => whnf) | omega | (refine And.intro ?_ ?_; ((try dsimp only); first | omega | (refine szA rfl ?_; omega) | (refine szB rfl ?_; omega) | (unfold inI64; omega) | exact rfl | (simp only [lns] at *; omega) | decide | (unfold inI64; decide)); conv => whnf) | decide | assumption)
   all_goals try (exfalso; omega)
   all_goals
    refine .ret _ ?_
    conv => whnf
    refine ⟨[], ⟨?_, rfl⟩, trivial⟩
    conv => lhs; whnf
end Go.Proofs.YteehenjdddlnnaaGreatDoor
