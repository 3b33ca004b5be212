/- ClocksFollow is proved: for every input the law returns true, and its argument reads afterwards as it read before. Conditions: those of the given row alone. -/
import Derived.Test.YtcjfniddeibbhaaGreatDoorCfConTwo
import Derived.Test.YtcjfniddeibbhaaGreatDoorCfConOne
import Derived.Shelf.Small.Strs
import Derived.Test.YtcjfniddeibbhaaGreatDoorProg
import Derived.Test.YtcjfniddeibbhaaGreatDoorCfEngTwo
import Derived.Sort.OwnSortedInts
import Derived.Shelf.Sort.Plain
import Derived.Shelf.GgSortFunc.InsertionK
import Derived.Shelf.SlSortCmp.NoneTotal
import Derived.Shelf.SlicesG.Cmp
import Derived.Shelf.Spec.SlicesGrow
set_option linter.unusedVariables false
set_option linter.unusedSimpArgs false
set_option maxRecDepth 20000
namespace Go.Proofs.YtcjfniddeibbhaaGreatDoor
open Go Go.Eng
def oTToC151_13 : List (Nat × List Nat) := [(0, []), (1, [0]), (2, [0]), (3, [0, 1, 2]), (4, [0, 1, 2, 3]), (5, [0, 1, 2, 3]), (6, [0, 1, 2, 3, 4, 5]), (7, [0, 1, 2, 3, 4, 5, 6]), (8, [0, 1, 2, 3, 4, 5, 6]), (9, [0, 1, 2, 3, 4, 5, 6, 7, 8]), (10, [0, 1, 2, 3, 4, 5, 6, 7, 8]), (11, [0, 1, 2, 3, 4, 5, 6, 7, 8, 9, 10]), (12, [0, 1, 2, 3, 4, 5, 6, 7, 8, 9, 10]), (13, [0, 1, 2, 3, 4, 5, 6, 7, 8, 9, 10, 11, 12]), (14, [0, 1, 2, 3, 4, 5, 6, 7, 8, 9, 10, 11, 12]), (15, [3, 4, 5, 6, 7, 8, 11, 12, 13, 14]), (16, [6, 7, 8, 13, 14]), (17, [])]
theorem srtP_take {l : List Plt} (h : srtP l) (i : Nat) : srtP (l.take i) := List.Pairwise.sublist (List.take_sublist i l) h
theorem hall_take {l : List Plt} {i : Nat} (hi : i < l.length) : hall (l.take (i + 1)) = hstep (hall (l.take i)) (l.getD i plt0) := by
 rw [take_snocD (d := plt0) hi, hall_snoc]
theorem hdrop_len (s : HS) (p : List UInt8) (t : Int) (q : List UInt8) : ((hdrop s p t).out q).length + (hdrop s p t).live.length ≤ (s.out q).length + s.live.length := by
 rw [hdrop_live]
 unfold hdrop
 cases hf : findP s.live p with
 | none => simp only; have := List.length_filter_le (fun e => !decide (e.plt = p)) s.live; omega
 | some e =>
   obtain ⟨h1, h2⟩ := findP_some hf
   have h3 : (s.live.filter fun e => !decide (e.plt = p)).length < s.live.length := by
    have := List.length_filter_lt_length_iff_exists.2 (⟨e, h1, by simp [h2]⟩ : ∃ x ∈ s.live, ¬ (!decide (x.plt = p)) = true)
    exact this
   simp only
   split
   · rw [List.length_append, List.length_singleton]; omega
   · omega
theorem hmid_len (s : HS) (x : Plt) (q : List UInt8) : ((hmid s x).out q).length + (hmid s x).live.length ≤ (s.out q).length + s.live.length := by
 unfold hmid
 cases findV s.live x.veh with
 | none => exact Nat.le_refl _
 | some e => exact hdrop_len s e.plt x.frm q
theorem hstep_len (s : HS) (x : Plt) (q : List UInt8) : ((hstep s x).out q).length + (hstep s x).live.length ≤ (s.out q).length + s.live.length + 1 := by
 have h1 := hmid_len s x q
 have h2 := hdrop_len (hmid s x) x.plt x.frm q
 show ((hdrop (hmid s x) x.plt x.frm).out q).length + ((hdrop (hmid s x) x.plt x.frm).live ++ [x]).length ≤ _
 rw [List.length_append, List.length_singleton]
 omega
theorem hall_len (l : List Plt) : ∀ q, ((hall l).out q).length + (hall l).live.length ≤ l.length := by
 refine snoc_ind (P := fun l => ∀ q, ((hall l).out q).length + (hall l).live.length ≤ l.length) (fun q => Nat.le_refl _) ?_ l
 intro l x ih q
 rw [hall_snoc, List.length_append, List.length_singleton]
 have := hstep_len (hall l) x q
 have := ih q
 omega
theorem hmid_apart {s : HS} (ha : s.live.Pairwise (fun p q => clashP p q = false)) (x : Plt) : (hmid s x).live.Pairwise (fun p q => clashP p q = false) := by
 rw [hmid_live ha]; exact ha.filter _
theorem hdrop_apart {s : HS} (ha : s.live.Pairwise (fun p q => clashP p q = false)) (p : List UInt8) (t : Int) : (hdrop s p t).live.Pairwise (fun p q => clashP p q = false) := by
 rw [hdrop_live]; exact ha.filter _
theorem hdrop_sub {s : HS} {p : List UInt8} {t : Int} {e : Plt} (h : e ∈ (hdrop s p t).live) : e ∈ s.live ∧ e.plt ≠ p := by
 rw [hdrop_live, List.mem_filter] at h
 exact ⟨h.1, by simpa using h.2⟩
theorem hmid_sub {s : HS} (ha : s.live.Pairwise (fun p q => clashP p q = false)) {x e : Plt} (h : e ∈ (hmid s x).live) : e ∈ s.live ∧ e.veh ≠ x.veh := by
 rw [hmid_live ha, List.mem_filter] at h
 exact ⟨h.1, by simpa using h.2⟩
def hN (s : HS) (H : List UInt8 → Bool) (D : List UInt8 → Int) : List (Nat × Res) :=
 [(5, .cells 283 [.mp 16]), (4, .cells 165 [.mp 15]), (3, .cells 135 [.mp 14]), (6, .cells 283 [.mp 17]), (16, mS (pH s.live) (pV s.live)), (15, mI H D), (14, mO s.out), (17, mS (qH s.live) (qV s.live))]
theorem le_updP {L : List Plt} {x : Plt} (h : ∀ e ∈ L, e.plt ≠ x.plt) : Res.le (.map false false [.str] [.str []] (fun q => keyEq q [.str x.plt] || pH L (strK q)) (fun q => bif keyEq q [.str x.plt] then [.str x.veh] else [.str (pV L (strK q))]))
 (mS (pH (L ++ [x])) (pV (L ++ [x]))) := Res.le_map fun k hk => by
 rw [keyEq_str k hk x.plt]
 unfold pH pV
 rw [findP_snoc h]
 by_cases hq : strK k = x.plt
 · simp [hq]
 · simp [hq]
theorem le_updQ {L : List Plt} {x : Plt} (h : ∀ e ∈ L, e.veh ≠ x.veh) : Res.le (.map false false [.str] [.str []] (fun q => keyEq q [.str x.veh] || qH L (strK q)) (fun q => bif keyEq q [.str x.veh] then [.str x.plt] else [.str (qV L (strK q))]))
 (mS (qH (L ++ [x])) (qV (L ++ [x]))) := Res.le_map fun k hk => by
 rw [keyEq_str k hk x.veh]
 unfold qH qV
 rw [findV_snoc h]
 by_cases hq : strK k = x.veh
 · simp [hq]
 · simp [hq]
theorem le_updD (H : List UInt8 → Bool) (D : List UInt8 → Int) (p : List UInt8) (t : Int) : Res.le (.map false false [.str] [.int .i64 0] (fun q => keyEq q [.str p] || H (strK q)) (fun q => bif keyEq q [.str p] then [.int .i64 t] else [.int .i64 (D (strK q))]))
 (mI (fun q => decide (q = p) || H q) (fun q => if q = p then t else D q)) := Res.le_map fun k hk => by
 rw [keyEq_str k hk p]
 by_cases hq : strK k = p
 · simp [hq]
 · simp [hq]
set_option maxHeartbeats 4000000 in
theorem z151 (f : Flt) (hl : f.plt.length ≤ 1000) (hs : srtP f.plt) : FSpec Tryz.prog 151 [flt f] [] (fun y r => y = .mp 14 ∧ r = [(14, mO (hend f.plt).out)]) := by
 refine spec_of hT (C := []) Tryz.func151 rfl Tryz.call151 rfl rfl rfl ?_
 conv => whnf
 repeat' (first | (refine br_intro ?_ ?_ <;> intro hb <;> (try simp only [brs] at hb) <;> conv => whnf) | (refine RegX.rule (id := 13) hT rfl [] oTToC151_13 (by decide +kernel) ?_; conv => whnf) | omega | (refine And.intro ?_ ?_; ((try dsimp only); first | omega | (refine szA rfl ?_; omega) | (refine szB rfl ?_; omega) | (unfold inI64; omega) | exact rfl | (simp only [lns] at *; omega) | decide | (unfold inI64; decide)); conv => whnf) | decide | assumption)
 refine LoopX.rule hT (C := []) (ι := Nat × (List UInt8 → Bool) × (List UInt8 → Int)) (fun (i, _, D) => i ≤ f.plt.length ∧ ∀ e ∈ (hall (f.plt.take i)).live, D e.plt = e.frm)
  (fun (i, H, D) => mkSt [(1, .ptr 1 0), (3, .ptr 3 0), (4, .ptr 4 0), (5, .ptr 5 0), (6, .ptr 6 0), (7, .fn 204 [.ptr 5 0, .ptr 4 0, .ptr 3 0, .ptr 6 0]), (20, .d (plts f.plt)), (21, .d (.int .i64 f.plt.length)), (22, .d (.int .i64 i))] ((1, fltC f) :: hN (hall (f.plt.take i)) H D))
  (fun (i, _, _) => f.plt.length - i) (0, (fun _ => false), fun _ => 0) ⟨by simp, fun e he => (List.not_mem_nil he).elim⟩ ?_ ?_
 · refine Entails.trans (Entails.toR 14 247 3 rfl (by decide)) ?_
   exact Entails.mk' [(1, 1), (3, 3), (4, 4), (5, 5), (6, 6), (14, 14), (15, 15), (16, 16), (17, 17)] rfl rfl ⟨lr, lr, lr, lr, lr, lr, lr, lr, lr, trivial⟩
    ⟨rr, rr, rr, rr, rr, Res.le_map (fun k hk => ⟨rfl, rfl⟩), Res.le_map (fun k hk => ⟨rfl, rfl⟩), Res.le_mapR (fun k hk => ⟨rfl, rfl, fun i hi => absurd hi (Nat.not_lt_zero _)⟩), Res.le_map (fun k hk => ⟨rfl, rfl⟩), trivial⟩
 rintro ⟨i, H, D⟩ ⟨p1, hD⟩
 have p1 : i ≤ f.plt.length := p1
 have hD : ∀ e ∈ (hall (f.plt.take i)).live, D e.plt = e.frm := hD
 have e1 : (i : Int).toNat = i := Int.toNat_natCast i
 have hlive := (hall_inv (f.plt.take i) (srtP_take hs i)).1
 have ha : (hall (f.plt.take i)).live.Pairwise (fun p q => clashP p q = false) := by rw [hlive]; exact liv_apart _
 have hlen : ∀ q, ((hall (f.plt.take i)).out q).length ≤ 1000 := fun q => by
  have := hall_len (f.plt.take i) q; rw [List.length_take] at this; omega
 rcases Nat.lt_or_ge i f.plt.length with hi | hi
 · have hsn := hall_take hi
   obtain ⟨S, hS⟩ : ∃ S, S = hall (f.plt.take i) := ⟨_, rfl⟩
   rw [← hS] at ha hlen hD hsn
   have ha1 := hmid_apart ha (f.plt.getD (i : Int).toNat plt0)
   have ha2 := hdrop_apart ha1 (f.plt.getD (i : Int).toNat plt0).plt (f.plt.getD (i : Int).toNat plt0).frm
   have hD1 : ∀ e ∈ (hmid S (f.plt.getD (i : Int).toNat plt0)).live, D e.plt = e.frm := fun e he => hD e (hmid_sub ha he).1
   have hlen1 : ∀ q, ((hmid S (f.plt.getD (i : Int).toNat plt0)).out q).length ≤ 2^20 := fun q => by
    have h1 := hall_len (f.plt.take i) q
    have h2 := hmid_len S (f.plt.getD (i : Int).toNat plt0) q
    rw [← hS, List.length_take] at h1
    omega
   obtain ⟨S2, hS2⟩ : ∃ S2, S2 = hdrop (hmid S (f.plt.getD (i : Int).toNat plt0)) (f.plt.getD (i : Int).toNat plt0).plt (f.plt.getD (i : Int).toNat plt0).frm := ⟨_, rfl⟩
   have hP : ∀ e ∈ S2.live, e.plt ≠ (f.plt.getD (i : Int).toNat plt0).plt := fun e he => (hdrop_sub (by rw [hS2] at he; exact he)).2
   have hQ : ∀ e ∈ S2.live, e.veh ≠ (f.plt.getD (i : Int).toNat plt0).veh := fun e he => (hmid_sub ha (hdrop_sub (by rw [hS2] at he; exact he)).1).2
   have hst : hall (f.plt.take (i + 1)) = ⟨S2.live ++ [(f.plt.getD (i : Int).toNat plt0)], S2.out⟩ := by rw [hsn, hS2, e1]; rfl
   have hD3 : ∀ e ∈ (hall (f.plt.take (i + 1))).live, (if e.plt = (f.plt.getD (i : Int).toNat plt0).plt then (f.plt.getD (i : Int).toNat plt0).frm else D e.plt) = e.frm := fun e he => by
    rw [hst] at he
    rcases List.mem_append.1 he with q | q
    · rw [if_neg (hP e q)]
      exact hD1 e (hdrop_sub (by rw [hS2] at q; exact q)).1
    · rw [List.mem_singleton] at q; rw [q, if_pos rfl]
   cases hf : findV S.live (f.plt.getD (i : Int).toNat plt0).veh with
   | none =>
     have hm : hmid S (f.plt.getD (i : Int).toNat plt0) = S := by unfold hmid; rw [hf]
     rw [hm] at hS2
     have e2 : qH S.live (strK [.str (f.plt.getD (i : Int).toNat plt0).veh]) = false := by show (findV S.live (f.plt.getD (i : Int).toNat plt0).veh).isSome = false; rw [hf]; rfl
     show wpx _ _ _ _ _ (mkSt _ ((1, fltC f) :: hN (hall (f.plt.take i)) H D))
     rw [← hS]
     conv => whnf
     repeat' (first | (refine CallX.of (z204 S H D ha hD (f.plt.getD (i : Int).toNat plt0).plt (f.plt.getD (i : Int).toNat plt0).frm (Nat.le_trans (hlen _) (by decide))) [(1000005, 5), (1000004, 4), (1000003, 3), (1000006, 6), (1000016, 16), (1000015, 15), (1000014, 14), (1000017, 17)] rfl ⟨lr, lr, lr, lr, lr, lr, trivial⟩ ⟨rr, rr, rr, rr, rr, rr, rr, rr, trivial⟩ rfl rfl ?_; rintro y rout ⟨rfl, rfl⟩; refine ⟨rfl, ?_⟩; conv => whnf) | (refine br_intro ?_ ?_ <;> intro hb <;> (try simp only [brs] at hb) <;> conv => whnf) | (refine RegX.rule (id := 13) hT rfl [] oTToC151_13 (by decide +kernel) ?_; conv => whnf) | omega | (refine And.intro ?_ ?_; ((try dsimp only); first | omega | (refine szA rfl ?_; omega) | (refine szB rfl ?_; omega) | (unfold inI64; omega) | exact rfl | (simp only [lns] at *; omega) | decide | (unfold inI64; decide)); conv => whnf) | decide | assumption)
     all_goals try (have q := ‹qH S.live (strK [DV.str (f.plt.getD (i : Int).toNat plt0).veh]) = true›; rw [e2] at q; cases q)
     all_goals try (exfalso; omega)
     rw [← hS2]
     exact ⟨(i + 1, (fun q => decide (q = (f.plt.getD (i : Int).toNat plt0).plt) || H q), fun q => if q = (f.plt.getD (i : Int).toNat plt0).plt then (f.plt.getD (i : Int).toNat plt0).frm else D q), ⟨by omega, hD3⟩, by show f.plt.length - (i + 1) < f.plt.length - i; omega,
      Entails.mk' [(1, 1), (3, 3), (4, 4), (5, 5), (6, 6), (14, 14), (15, 15), (16, 16), (17, 17)] rfl rfl ⟨lr, lr, lr, lr, lr, lr, lr, lr, lr, trivial⟩
       ⟨rr, rr, rr, rr, rr, (by rw [hst]; exact le_updP hP), le_updD H D (f.plt.getD (i : Int).toNat plt0).plt (f.plt.getD (i : Int).toNat plt0).frm, (by rw [hst]; exact rr), (by rw [hst]; exact le_updQ hQ), trivial⟩⟩
   | some e =>
     obtain ⟨he1, he2⟩ := findV_some hf
     have hm : hmid S (f.plt.getD (i : Int).toNat plt0) = hdrop S e.plt (f.plt.getD (i : Int).toNat plt0).frm := by unfold hmid; rw [hf]
     have e2 : qH S.live (strK [.str (f.plt.getD (i : Int).toNat plt0).veh]) = true := by show (findV S.live (f.plt.getD (i : Int).toNat plt0).veh).isSome = true; rw [hf]; rfl
     have e3 : (qV S.live (strK [.str (f.plt.getD (i : Int).toNat plt0).veh])) = e.plt := by show (match findV S.live (f.plt.getD (i : Int).toNat plt0).veh with | some e => e.plt | none => []) = e.plt; rw [hf]
     rw [← e3] at hm
     rw [hm] at hS2 ha1 hD1 hlen1
     show wpx _ _ _ _ _ (mkSt _ ((1, fltC f) :: hN (hall (f.plt.take i)) H D))
     rw [← hS]
     conv => whnf
     repeat' (first | (refine CallX.of (z204 S H D ha hD (qV S.live (strK [.str (f.plt.getD (i : Int).toNat plt0).veh])) (f.plt.getD (i : Int).toNat plt0).frm (Nat.le_trans (hlen _) (by decide))) [(1000005, 5), (1000004, 4), (1000003, 3), (1000006, 6), (1000016, 16), (1000015, 15), (1000014, 14), (1000017, 17)] rfl ⟨lr, lr, lr, lr, lr, lr, trivial⟩ ⟨rr, rr, rr, rr, rr, rr, rr, rr, trivial⟩ rfl rfl ?_; rintro y rout ⟨rfl, rfl⟩; refine ⟨rfl, ?_⟩; conv => whnf) | (refine CallX.of (z204 (hdrop S (qV S.live (strK [.str (f.plt.getD (i : Int).toNat plt0).veh])) (f.plt.getD (i : Int).toNat plt0).frm) H D ha1 hD1 (f.plt.getD (i : Int).toNat plt0).plt (f.plt.getD (i : Int).toNat plt0).frm (hlen1 _)) [(1000005, 5), (1000004, 4), (1000003, 3), (1000006, 6), (1000016, 16), (1000015, 15), (1000014, 14), (1000017, 17)] rfl ⟨lr, lr, lr, lr, lr, lr, trivial⟩ ⟨rr, rr, rr, rr, rr, rr, rr, rr, trivial⟩ rfl rfl ?_; rintro y rout ⟨rfl, rfl⟩; refine ⟨rfl, ?_⟩; conv => whnf) | (refine br_intro ?_ ?_ <;> intro hb <;> (try simp only [brs] at hb) <;> conv => whnf) | (refine RegX.rule (id := 13) hT rfl [] oTToC151_13 (by decide +kernel) ?_; conv => whnf) | omega | (refine And.intro ?_ ?_; ((try dsimp only); first | omega | (refine szA rfl ?_; omega) | (refine szB rfl ?_; omega) | (unfold inI64; omega) | exact rfl | (simp only [lns] at *; omega) | decide | (unfold inI64; decide)); conv => whnf) | decide | assumption)
     all_goals try (have q := ‹qH S.live (strK [DV.str (f.plt.getD (i : Int).toNat plt0).veh]) = false›; rw [e2] at q; cases q)
     all_goals try (exfalso; omega)
     rw [← hS2]
     exact ⟨(i + 1, (fun q => decide (q = (f.plt.getD (i : Int).toNat plt0).plt) || H q), fun q => if q = (f.plt.getD (i : Int).toNat plt0).plt then (f.plt.getD (i : Int).toNat plt0).frm else D q), ⟨by omega, hD3⟩, by show f.plt.length - (i + 1) < f.plt.length - i; omega,
      Entails.mk' [(1, 1), (3, 3), (4, 4), (5, 5), (6, 6), (14, 14), (15, 15), (16, 16), (17, 17)] rfl rfl ⟨lr, lr, lr, lr, lr, lr, lr, lr, lr, trivial⟩
       ⟨rr, rr, rr, rr, rr, (by rw [hst]; exact le_updP hP), le_updD H D (f.plt.getD (i : Int).toNat plt0).plt (f.plt.getD (i : Int).toNat plt0).frm, (by rw [hst]; exact rr), (by rw [hst]; exact le_updQ hQ), trivial⟩⟩
 have hil : i = f.plt.length := by omega
 subst hil
 rw [List.take_length] at ha hD hlen hlive
 show wpx _ _ _ _ _ (mkSt _ ((1, fltC f) :: hN (hall (f.plt.take f.plt.length)) H D))
 rw [List.take_length]
 conv => whnf
 repeat' (first | (refine br_intro ?_ ?_ <;> intro hb <;> (try simp only [brs] at hb) <;> conv => whnf) | (refine RegX.rule (id := 13) hT rfl [] oTToC151_13 (by decide +kernel) ?_; conv => whnf) | omega | (refine And.intro ?_ ?_; ((try dsimp only); first | omega | (refine szA rfl ?_; omega) | (refine szB rfl ?_; omega) | (unfold inI64; omega) | exact rfl | (simp only [lns] at *; omega) | decide | (unfold inI64; decide)); conv => whnf) | decide | assumption)
 all_goals try (exfalso; omega)
 have hE : ∀ m, m < f.plt.length → (f.plt.take (m + 1)).foldl (fun s x => hdrop s x.plt 5761440) (hall f.plt) = hdrop ((f.plt.take m).foldl (fun s x => hdrop s x.plt 5761440) (hall f.plt)) (f.plt.getD m plt0).plt 5761440 := fun m hm => by
  rw [take_snocD (d := plt0) hm, List.foldl_append]; rfl
 refine LoopX.rule hT (C := []) (ι := Nat) (fun m => m ≤ f.plt.length ∧ (((f.plt.take m).foldl (fun s x => hdrop s x.plt 5761440) (hall f.plt)).live.Pairwise (fun p q => clashP p q = false) ∧ (∀ e ∈ ((f.plt.take m).foldl (fun s x => hdrop s x.plt 5761440) (hall f.plt)).live, D e.plt = e.frm) ∧ ∀ q, (((f.plt.take m).foldl (fun s x => hdrop s x.plt 5761440) (hall f.plt)).out q).length + ((f.plt.take m).foldl (fun s x => hdrop s x.plt 5761440) (hall f.plt)).live.length ≤ 1000))
  (fun m => mkSt [(3, .ptr 3 0), (7, .fn 204 [.ptr 5 0, .ptr 4 0, .ptr 3 0, .ptr 6 0]), (62, .d (plts f.plt)), (63, .d (.int .i64 f.plt.length)), (64, .d (.int .i64 m))] (hN ((f.plt.take m).foldl (fun s x => hdrop s x.plt 5761440) (hall f.plt)) H D))
  (fun m => f.plt.length - m) 0 ⟨by simp, ha, hD, fun q => by have := hall_len f.plt q; show ((hall f.plt).out q).length + (hall f.plt).live.length ≤ 1000; omega⟩ ?_ ?_
 · exact Entails.mk' [(3, 3), (4, 4), (5, 5), (6, 6), (14, 14), (15, 15), (16, 16), (17, 17)] rfl rfl ⟨lr, lr, lr, lr, lr, trivial⟩ ⟨rr, rr, rr, rr, rr, rr, rr, rr, trivial⟩
 rintro m ⟨q1, q2, q3, q4⟩
 have e2 : (m : Int).toNat = m := Int.toNat_natCast m
 obtain ⟨S, hS⟩ : ∃ S, S = (f.plt.take m).foldl (fun s x => hdrop s x.plt 5761440) (hall f.plt) := ⟨_, rfl⟩
 rw [← hS] at q2 q3 q4
 show wpx _ _ _ _ _ (mkSt _ (hN ((f.plt.take m).foldl (fun s x => hdrop s x.plt 5761440) (hall f.plt)) H D))
 rw [← hS]
 rcases Nat.lt_or_ge m f.plt.length with hm | hm
 · have hE1 := hE m hm
   rw [← hS] at hE1
   conv => whnf
   repeat' (first | (refine CallX.of (z204 S H D q2 q3 (f.plt.getD (m : Int).toNat plt0).plt 5761440 (by have := q4 (f.plt.getD (m : Int).toNat plt0).plt; omega)) [(1000005, 5), (1000004, 4), (1000003, 3), (1000006, 6), (1000016, 16), (1000015, 15), (1000014, 14), (1000017, 17)] rfl ⟨lr, lr, lr, lr, lr, lr, trivial⟩ ⟨rr, rr, rr, rr, rr, rr, rr, rr, trivial⟩ rfl rfl ?_; rintro y rout ⟨rfl, rfl⟩; refine ⟨rfl, ?_⟩; conv => whnf) | (refine br_intro ?_ ?_ <;> intro hb <;> (try simp only [brs] at hb) <;> conv => whnf) | (refine RegX.rule (id := 13) hT rfl [] oTToC151_13 (by decide +kernel) ?_; conv => whnf) | omega | (refine And.intro ?_ ?_; ((try dsimp only); first | omega | (refine szA rfl ?_; omega) | (refine szB rfl ?_; omega) | (unfold inI64; omega) | exact rfl | (simp only [lns] at *; omega) | decide | (unfold inI64; decide)); conv => whnf) | decide | assumption)
   all_goals try (exfalso; omega)
   refine ⟨m + 1, ⟨by omega, by rw [hE1]; exact hdrop_apart q2 _ _, by rw [hE1]; exact fun e he => q3 e (hdrop_sub he).1, by rw [hE1]; exact fun q => Nat.le_trans (hdrop_len S _ _ q) (q4 q)⟩, by omega, ?_⟩
   rw [hE1, e2]
   exact Entails.mk' [(3, 3), (4, 4), (5, 5), (6, 6), (14, 14), (15, 15), (16, 16), (17, 17)] rfl rfl ⟨lr, lr, lr, lr, lr, trivial⟩ ⟨rr, rr, rr, rr, rr, rr, rr, rr, trivial⟩
 · have hml : m = f.plt.length := by omega
   rw [hml, List.take_length] at hS
   conv => whnf
   repeat' (first | (refine br_intro ?_ ?_ <;> intro hb <;> (try simp only [brs] at hb) <;> conv => whnf) | (refine RegX.rule (id := 13) hT rfl [] oTToC151_13 (by decide +kernel) ?_; conv => whnf) | omega | (refine And.intro ?_ ?_; ((try dsimp only); first | omega | (refine szA rfl ?_; omega) | (refine szB rfl ?_; omega) | (unfold inI64; omega) | exact rfl | (simp only [lns] at *; omega) | decide | (unfold inI64; decide)); conv => whnf) | decide | assumption)
   all_goals try (exfalso; omega)
   refine .ret _ ?_
   conv => whnf
   exact ⟨[(14, mO (hend f.plt).out)], ⟨rfl, rfl⟩, by rw [hS]; exact rr, trivial⟩
abbrev Win := Int × Int
def vwF : Win → List DV := fun p => [.int .i64 p.1, .int .i64 p.2]
def vw0 : Win := (0, 0)
abbrev wins (l : List Win) : DV := seqD 2 vwF vw0 l
abbrev vwB (l : List Win) : Res := seqB 65 2 vwF vw0 l
def lastE (x : Leg) : Int := if x.inn.tm = -1 then 5761440 else x.inn.tm
def onL (v : List UInt8) (x : Leg) (t : Int) : Bool := decide (x.veh = v) && (decide (x.out.tm ≤ t) && decide (t < lastE x))
def occ (v : List UInt8) (h : Hir) (t : Int) : Bool := h.legs.any fun x => onL v x t
def lgSeq (ls : List Leg) : Prop := (∀ x ∈ ls, 0 ≤ x.out.tm ∧ x.out.tm < lastE x ∧ lastE x ≤ 5761440) ∧ ∀ i j, i < j → j < ls.length → lastE (ls.getD i lg0) ≤ (ls.getD j lg0).out.tm
theorem rdgE_zero {r : Rdg} (h : rdgE r = 0) : 0 ≤ r.tm ∧ r.tm ≤ 5761439 := by
 unfold rdgE at h
 split at h
 · omega
 · omega
theorem legE_zero {h : Hir} {i : Nat} (he : legE h i = 0) : (0 ≤ (h.legs.getD i lg0).out.tm ∧ (h.legs.getD i lg0).out.tm < lastE (h.legs.getD i lg0) ∧ lastE (h.legs.getD i lg0) ≤ 5761440) ∧ (0 < i → (h.legs.getD i lg0).out.tm = (h.legs.getD (i - 1) lg0).inn.tm) ∧
 ((h.legs.getD i lg0).inn.tm = -1 → (h.legs.length : Int) - 1 ≤ i) := by
 unfold legE at he
 split at he
 · omega
 split at he
 · omega
 rename_i h1 h2
 have ho := rdgE_zero (Classical.not_not.1 h2)
 split at he
 · omega
 split at he
 · omega
 rename_i h3 h4
 split at he
 · omega
 split at he
 · omega
 split at he
 · rename_i h5
   split at he
   · omega
   split at he
   · omega
   refine ⟨⟨ho.1, ?_, ?_⟩, fun q => Classical.byContradiction fun q2 => h4 ⟨q, q2⟩, fun _ => by omega⟩
   · unfold lastE; rw [if_pos h5]; omega
   · unfold lastE; rw [if_pos h5]; omega
 · rename_i h5
   split at he
   · omega
   rename_i h6
   have hi := rdgE_zero (Classical.not_not.1 h6)
   split at he
   · omega
   refine ⟨⟨ho.1, ?_, ?_⟩, fun q => Classical.byContradiction fun q2 => h4 ⟨q, q2⟩, fun q => absurd q h5⟩
   · unfold lastE; rw [if_neg h5]; omega
   · unfold lastE; rw [if_neg h5]; omega
theorem lgSeq_of {h : Hir} (he : hirE h = 0) : lgSeq h.legs := by
 have hall : ∀ i, i < h.legs.length → legE h i = 0 := by
  unfold hirE at he
  split at he
  · omega
  split at he
  · omega
  split at he
  · omega
  split at he
  · omega
  exact firstAt_all he
 refine ⟨fun x hx => ?_, fun i j hij hj => ?_⟩
 · obtain ⟨i, hi, rfl⟩ := mem_getD (d := lg0) hx
   exact (legE_zero (hall i hi)).1
 · have next : ∀ k, k + 1 < h.legs.length → lastE (h.legs.getD k lg0) = (h.legs.getD (k + 1) lg0).out.tm := fun k hk => by
    have h1 := (legE_zero (hall (k + 1) hk)).2.1 (by omega)
    rw [Nat.add_sub_cancel] at h1
    have h2 : (h.legs.getD k lg0).inn.tm ≠ -1 := fun q => by
     have := (legE_zero (hall k (by omega))).2.2 q
     omega
    unfold lastE; rw [if_neg h2, h1]
   induction j with
   | zero => omega
   | succ j ih =>
     rcases Nat.lt_or_ge i j with q | q
     · have h1 := ih q (by omega)
       have h2 := (legE_zero (hall j (by omega))).1
       have h3 := next j hj
       omega
     · have : i = j := by omega
       subst this
       rw [next i hj]; exact Int.le_refl _
open Classical in
def oTHiF70_15 : List (Nat × List Nat) := [(0, []), (1, []), (2, [0, 1]), (3, [0, 1, 2]), (4, [0, 1, 2]), (5, [0, 1, 2]), (6, [0, 1]), (7, []), (8, [])]
def oTHiF70_18 : List (Nat × List Nat) := [(0, []), (1, []), (2, [0, 1]), (3, [0, 1, 2]), (4, [0, 1, 2]), (5, [0, 1, 2]), (6, [0, 1]), (7, []), (8, [])]
def oTHiF70_6 : List (Nat × List Nat) := [(0, []), (1, []), (2, [0, 1]), (3, [0, 1, 2]), (4, [0, 1, 2]), (5, [0, 1, 2]), (6, [0, 1]), (7, []), (8, [])]
set_option maxHeartbeats 4000000 in
theorem sHir (n : Nat) (L : Nat → Int) (hL : Rok n L) (a : Int) (h0 : 0 ≤ a) (ha : a ≤ 2^36) :
 FSpec Tryz.prog 70 [.ptr 1000000 0] [(1000000, strm n L a)] (fun y r => (∃ h : Hir, hiB 3 h ∧ y = .agg ((hiF h).map .d)) ∧ Moved n L a 500 r) := by
 refine spec_of hT (C := []) Tryz.func70 rfl Tryz.call70 rfl rfl rfl ?_
 conv => whnf
 repeat' (first | (refine CallX.of (s33 n L hL _ ?_ ?_ [0, 100, 1440] ?_ ?_) [(1000000, 1000000)] rfl ⟨lr, SV.le_lit rfl rfl, trivial⟩ ⟨rr, trivial⟩ rfl rfl ?_; rotate_right; rintro x rout ⟨⟨u1, hu1, rfl⟩, ⟨c, c1, c2, rfl⟩⟩; have hw1 := pkD hu1 (by decide); refine ⟨rfl, ?_⟩; conv => whnf) | (refine CallX.of (sRh n L hL _ ?_ ?_ [104, 49] (by decide) u1 hw1.1 ?_) [(1000000, 1000000)] rfl ⟨lr, lr, lr, trivial⟩ ⟨rr, trivial⟩ rfl rfl ?_; rotate_right; rintro x rout ⟨⟨h, hh, hhl, rfl⟩, ⟨c, c1, c2, rfl⟩⟩; refine ⟨rfl, ?_⟩; conv => whnf) | (refine CallX.of (s84 n L hL _ ?_ ?_ _ ?_) [(1000000, 1000000)] rfl ⟨lr, lr, trivial⟩ ⟨rr, trivial⟩ rfl rfl ?_; rotate_right; rintro x rout ⟨⟨w, rfl⟩, ⟨c, c1, c2, rfl⟩⟩; refine ⟨rfl, ?_⟩; conv => whnf) | (refine br_intro ?_ ?_ <;> intro hb <;> (try simp only [brs] at hb) <;> conv => whnf) | (refine RegX.rule (id := 15) hT rfl [] oTHiF70_15 (by decide +kernel) ?_; conv => whnf) | (refine RegX.rule (id := 18) hT rfl [] oTHiF70_18 (by decide +kernel) ?_; conv => whnf) | (refine RegX.rule (id := 6) hT rfl [] oTHiF70_6 (by decide +kernel) ?_; conv => whnf) | omega | (refine And.intro ?_ ?_; ((try dsimp only); first | omega | (refine szA rfl ?_; omega) | (refine szB rfl ?_; omega) | (unfold inI64; omega) | exact rfl | (simp only [lns] at *; omega) | decide | (unfold inI64; decide)); conv => whnf) | decide | assumption)
 · refine .ret _ ?_
   conv => whnf
   exact ⟨[(1000000, strm n L _)], ⟨⟨h, hh, rfl⟩, _, by omega, by omega, rfl⟩, rr, trivial⟩
 have hn : 1 ≤ h.legs.length := hhl (by decide)
 have hl3 := hh.2.2.1
 refine CallX.of (z216 h.legs hn (by omega)) [(7, 30)] rfl ⟨lr, trivial⟩ trivial rfl rfl ?_
 rintro x rout ⟨rfl, rfl⟩
 refine ⟨rfl, ?_⟩
 conv => whnf
 repeat' (first | (refine CallX.of (s86 n L hL _ ?_ ?_ 6 ?_) [(1000000, 1000000)] rfl ⟨lr, lr, trivial⟩ ⟨rr, trivial⟩ rfl rfl ?_; rotate_right; rintro x rout ⟨⟨z, hz1, hz2, hz3, rfl⟩, ⟨c, c1, c2, rfl⟩⟩; refine ⟨rfl, ?_⟩; conv => whnf) | (refine br_intro ?_ ?_ <;> intro hb <;> (try simp only [brs] at hb) <;> conv => whnf) | (refine RegX.rule (id := 15) hT rfl [] oTHiF70_15 (by decide +kernel) ?_; conv => whnf) | (refine RegX.rule (id := 18) hT rfl [] oTHiF70_18 (by decide +kernel) ?_; conv => whnf) | (refine RegX.rule (id := 6) hT rfl [] oTHiF70_6 (by decide +kernel) ?_; conv => whnf) | omega | (refine And.intro ?_ ?_; ((try dsimp only); first | omega | (refine szA rfl ?_; omega) | (refine szB rfl ?_; omega) | (unfold inI64; omega) | exact rfl | (simp only [lns] at *; omega) | decide | (unfold inI64; decide)); conv => whnf) | decide | assumption)
 · repeat' (first | (refine CallX.of (s15 n L hL _ ?_ ?_ [[104, 49], [], [65]] (by simp) (by simp)) [(1000000, 1000000)] rfl ⟨lr, SV.le_lit rfl rfl, trivial⟩ ⟨rr, trivial⟩ rfl rfl ?_; rotate_right; rintro x rout ⟨⟨u2, hu2, rfl⟩, ⟨c, c1, c2, rfl⟩⟩; have hw2 := mem_len hu2 rfl; refine ⟨rfl, ?_⟩; conv => whnf) | (refine CallX.of (s15 n L hL _ ?_ ?_ [[97, 110, 110], []] (by simp) (by simp)) [(1000000, 1000000)] rfl ⟨lr, SV.le_lit rfl rfl, trivial⟩ ⟨rr, trivial⟩ rfl rfl ?_; rotate_right; rintro x rout ⟨⟨u3, hu3, rfl⟩, ⟨c, c1, c2, rfl⟩⟩; have hw3 := mem_len hu3 rfl; refine ⟨rfl, ?_⟩; conv => whnf) | (refine br_intro ?_ ?_ <;> intro hb <;> (try simp only [brs] at hb) <;> conv => whnf) | (refine RegX.rule (id := 15) hT rfl [] oTHiF70_15 (by decide +kernel) ?_; conv => whnf) | (refine RegX.rule (id := 18) hT rfl [] oTHiF70_18 (by decide +kernel) ?_; conv => whnf) | (refine RegX.rule (id := 6) hT rfl [] oTHiF70_6 (by decide +kernel) ?_; conv => whnf) | omega | (refine And.intro ?_ ?_; ((try dsimp only); first | omega | (refine szA rfl ?_; omega) | (refine szB rfl ?_; omega) | (unfold inI64; omega) | exact rfl | (simp only [lns] at *; omega) | decide | (unfold inI64; decide)); conv => whnf) | decide | assumption)
   refine .freeze _ 30 162 9 _ _ rfl (.ent _ _ (Entails.froCell 2 30 9 _ 4 _ rfl rfl rfl) (.weak _ ?_))
   conv => whnf
   exact ⟨_, [(1000000, strm n L _)], lr, ⟨⟨⟨u2, u3, h.frm, h.to, h.legs⟩, ⟨hw2, hw3, hl3, hh.2.2.2⟩, rfl⟩, _, by omega, by omega, rfl⟩, rr, trivial⟩
 · repeat' (first | (refine CallX.of (sTim n L hL _ ?_ ?_) [(1000000, 1000000)] rfl ⟨lr, trivial⟩ ⟨rr, trivial⟩ rfl rfl ?_; rotate_right; rintro x rout ⟨⟨t1, t2, rfl⟩, ⟨c3, c4, c5, rfl⟩⟩; refine ⟨rfl, ?_⟩; conv => whnf) | (refine br_intro ?_ ?_ <;> intro hb <;> (try simp only [brs] at hb) <;> conv => whnf) | (refine RegX.rule (id := 15) hT rfl [] oTHiF70_15 (by decide +kernel) ?_; conv => whnf) | (refine RegX.rule (id := 18) hT rfl [] oTHiF70_18 (by decide +kernel) ?_; conv => whnf) | (refine RegX.rule (id := 6) hT rfl [] oTHiF70_6 (by decide +kernel) ?_; conv => whnf) | omega | (refine And.intro ?_ ?_; ((try dsimp only); first | omega | (refine szA rfl ?_; omega) | (refine szB rfl ?_; omega) | (unfold inI64; omega) | exact rfl | (simp only [lns] at *; omega) | decide | (unfold inI64; decide)); conv => whnf) | decide | assumption)
   refine .freeze _ 30 162 9 _ _ rfl (.ent _ _ (Entails.froCell 2 30 9 _ 4 _ rfl rfl rfl) (.weak _ ?_))
   conv => whnf
   exact ⟨_, [(1000000, strm n L _)], lr, ⟨⟨⟨h.key, h.drv, t1, t2, h.legs⟩, ⟨hh.1, hh.2.1, hl3, hh.2.2.2⟩, rfl⟩, _, by omega, by omega, rfl⟩, rr, trivial⟩
 · refine .weak _ ?_
   conv => whnf
   exact ⟨.agg ((hiF ⟨h.key, h.drv, h.frm, h.to, []⟩).map .d), [(1000000, strm n L _)], SV.le_agg ⟨lr, lr, lr, lr, SV.le_nilS, trivial⟩, ⟨⟨⟨h.key, h.drv, h.frm, h.to, []⟩, ⟨hh.1, hh.2.1, by simp, fun x hx => by cases hx⟩, rfl⟩, _, by omega, by omega, rfl⟩, rr, trivial⟩
 · repeat' (first | (refine CallX.of (s86 n L hL _ ?_ ?_ _ ?_) [(1000000, 1000000)] rfl ⟨lr, lr, trivial⟩ ⟨rr, trivial⟩ rfl rfl ?_; rotate_right; rintro x rout ⟨⟨j, hj1, hj2, hj3, rfl⟩, ⟨c, c1, c2, rfl⟩⟩; refine ⟨rfl, ?_⟩; conv => whnf) | (refine CallX.of (s15 n L hL _ ?_ ?_ [[118, 49], [], [65]] (by simp) (by simp)) [(1000000, 1000000)] rfl ⟨lr, SV.le_lit rfl rfl, trivial⟩ ⟨rr, trivial⟩ rfl rfl ?_; rotate_right; rintro x rout ⟨⟨u2, hu2, rfl⟩, ⟨c, c1, c2, rfl⟩⟩; have hw2 := mem_len hu2 rfl; refine ⟨rfl, ?_⟩; conv => whnf) | (refine CallX.of (s104 n L hL _ ?_ ?_ 0 500 ?_ ?_ ?_) [(1000000, 1000000)] rfl ⟨lr, lr, lr, trivial⟩ ⟨rr, trivial⟩ rfl rfl ?_; rotate_right; rintro x rout ⟨⟨u3, hk1, hk2, rfl⟩, ⟨c, c1, c2, rfl⟩⟩; refine ⟨rfl, ?_⟩; conv => whnf) | (refine br_intro ?_ ?_ <;> intro hb <;> (try simp only [brs] at hb) <;> conv => whnf) | (refine RegX.rule (id := 15) hT rfl [] oTHiF70_15 (by decide +kernel) ?_; conv => whnf) | (refine RegX.rule (id := 18) hT rfl [] oTHiF70_18 (by decide +kernel) ?_; conv => whnf) | (refine RegX.rule (id := 6) hT rfl [] oTHiF70_6 (by decide +kernel) ?_; conv => whnf) | omega | (refine And.intro ?_ ?_; ((try dsimp only); first | omega | (refine szA rfl ?_; omega) | (refine szB rfl ?_; omega) | (unfold inI64; omega) | exact rfl | (simp only [lns] at *; omega) | decide | (unfold inI64; decide)); conv => whnf) | decide | assumption)
   refine .freeze _ 30 162 9 _ _ rfl (.ent _ _ (Entails.froCell 2 30 9 _ 4 _ rfl rfl rfl) (.weak _ ?_))
   conv => whnf
   exact ⟨.agg ((hiF ⟨h.key, h.drv, h.frm, h.to, updL (updL h.legs j.toNat lg0 (fun y => { y with veh := u2 })) j.toNat lg0 (fun y => { y with out := { y.out with tm := u3 } })⟩).map .d), [(1000000, strm n L _)],
    SV.le_agg ⟨lr, lr, lr, lr, SV.le_upd2 (f := lgF) (d := lg0) (fun y : Leg => { y with veh := u2 }) (fun y => { y with out := { y.out with tm := u3 } }) (fun _ => rfl) (fun _ => rfl), trivial⟩,
    ⟨⟨⟨h.key, h.drv, h.frm, h.to, updL (updL h.legs j.toNat lg0 (fun y => { y with veh := u2 })) j.toNat lg0 (fun y => { y with out := { y.out with tm := u3 } })⟩, ⟨hh.1, hh.2.1, (by simp; omega), (allK_upd (g := fun y : Leg => { y with out := { y.out with tm := u3 } }) (allK_upd (g := fun y : Leg => { y with veh := u2 }) (k := 3) ⟨hl3, hh.2.2.2⟩ (fun y hy => ⟨hw2, hy.2.1, hy.2.2⟩)) (fun y hy => ⟨hy.1, hy.2.1, hy.2.2⟩)).2⟩, rfl⟩, _, by omega, by omega, rfl⟩, rr, trivial⟩
 · repeat' (first | (refine CallX.of (s86 n L hL _ ?_ ?_ _ ?_) [(1000000, 1000000)] rfl ⟨lr, lr, trivial⟩ ⟨rr, trivial⟩ rfl rfl ?_; rotate_right; rintro x rout ⟨⟨j, hj1, hj2, hj3, rfl⟩, ⟨c, c1, c2, rfl⟩⟩; refine ⟨rfl, ?_⟩; conv => whnf) | (refine CallX.of (s33 n L hL _ ?_ ?_ [-1, 0, 100, 5000] ?_ ?_) [(1000000, 1000000)] rfl ⟨lr, SV.le_lit rfl rfl, trivial⟩ ⟨rr, trivial⟩ rfl rfl ?_; rotate_right; rintro x rout ⟨⟨u2, hu2, rfl⟩, ⟨c, c1, c2, rfl⟩⟩; have hw2 : -1 ≤ u2 ∧ u2 ≤ 5000 := (by simp at hu2; omega); refine ⟨rfl, ?_⟩; conv => whnf) | (refine CallX.of (sRdg n L hL _ ?_ ?_ u2 ?_ ?_) [(1000000, 1000000)] rfl ⟨lr, lr, trivial⟩ ⟨rr, trivial⟩ rfl rfl ?_; rotate_right; rintro x rout ⟨⟨ri, hri, rfl⟩, ⟨c3, c4, c5, rfl⟩⟩; refine ⟨rfl, ?_⟩; conv => whnf) | (refine br_intro ?_ ?_ <;> intro hb <;> (try simp only [brs] at hb) <;> conv => whnf) | (refine RegX.rule (id := 15) hT rfl [] oTHiF70_15 (by decide +kernel) ?_; conv => whnf) | (refine RegX.rule (id := 18) hT rfl [] oTHiF70_18 (by decide +kernel) ?_; conv => whnf) | (refine RegX.rule (id := 6) hT rfl [] oTHiF70_6 (by decide +kernel) ?_; conv => whnf) | omega | (refine And.intro ?_ ?_; ((try dsimp only); first | omega | (refine szA rfl ?_; omega) | (refine szB rfl ?_; omega) | (unfold inI64; omega) | exact rfl | (simp only [lns] at *; omega) | decide | (unfold inI64; decide)); conv => whnf) | decide | assumption)
   refine .freeze _ 30 162 9 _ _ rfl (.ent _ _ (Entails.froCell 2 30 9 _ 4 _ rfl rfl rfl) (.weak _ ?_))
   conv => whnf
   exact ⟨.agg ((hiF ⟨h.key, h.drv, h.frm, h.to, updL h.legs j.toNat lg0 (fun y => { y with inn := ri })⟩).map .d), [(1000000, strm n L _)],
    SV.le_agg ⟨lr, lr, lr, lr, SV.le_ro (by simp) (fun i hi => rows_updG (f := lgF) (d := lg0) (fun _ _ => rfl) (fun y : Leg => { y with inn := ri }) (fun _ => rfl) i (by simpa using hi)), trivial⟩,
    ⟨⟨⟨h.key, h.drv, h.frm, h.to, updL h.legs j.toNat lg0 (fun y => { y with inn := ri })⟩, ⟨hh.1, hh.2.1, (by simp; omega), (allK_upd (g := fun y : Leg => { y with inn := ri }) (k := 3) ⟨hl3, hh.2.2.2⟩ (fun y hy => ⟨hy.1, hy.2.1, hri⟩)).2⟩, rfl⟩, _, by omega, by omega, rfl⟩, rr, trivial⟩
 · repeat' (first | (refine CallX.of (s86 n L hL _ ?_ ?_ _ ?_) [(1000000, 1000000)] rfl ⟨lr, lr, trivial⟩ ⟨rr, trivial⟩ rfl rfl ?_; rotate_right; rintro x rout ⟨⟨j, hj1, hj2, hj3, rfl⟩, ⟨c, c1, c2, rfl⟩⟩; refine ⟨rfl, ?_⟩; conv => whnf) | (refine CallX.of (s33 n L hL _ ?_ ?_ [0, 0, 1] ?_ ?_) [(1000000, 1000000)] rfl ⟨lr, SV.le_lit rfl rfl, trivial⟩ ⟨rr, trivial⟩ rfl rfl ?_; rotate_right; rintro x rout ⟨⟨u2, hu2, rfl⟩, ⟨c, c1, c2, rfl⟩⟩; refine ⟨rfl, ?_⟩; conv => whnf) | (refine br_intro ?_ ?_ <;> intro hb <;> (try simp only [brs] at hb) <;> conv => whnf) | (refine RegX.rule (id := 15) hT rfl [] oTHiF70_15 (by decide +kernel) ?_; conv => whnf) | (refine RegX.rule (id := 18) hT rfl [] oTHiF70_18 (by decide +kernel) ?_; conv => whnf) | (refine RegX.rule (id := 6) hT rfl [] oTHiF70_6 (by decide +kernel) ?_; conv => whnf) | omega | (refine And.intro ?_ ?_; ((try dsimp only); first | omega | (refine szA rfl ?_; omega) | (refine szB rfl ?_; omega) | (unfold inI64; omega) | exact rfl | (simp only [lns] at *; omega) | decide | (unfold inI64; decide)); conv => whnf) | decide | assumption)
   refine .freeze _ 30 162 9 _ _ rfl (.ent _ _ (Entails.froCell 2 30 9 _ 4 _ rfl rfl rfl) (.weak _ ?_))
   conv => whnf
   exact ⟨.agg ((hiF ⟨h.key, h.drv, h.frm, h.to, updL h.legs j.toNat lg0 (fun y => { y with inn := ⟨-1, [], u2, 0⟩ })⟩).map .d), [(1000000, strm n L _)],
    SV.le_agg ⟨lr, lr, lr, lr, SV.le_ro (by simp) (fun i hi => rows_updG (f := lgF) (d := lg0) (fun _ _ => rfl) (fun y : Leg => { y with inn := ⟨-1, [], u2, 0⟩ }) (fun _ => rfl) i (by simpa using hi)), trivial⟩,
    ⟨⟨⟨h.key, h.drv, h.frm, h.to, updL h.legs j.toNat lg0 (fun y => { y with inn := ⟨-1, [], u2, 0⟩ })⟩, ⟨hh.1, hh.2.1, (by simp; omega), (allK_upd (g := fun y : Leg => { y with inn := ⟨-1, [], u2, 0⟩ }) (k := 3) ⟨hl3, hh.2.2.2⟩ (fun y hy => ⟨hy.1, hy.2.1, by simp [rgB]⟩)).2⟩, rfl⟩, _, by omega, by omega, rfl⟩, rr, trivial⟩
def k4 : List (List UInt8) := [[104, 49], [104, 50], [104, 51], [104, 52]]
set_option maxHeartbeats 4000000 in
theorem sHirs (n : Nat) (L : Nat → Int) (hL : Rok n L) (a : Int) (h0 : 0 ≤ a) (ha : a ≤ 2^35) (m : Int) (hm0 : 0 ≤ m) (hm : m ≤ 4) :
 FSpec Tryz.prog 11 [.ptr 1000000 0, .d (.int .i64 m)] [(1000000, strm n L a)] (fun y r => (∃ l : List Hir, allK (hiB 3) 5 l ∧ y = .d (hirs l)) ∧ Moved n L a 3000 r) := by
 refine spec_of hT (C := []) Tryz.func11 rfl Tryz.call11 rfl rfl rfl ?_
 conv => whnf
 repeat' (first | (refine And.intro (show (0 : Int) ≤ 0 ∧ 0 ≤ min m 4 ∧ min m 4 ≤ ((4 : Nat) : Int) from by omega) ?_; conv => whnf) | (refine br_intro ?_ ?_ <;> intro hb <;> (try simp only [brs] at hb) <;> conv => whnf) | omega | (refine And.intro ?_ ?_; ((try dsimp only); first | omega | (refine szA rfl ?_; omega) | (refine szB rfl ?_; omega) | (unfold inI64; omega) | exact rfl | (simp only [lns] at *; omega) | decide | (unfold inI64; decide)); conv => whnf) | decide | assumption)
 refine LoopX.rule hT (C := []) (ι := Int × List Hir × Nat) (fun (b, l, i) => (a ≤ b ∧ b ≤ a + 500 * i ∧ (i : Int) ≤ m) ∧ allK (hiB 3) i l)
  (fun (b, l, i) => mkSt [(0, .ptr 1000000 0), (5, .buf 5), (11, .d (strs (k4.take m.toNat))), (12, .d (.int .i64 m)), (13, .d (.int .i64 i))] [(1000000, strm n L b), (5, seqB 130 5 hiF hi0 l)])
  (fun (_, _, i) => (m - i).toNat) (a, [], 0) ⟨⟨by simp, by simp, by simpa using hm0⟩, ⟨by simp, by simp⟩⟩ ?_ ?_
 · refine (Entails.nil 5 5 130 5 (rowF hiF hi0 []) rfl rfl (by decide)).trans (Entails.mk' [(1000000, 1000000), (5, 5)] rfl rfl ⟨lr, lr, ?_, SV.le_int (by first | omega | (show (((min m 4 - 0).toNat : Nat) : Int) = m; omega) | (show ((min m 4).toNat : Int) = m; omega)), lr, trivial⟩ ⟨rr, rr, trivial⟩)
   have h4 : (k4.take m.toNat).length = m.toNat := by rw [List.length_take]; show min m.toNat 4 = _; omega
   have hm4 : (min m 4 - 0).toNat = m.toNat := by omega
   refine SV.le_ro (by rw [h4]; first | exact hm4 | omega) (fun i hi => ?_)
   have hi : i < m.toNat := by first | omega | (rw [← hm4]; exact hi)
   have hk : rowF sF [] (k4.take m.toNat) i = rowF sF [] k4 i := by
    simp only [rowF]
    rw [List.getD_eq_getElem?_getD, List.getElem?_take_of_lt hi, ← List.getD_eq_getElem?_getD]
   rw [hk]
   have : i = 0 ∨ i = 1 ∨ i = 2 ∨ i = 3 := by omega
   rcases this with rfl | rfl | rfl | rfl <;> rfl
 rintro ⟨b, l, i⟩ ⟨⟨p1, p2, p3⟩, p4⟩
 have p1 : a ≤ b := p1
 have p2 : b ≤ a + 500 * i := p2
 have p3 : (i : Int) ≤ m := p3
 have p4 : allK (hiB 3) i l := p4
 have hl1 := p4.1
 have h4 : (k4.take m.toNat).length = m.toNat := by rw [List.length_take]; show min m.toNat 4 = _; omega
 have hkl : ((k4.take m.toNat).getD (i : Int).toNat []).length ≤ 8 := by
  by_cases q : (i : Int).toNat < (k4.take m.toNat).length
  · have := List.mem_of_mem_take (getD_mem (x := []) q)
    exact mem_len this rfl
  · rw [List.getD_eq_getElem?_getD, List.getElem?_eq_none (by omega)]; simp
 conv => whnf
 repeat' (first | (refine CallX.of (s33 n L hL _ ?_ ?_ [0, 50, 100, 100, 300, 1000] ?_ ?_) [(1000000, 1000000)] rfl ⟨lr, SV.le_lit rfl rfl, trivial⟩ ⟨rr, trivial⟩ rfl rfl ?_; rotate_right; rintro x rout ⟨⟨u1, hu1, rfl⟩, ⟨c, c1, c2, rfl⟩⟩; have hw1 := pkD hu1 (by decide); refine ⟨rfl, ?_⟩; conv => whnf) | (refine CallX.of (sRh n L hL _ ?_ ?_ ((k4.take m.toNat).getD (i : Int).toNat []) hkl u1 hw1.1 ?_) [(1000000, 1000000)] rfl ⟨lr, lr, lr, trivial⟩ ⟨rr, trivial⟩ rfl rfl ?_; rotate_right; rintro x rout ⟨⟨h, hh, hhl, rfl⟩, ⟨c, c1, c2, rfl⟩⟩; refine ⟨rfl, ?_⟩; conv => whnf) | (refine br_intro ?_ ?_ <;> intro hb <;> (try simp only [brs] at hb) <;> conv => whnf) | omega | (refine And.intro ?_ ?_; ((try dsimp only); first | omega | (refine szA rfl ?_; omega) | (refine szB rfl ?_; omega) | (unfold inI64; omega) | exact rfl | (simp only [lns] at *; omega) | decide | (unfold inI64; decide)); conv => whnf) | decide | assumption)
 · refine ⟨(_, l ++ [h], i + 1), ⟨⟨by omega, ?_, by omega⟩, allK_snoc p4 (by omega) hh⟩, (show (m - ((i + 1 : Nat) : Int)).toNat < (m - (i : Int)).toNat by omega), Entails.mk' [(1000000, 1000000), (5, 25)] rfl rfl ⟨lr, lr, lr, lr, lr, trivial⟩ ⟨rr, Res.le_snocF rfl, trivial⟩⟩
   show _ ≤ a + 500 * ((i + 1 : Nat) : Int)
   omega
 repeat' (first | (refine CallX.of (s84 n L hL _ ?_ ?_ _ ?_) [(1000000, 1000000)] rfl ⟨lr, lr, trivial⟩ ⟨rr, trivial⟩ rfl rfl ?_; rotate_right; rintro x rout ⟨⟨w, rfl⟩, ⟨c, c1, c2, rfl⟩⟩; refine ⟨rfl, ?_⟩; conv => whnf) | (refine CallX.of (sHir n L hL _ ?_ ?_) [(1000000, 1000000)] rfl ⟨lr, trivial⟩ ⟨rr, trivial⟩ rfl rfl ?_; rotate_right; rintro x rout ⟨⟨h, hh, rfl⟩, ⟨c, c1, c2, rfl⟩⟩; refine ⟨rfl, ?_⟩; conv => whnf) | (refine br_intro ?_ ?_ <;> intro hb <;> (try simp only [brs] at hb) <;> conv => whnf) | omega | (refine And.intro ?_ ?_; ((try dsimp only); first | omega | (refine szA rfl ?_; omega) | (refine szB rfl ?_; omega) | (unfold inI64; omega) | exact rfl | (simp only [lns] at *; omega) | decide | (unfold inI64; decide)); conv => whnf) | decide | assumption)
 · refine .freeze _ 33 130 5 _ _ rfl (.weak _ ?_)
   conv => whnf
   exact ⟨_, [(1000000, strm n L _)], SV.le_snocF rfl, ⟨⟨l ++ [h], allK_snoc (allK_le p4 (by omega : i ≤ 4)) (by omega) hh, rfl⟩, _, by omega, by omega, rfl⟩, rr, trivial⟩
 · refine .freeze _ 5 130 5 _ _ rfl (.weak _ ?_)
   conv => whnf
   exact ⟨_, [(1000000, strm n L _)], lr, ⟨⟨l, allK_le p4 (by omega), rfl⟩, _, by omega, by omega, rfl⟩, rr, trivial⟩
open Classical in
theorem hirs_seq {l : List Hir} (h : hirsE l = 0) : (∀ g ∈ l, hirE g = 0) ∧ ∀ i, 0 < i → i < l.length → strLe (l.getD i hi0).key (l.getD (i - 1) hi0).key = false := by
 unfold hirsE at h
 split at h
 · omega
 have hall := firstAt_all h
 refine ⟨fun g hg => ?_, fun i h0 hi => ?_⟩
 · obtain ⟨i, hi, rfl⟩ := mem_getD (d := hi0) hg
   have := hall i hi
   unfold hirsE1 at this
   split at this
   · omega
   · rename_i q; exact Classical.not_not.1 q
 · have := hall i hi
   unfold hirsE1 at this
   split at this
   · omega
   · split at this
     · omega
     · rename_i q
       cases e : strLe (l.getD i hi0).key (l.getD (i - 1) hi0).key with
       | false => rfl
       | true => exact absurd ⟨h0, e⟩ q
end Go.Proofs.YtcjfniddeibbhaaGreatDoor
namespace Go.Proofs
open Go.Shelf
def Tryz.lays106_ren : Go.Shelf.Ren := ⟨fun | 106 => 106 | 213 => 171 | 265 => 238 | n => n, fun | 9 => 9 | 3 => 3 | n => n, fun | n => n⟩
theorem Tryz.lays106 : Go.Proofs.Lays.n106 Tryz.prog Tryz.lays106_ren := {
 mixed := by kernel_rfl
 f106 := Tryz.func106.trans (congrArg some (by kernel_rfl))
 f213 := Tryz.func171.trans (congrArg some (by kernel_rfl))
 f265 := Tryz.func238.trans (congrArg some (by kernel_rfl))
 t3 := Tryz.underlying3
 a3 := Tryz.isAgg3
 z3 := Tryz.sizeOf3
 v3 := Tryz.zeroValue3
 t9 := Tryz.underlying9
 a9 := Tryz.isAgg9
 z9 := Tryz.sizeOf9
 v9 := Tryz.zeroValue9 }
end Go.Proofs
set_option maxRecDepth 20000
namespace Go.Proofs.YtcjfniddeibbhaaGreatDoor
open Go Go.Eng Go.RowKit
theorem cmpB_S : ∀ (a b : List UInt8), Lib.compareBytes a b = cmpS a b := by
 intro a
 induction a with
 | nil => intro b; cases b <;> simp [Lib.compareBytes, cmpS, Op.bytesLess]
 | cons x a ih =>
   intro b
   cases b with
   | nil => simp [Lib.compareBytes, cmpS, Op.bytesLess]
   | cons y b =>
     have := ih b
     unfold cmpS at this ⊢
     simp only [Lib.compareBytes, Op.bytesLess]
     grind
theorem s190 (a b : List UInt8) : FSpec Tryz.prog 106 [.d (.str a), .d (.str b)] [] (fun x r => x = .d (.int .i64 (cmpS a b)) ∧ r = []) := by
 refine FSpec.ofBelow Tryz.call106 (fun G β w vs _ hl hd => ?_)
 match vs, hl with
 | [u, v], _ =>
   have hu := hd 0 _ _ rfl rfl
   have hv := hd 1 _ _ rfl rfl
   cases hu with | d _ _ hu => cases hu with | str _ =>
   cases hv with | d _ _ hv => cases hv with | str _ =>
   refine ⟨.int .i64 (Lib.compareBytes a b), fun G β => ?_, (Go.Proofs.Any.strings_Compare Go.Proofs.Tryz.lays106 ⟨a.toArray⟩ ⟨b.toArray⟩ w).mono ?_⟩
   · rw [← cmpB_S]; exact .d _ _ (.int _ _)
   · rintro e w' ⟨he, rfl⟩
     exact ⟨he, Below.refl _ _⟩
def mV (H : List UInt8 → Bool) (v : List UInt8 → DV) : Res := .map false false [.str] [.nilsl] (fun k => H (strK k)) (fun k => [v (strK k)])
def vF (l : List Hld) : DV := if l = [] then .nilsl else seqD 3 hldF hld0 l
abbrev mF (o : List UInt8 → List Hld) : Res := mV (fun p => !(o p).isEmpty) (fun p => vF (o p))
theorem vF_or (l : List Hld) : (vF l = .nilsl ∧ l = []) ∨ vF l = seqD 3 hldF hld0 l := by
 unfold vF
 by_cases h : l = []
 · rw [if_pos h]; exact .inl ⟨rfl, h⟩
 · rw [if_neg h]; exact .inr rfl
theorem le_froR (o : List UInt8 → List Hld) : Res.le (.map false false [.str] [.nilsl] (fun k => !(o (strK k)).isEmpty) (fun q => bif !(o (strK q)).isEmpty then [.ro 3 (o (strK q)).length (fun i => rowF hldF hld0 (o (strK q)) i)] else [.nilsl])) (mF o) :=
 Res.le_map fun k hk => ⟨rfl, by
  unfold vF
  cases h : o (strK k) with
  | nil => simp [h]
  | cons x l => simp [h]⟩
theorem z73 (f : Flt) (hl : f.plt.length ≤ 1000) (hs : srtP f.plt) (h : List Hir) : FSpec Tryz.prog 73 [flt f, .d (hirs h)] [] (fun y r => y = .agg [.mp 6, .d (hirs h)] ∧ r = [(6, mF (hend f.plt).out)]) := by
 refine spec_of hT (C := []) Tryz.func73 rfl Tryz.call73 rfl rfl rfl ?_
 conv => whnf
 refine CallX.of (z151 f hl hs) [(14, 6)] rfl ⟨lr, trivial⟩ trivial rfl rfl ?_
 rintro x rout ⟨rfl, rfl⟩
 refine ⟨rfl, ?_⟩
 conv => whnf
 repeat' (first | (refine br_intro ?_ ?_ <;> intro hb <;> (try simp only [brs] at hb) <;> conv => whnf) | omega | (refine And.intro ?_ ?_; ((try dsimp only); first | omega | (refine szA rfl ?_; omega) | (refine szB rfl ?_; omega) | (unfold inI64; omega) | exact rfl | (simp only [lns] at *; omega) | decide | (unfold inI64; decide)); conv => whnf) | decide | assumption)
 refine .ent _ _ (Entails.froR 6 rfl) (.weak _ ?_)
 conv => whnf
 exact ⟨.agg [.mp 6, .d (hirs h)], [(6, mF (hend f.plt).out)], lr, ⟨rfl, rfl⟩, le_froR _, trivial⟩
def lookV (o : List Hld) (t : Int) : List UInt8 := (findH o t).getD []
theorem z181 (x : Leg) : FSpec Tryz.prog 181 [.agg ((lgF x).map .d)] [] (fun y r => y = .agg [.d (.int .i64 x.out.tm), .d (.int .i64 (lastE x))] ∧ r = []) := by
 refine spec_of hT (C := []) Tryz.func181 rfl Tryz.call181 rfl rfl rfl ?_
 conv => whnf
 repeat' (first | (refine br_intro ?_ ?_ <;> intro hb <;> (try simp only [brs] at hb) <;> conv => whnf) | omega | (refine And.intro ?_ ?_; ((try dsimp only); first | omega | (refine szA rfl ?_; omega) | (refine szB rfl ?_; omega) | (unfold inI64; omega) | exact rfl | (simp only [lns] at *; omega) | decide | (unfold inI64; decide)); conv => whnf) | decide | assumption)
 all_goals
  refine .ret _ ?_
  conv => whnf
  refine ⟨[], ⟨?_, rfl⟩, trivial⟩
  conv => lhs; whnf
  unfold lastE
  first
   | (rw [if_pos hb]; rfl)
   | (rw [if_neg hb]; rfl)
def hirIx (l : List Hir) (v : List UInt8) (t : Int) : Int := ixF (fun i => occ v (l.getD i hi0) t) l.length
def ownK (o : List Hld) (l : List Hir) (t : Int) : Int := if lookV o t = [] then -1 else hirIx l (lookV o t) t
def oTFlM114_1 : List (Nat × List Nat) := [(0, []), (1, []), (3, [0, 1]), (4, [0, 1]), (6, [0, 1, 3, 4]), (7, [0, 1, 3, 4]), (8, [0, 1, 3, 4]), (9, [0, 1, 3, 4]), (2, [3, 4, 6, 7, 8, 9]), (5, [6, 7, 8, 9]), (10, []), (11, []), (12, []), (13, [])]
def oTFlM114_9 : List (Nat × List Nat) := [(0, []), (1, []), (2, []), (3, []), (4, []), (5, [3, 4]), (6, [3, 4]), (7, [3, 4, 5, 6]), (8, [3, 4, 5, 6]), (9, [3, 4]), (10, [3, 4]), (11, [3, 4]), (12, []), (13, []), (14, [])]
set_option maxHeartbeats 4000000 in
theorem z114 (f : Flt) (hk : fltOk f) : FSpec Tryz.prog 114 [flt f] [] (fun x r => x = .d (.int .i64 (fltE f)) ∧ r = []) := by
 have hlv := hk.veh.1
 have hlp := hk.plt.1
 have H : (if decide ((500 : Int) < f.veh.length) = true then (2 : Int) else 0) = if 500 < f.veh.length then 2 else 0 := by
  simp only [decide_eq_true_eq]; congr 1; rw [eq_iff_iff]; omega
 have h3 := s105 [stasE f.sta, clssE f.cls, if decide ((500 : Int) < f.veh.length) = true then 2 else 0] (by simp)
 rw [show firstE [stasE f.sta, clssE f.cls, if decide ((500 : Int) < f.veh.length) = true then 2 else 0] = fltE0 f from by rw [H]; rfl] at h3
 refine spec_of hT (C := []) Tryz.func114 rfl Tryz.call114 rfl rfl rfl ?_
 conv => whnf
 repeat' (first | (refine CallX.exact (z174 f.sta hk.sta) rfl rfl ?_; rotate_right; conv => whnf) | (refine CallX.exact (z175 f.cls hk.cls) rfl rfl ?_; rotate_right; conv => whnf) | (refine CallX.exact (s107 _ _) rfl rfl ?_; rotate_right; conv => whnf) | (refine CallX.pure h3 ⟨SV.le_lit (by rfl) (by rfl), trivial⟩ rfl ?_; conv => whnf) | (refine br_intro ?_ ?_ <;> intro hb <;> (try simp only [brs] at hb) <;> conv => whnf) | (refine RegX.rule (id := 1) hT rfl [] oTFlM114_1 (by decide +kernel) ?_; conv => whnf) | (refine RegX.rule (id := 9) hT rfl [] oTFlM114_9 (by decide +kernel) ?_; conv => whnf) | omega | (refine And.intro ?_ ?_; ((try dsimp only); first | omega | (refine szA rfl ?_; omega) | (refine szB rfl ?_; omega) | (unfold inI64; omega) | exact rfl | (simp only [lns] at *; omega) | decide | (unfold inI64; decide)); conv => whnf) | decide | assumption)
 · refine .ret _ ?_
   conv => whnf
   refine ⟨[], ⟨?_, rfl⟩, trivial⟩
   conv => lhs; whnf
   congr 2
   unfold fltE; rw [if_pos hb]
 have F0 : fltE0 f = 0 := hb
 refine LoopX.rule hT (C := []) (ι := Nat) (fun i => i ≤ f.veh.length ∧ ∀ j, j < i → vehE1 f j = 0) (fun i => mkSt [(1, .ptr 1 0), (23, .d (vehs f.veh)), (24, .d (.int .i64 f.veh.length)), (25, .d (.int .i64 i))] [(1, fltC f)]) (fun i => f.veh.length - i) 0 ⟨by omega, by omega⟩ (by (refine Entails.mk' [(1, 1)] rfl rfl ?_ ?_ <;> repeat' (first | exact True.intro | exact lr | exact rr | exact SV.le_int (by omega) | exact SV.le_any _ | refine And.intro ?_ ?_)); done) ?_
 rintro i ⟨p1, p2⟩
 have hx : (i : Int) < f.veh.length → (f.veh.getD (i : Int).toNat veh0).key.length ≤ 2^40 ∧ (f.veh.getD (i : Int).toNat veh0).cls.length ≤ 2^40 := fun hi => hk.veh.2 _ (getD_mem (by omega))
 have e1 : (i : Int).toNat = i := Int.toNat_natCast i
 have hbad : ∀ e : Int, i < f.veh.length → e ≠ 0 → vehE1 f i = e → fltE f = e := fun e h h1 h2 => by
  unfold fltE; rw [if_neg (by omega), firstAt_eq h p2 h1 h2, if_pos h1]
 rcases Nat.lt_or_ge i f.veh.length with hi | hi
 · conv => whnf
   repeat' (first | (refine CallX.exact (s108 _ (hx (by omega)).1) rfl rfl ?_; rotate_right; conv => whnf) | (refine CallX.exact (z176 f.cls (Nat.le_trans hk.cls.1 (by decide)) _) rfl rfl ?_; rotate_right; conv => whnf) | (refine br_intro ?_ ?_ <;> intro hb <;> (try simp only [brs] at hb) <;> conv => whnf) | (refine RegX.rule (id := 1) hT rfl [] oTFlM114_1 (by decide +kernel) ?_; conv => whnf) | (refine RegX.rule (id := 9) hT rfl [] oTFlM114_9 (by decide +kernel) ?_; conv => whnf) | omega | (refine And.intro ?_ ?_; ((try dsimp only); first | omega | (refine szA rfl ?_; omega) | (refine szB rfl ?_; omega) | (unfold inI64; omega) | exact rfl | (simp only [lns] at *; omega) | decide | (unfold inI64; decide)); conv => whnf) | decide | assumption)
   all_goals try (exfalso; omega)
   all_goals first
    | (refine ⟨i + 1, ⟨by omega, first_step p2 (by clear p2 hbad hk hx; simp only [e1, toNat_pred] at *; unfold vehE1 strLe; grind)⟩, by omega, (by (refine Entails.mk' [(1, 1)] rfl rfl ?_ ?_ <;> repeat' (first | exact True.intro | exact lr | exact rr | exact SV.le_int (by omega) | exact SV.le_any _ | refine And.intro ?_ ?_)); done)⟩)
    | (refine .ret _ ?_
       conv => whnf
       refine ⟨[], ⟨?_, rfl⟩, trivial⟩
       conv => lhs; whnf
       congr 2
       exact (hbad _ (by omega) (by decide) (by clear p2 hbad hk hx; simp only [e1, toNat_pred] at *; unfold vehE1 strLe; grind)).symm)
 have hil : i = f.veh.length := by omega
 subst hil
 have F1 := firstAt_zero p2
 clear hbad hx p2
 conv => whnf
 repeat' (first | (refine CallX.exact (z177 f hk (vehE_sorted F1)) rfl rfl ?_; rotate_right; conv => whnf) | (refine br_intro ?_ ?_ <;> intro hb <;> (try simp only [brs] at hb) <;> conv => whnf) | (refine RegX.rule (id := 1) hT rfl [] oTFlM114_1 (by decide +kernel) ?_; conv => whnf) | (refine RegX.rule (id := 9) hT rfl [] oTFlM114_9 (by decide +kernel) ?_; conv => whnf) | omega | (refine And.intro ?_ ?_; ((try dsimp only); first | omega | (refine szA rfl ?_; omega) | (refine szB rfl ?_; omega) | (unfold inI64; omega) | exact rfl | (simp only [lns] at *; omega) | decide | (unfold inI64; decide)); conv => whnf) | decide | assumption)
 all_goals try (exfalso; omega)
 refine .ret _ ?_
 conv => whnf
 refine ⟨[], ⟨?_, rfl⟩, trivial⟩
 conv => lhs; whnf
 congr 2
 unfold fltE pltsE
 simp [F0, F1]
def offE (f : Flt) (h : List Hir) : Int := firstE [fltE f, hirsE h]
theorem z72 (f : Flt) (hk : fltOk f) (h : List Hir) (hh : hiOk h) : FSpec Tryz.prog 72 [flt f, .d (hirs h)] [] (fun x r => x = .d (.int .i64 (offE f h)) ∧ r = []) := by
 have h3 := s105 [fltE f, hirsE h] (by simp)
 rw [show firstE [fltE f, hirsE h] = offE f h from rfl] at h3
 refine spec_of hT (C := []) Tryz.func72 rfl Tryz.call72 rfl rfl rfl ?_
 conv => whnf
 repeat' (first | (refine CallX.exact (z114 f hk) rfl rfl ?_; rotate_right; conv => whnf) | (refine CallX.exact (z124 h hh) rfl rfl ?_; rotate_right; conv => whnf) | (refine CallX.pure h3 ⟨SV.le_lit (by rfl) (by rfl), trivial⟩ rfl ?_; conv => whnf) | (refine br_intro ?_ ?_ <;> intro hb <;> (try simp only [brs] at hb) <;> conv => whnf) | omega | (refine And.intro ?_ ?_; ((try dsimp only); first | omega | (refine szA rfl ?_; omega) | (refine szB rfl ?_; omega) | (unfold inI64; omega) | exact rfl | (simp only [lns] at *; omega) | decide | (unfold inI64; decide)); conv => whnf) | decide | assumption)
 refine .ret _ ?_
 conv => whnf
 refine ⟨[], ⟨?_, rfl⟩, trivial⟩
 conv => lhs; whnf
theorem s221_0 : FSpec Tryz.prog 229 [.d (.int .u64 0)] [] (fun y r => (∃ m : Int, y = .d (.int .i64 m)) ∧ r = []) := by
 refine spec_of hT (C := []) Tryz.func229 rfl Tryz.call229 rfl rfl rfl ?_
 conv => whnf
 repeat' (first | (refine br_intro ?_ ?_ <;> intro hb <;> (try simp only [brs] at hb) <;> conv => whnf) | omega | (refine And.intro ?_ ?_; ((try dsimp only); first | omega | (refine szA rfl ?_; omega) | (refine szB rfl ?_; omega) | (unfold inI64; omega) | exact rfl | (simp only [lns] at *; omega) | decide | (unfold inI64; decide)); conv => whnf) | decide | assumption)
 refine .ret _ ?_
 conv => whnf
 exact ⟨[], ⟨⟨_, rfl⟩, rfl⟩, trivial⟩
theorem s221_1 : FSpec Tryz.prog 229 [.d (.int .u64 1)] [] (fun y r => (∃ m : Int, y = .d (.int .i64 m)) ∧ r = []) := by
 refine spec_of hT (C := []) Tryz.func229 rfl Tryz.call229 rfl rfl rfl ?_
 conv => whnf
 repeat' (first | (refine br_intro ?_ ?_ <;> intro hb <;> (try simp only [brs] at hb) <;> conv => whnf) | omega | (refine And.intro ?_ ?_; ((try dsimp only); first | omega | (refine szA rfl ?_; omega) | (refine szB rfl ?_; omega) | (unfold inI64; omega) | exact rfl | (simp only [lns] at *; omega) | decide | (unfold inI64; decide)); conv => whnf) | decide | assumption)
 refine .ret _ ?_
 conv => whnf
 exact ⟨[], ⟨⟨_, rfl⟩, rfl⟩, trivial⟩
theorem s221_2 : FSpec Tryz.prog 229 [.d (.int .u64 2)] [] (fun y r => (∃ m : Int, y = .d (.int .i64 m)) ∧ r = []) := by
 refine spec_of hT (C := []) Tryz.func229 rfl Tryz.call229 rfl rfl rfl ?_
 conv => whnf
 repeat' (first | (refine br_intro ?_ ?_ <;> intro hb <;> (try simp only [brs] at hb) <;> conv => whnf) | omega | (refine And.intro ?_ ?_; ((try dsimp only); first | omega | (refine szA rfl ?_; omega) | (refine szB rfl ?_; omega) | (unfold inI64; omega) | exact rfl | (simp only [lns] at *; omega) | decide | (unfold inI64; decide)); conv => whnf) | decide | assumption)
 refine .ret _ ?_
 conv => whnf
 exact ⟨[], ⟨⟨_, rfl⟩, rfl⟩, trivial⟩
theorem s221_3 : FSpec Tryz.prog 229 [.d (.int .u64 3)] [] (fun y r => (∃ m : Int, y = .d (.int .i64 m)) ∧ r = []) := by
 refine spec_of hT (C := []) Tryz.func229 rfl Tryz.call229 rfl rfl rfl ?_
 conv => whnf
 repeat' (first | (refine br_intro ?_ ?_ <;> intro hb <;> (try simp only [brs] at hb) <;> conv => whnf) | omega | (refine And.intro ?_ ?_; ((try dsimp only); first | omega | (refine szA rfl ?_; omega) | (refine szB rfl ?_; omega) | (unfold inI64; omega) | exact rfl | (simp only [lns] at *; omega) | decide | (unfold inI64; decide)); conv => whnf) | decide | assumption)
 refine .ret _ ?_
 conv => whnf
 exact ⟨[], ⟨⟨_, rfl⟩, rfl⟩, trivial⟩
theorem s221_4 : FSpec Tryz.prog 229 [.d (.int .u64 4)] [] (fun y r => (∃ m : Int, y = .d (.int .i64 m)) ∧ r = []) := by
 refine spec_of hT (C := []) Tryz.func229 rfl Tryz.call229 rfl rfl rfl ?_
 conv => whnf
 repeat' (first | (refine br_intro ?_ ?_ <;> intro hb <;> (try simp only [brs] at hb) <;> conv => whnf) | omega | (refine And.intro ?_ ?_; ((try dsimp only); first | omega | (refine szA rfl ?_; omega) | (refine szB rfl ?_; omega) | (unfold inI64; omega) | exact rfl | (simp only [lns] at *; omega) | decide | (unfold inI64; decide)); conv => whnf) | decide | assumption)
 refine .ret _ ?_
 conv => whnf
 exact ⟨[], ⟨⟨_, rfl⟩, rfl⟩, trivial⟩
theorem s221_5 : FSpec Tryz.prog 229 [.d (.int .u64 5)] [] (fun y r => (∃ m : Int, y = .d (.int .i64 m)) ∧ r = []) := by
 refine spec_of hT (C := []) Tryz.func229 rfl Tryz.call229 rfl rfl rfl ?_
 conv => whnf
 repeat' (first | (refine br_intro ?_ ?_ <;> intro hb <;> (try simp only [brs] at hb) <;> conv => whnf) | omega | (refine And.intro ?_ ?_; ((try dsimp only); first | omega | (refine szA rfl ?_; omega) | (refine szB rfl ?_; omega) | (unfold inI64; omega) | exact rfl | (simp only [lns] at *; omega) | decide | (unfold inI64; decide)); conv => whnf) | decide | assumption)
 refine .ret _ ?_
 conv => whnf
 exact ⟨[], ⟨⟨_, rfl⟩, rfl⟩, trivial⟩
theorem s221_6 : FSpec Tryz.prog 229 [.d (.int .u64 6)] [] (fun y r => (∃ m : Int, y = .d (.int .i64 m)) ∧ r = []) := by
 refine spec_of hT (C := []) Tryz.func229 rfl Tryz.call229 rfl rfl rfl ?_
 conv => whnf
 repeat' (first | (refine br_intro ?_ ?_ <;> intro hb <;> (try simp only [brs] at hb) <;> conv => whnf) | omega | (refine And.intro ?_ ?_; ((try dsimp only); first | omega | (refine szA rfl ?_; omega) | (refine szB rfl ?_; omega) | (unfold inI64; omega) | exact rfl | (simp only [lns] at *; omega) | decide | (unfold inI64; decide)); conv => whnf) | decide | assumption)
 refine .ret _ ?_
 conv => whnf
 exact ⟨[], ⟨⟨_, rfl⟩, rfl⟩, trivial⟩
theorem s221_7 : FSpec Tryz.prog 229 [.d (.int .u64 7)] [] (fun y r => (∃ m : Int, y = .d (.int .i64 m)) ∧ r = []) := by
 refine spec_of hT (C := []) Tryz.func229 rfl Tryz.call229 rfl rfl rfl ?_
 conv => whnf
 repeat' (first | (refine br_intro ?_ ?_ <;> intro hb <;> (try simp only [brs] at hb) <;> conv => whnf) | omega | (refine And.intro ?_ ?_; ((try dsimp only); first | omega | (refine szA rfl ?_; omega) | (refine szB rfl ?_; omega) | (unfold inI64; omega) | exact rfl | (simp only [lns] at *; omega) | decide | (unfold inI64; decide)); conv => whnf) | decide | assumption)
 refine .ret _ ?_
 conv => whnf
 exact ⟨[], ⟨⟨_, rfl⟩, rfl⟩, trivial⟩
theorem s221_8 : FSpec Tryz.prog 229 [.d (.int .u64 8)] [] (fun y r => (∃ m : Int, y = .d (.int .i64 m)) ∧ r = []) := by
 refine spec_of hT (C := []) Tryz.func229 rfl Tryz.call229 rfl rfl rfl ?_
 conv => whnf
 repeat' (first | (refine br_intro ?_ ?_ <;> intro hb <;> (try simp only [brs] at hb) <;> conv => whnf) | omega | (refine And.intro ?_ ?_; ((try dsimp only); first | omega | (refine szA rfl ?_; omega) | (refine szB rfl ?_; omega) | (unfold inI64; omega) | exact rfl | (simp only [lns] at *; omega) | decide | (unfold inI64; decide)); conv => whnf) | decide | assumption)
 refine .ret _ ?_
 conv => whnf
 exact ⟨[], ⟨⟨_, rfl⟩, rfl⟩, trivial⟩
theorem s221_9 : FSpec Tryz.prog 229 [.d (.int .u64 9)] [] (fun y r => (∃ m : Int, y = .d (.int .i64 m)) ∧ r = []) := by
 refine spec_of hT (C := []) Tryz.func229 rfl Tryz.call229 rfl rfl rfl ?_
 conv => whnf
 repeat' (first | (refine br_intro ?_ ?_ <;> intro hb <;> (try simp only [brs] at hb) <;> conv => whnf) | omega | (refine And.intro ?_ ?_; ((try dsimp only); first | omega | (refine szA rfl ?_; omega) | (refine szB rfl ?_; omega) | (unfold inI64; omega) | exact rfl | (simp only [lns] at *; omega) | decide | (unfold inI64; decide)); conv => whnf) | decide | assumption)
 refine .ret _ ?_
 conv => whnf
 exact ⟨[], ⟨⟨_, rfl⟩, rfl⟩, trivial⟩
theorem s221_10 : FSpec Tryz.prog 229 [.d (.int .u64 10)] [] (fun y r => (∃ m : Int, y = .d (.int .i64 m)) ∧ r = []) := by
 refine spec_of hT (C := []) Tryz.func229 rfl Tryz.call229 rfl rfl rfl ?_
 conv => whnf
 repeat' (first | (refine br_intro ?_ ?_ <;> intro hb <;> (try simp only [brs] at hb) <;> conv => whnf) | omega | (refine And.intro ?_ ?_; ((try dsimp only); first | omega | (refine szA rfl ?_; omega) | (refine szB rfl ?_; omega) | (unfold inI64; omega) | exact rfl | (simp only [lns] at *; omega) | decide | (unfold inI64; decide)); conv => whnf) | decide | assumption)
 refine .ret _ ?_
 conv => whnf
 exact ⟨[], ⟨⟨_, rfl⟩, rfl⟩, trivial⟩
theorem s221_11 : FSpec Tryz.prog 229 [.d (.int .u64 11)] [] (fun y r => (∃ m : Int, y = .d (.int .i64 m)) ∧ r = []) := by
 refine spec_of hT (C := []) Tryz.func229 rfl Tryz.call229 rfl rfl rfl ?_
 conv => whnf
 repeat' (first | (refine br_intro ?_ ?_ <;> intro hb <;> (try simp only [brs] at hb) <;> conv => whnf) | omega | (refine And.intro ?_ ?_; ((try dsimp only); first | omega | (refine szA rfl ?_; omega) | (refine szB rfl ?_; omega) | (unfold inI64; omega) | exact rfl | (simp only [lns] at *; omega) | decide | (unfold inI64; decide)); conv => whnf) | decide | assumption)
 refine .ret _ ?_
 conv => whnf
 exact ⟨[], ⟨⟨_, rfl⟩, rfl⟩, trivial⟩
theorem s221_12 : FSpec Tryz.prog 229 [.d (.int .u64 12)] [] (fun y r => (∃ m : Int, y = .d (.int .i64 m)) ∧ r = []) := by
 refine spec_of hT (C := []) Tryz.func229 rfl Tryz.call229 rfl rfl rfl ?_
 conv => whnf
 repeat' (first | (refine br_intro ?_ ?_ <;> intro hb <;> (try simp only [brs] at hb) <;> conv => whnf) | omega | (refine And.intro ?_ ?_; ((try dsimp only); first | omega | (refine szA rfl ?_; omega) | (refine szB rfl ?_; omega) | (unfold inI64; omega) | exact rfl | (simp only [lns] at *; omega) | decide | (unfold inI64; decide)); conv => whnf) | decide | assumption)
 refine .ret _ ?_
 conv => whnf
 exact ⟨[], ⟨⟨_, rfl⟩, rfl⟩, trivial⟩
theorem s221 (n : Nat) (hn : n ≤ 12) : FSpec Tryz.prog 229 [.d (.int .u64 n)] [] (fun y r => (∃ m : Int, y = .d (.int .i64 m)) ∧ r = []) := by
 match n, hn with
 | 0, _ => exact s221_0
 | 1, _ => exact s221_1
 | 2, _ => exact s221_2
 | 3, _ => exact s221_3
 | 4, _ => exact s221_4
 | 5, _ => exact s221_5
 | 6, _ => exact s221_6
 | 7, _ => exact s221_7
 | 8, _ => exact s221_8
 | 9, _ => exact s221_9
 | 10, _ => exact s221_10
 | 11, _ => exact s221_11
 | 12, _ => exact s221_12
 | n + 13, h => omega
theorem wrap_u64 (n : Nat) (hn : n ≤ 12) : IntKind.u64.wrap n = n := by
 match n, hn with
 | 0, _ | 1, _ | 2, _ | 3, _ | 4, _ | 5, _ | 6, _ | 7, _ | 8, _ | 9, _ | 10, _ | 11, _ | 12, _ => decide
 | n + 13, h => omega
theorem sBitsLen (n : Nat) (hn : n ≤ 12) : FSpec Tryz.prog 169 [.d (.int .u64 (IntKind.u64.wrap n))] [] (fun y r => (∃ m : Int, y = .d (.int .i64 m)) ∧ r = []) := by
 rw [wrap_u64 n hn]
 refine spec_of hT (C := []) Tryz.func169 rfl Tryz.call169 rfl rfl rfl ?_
 conv => whnf
 repeat' (first | (refine br_intro ?_ ?_ <;> intro hb <;> (try simp only [brs] at hb) <;> conv => whnf) | omega | (refine And.intro ?_ ?_; ((try dsimp only); first | omega | (refine szA rfl ?_; omega) | (refine szB rfl ?_; omega) | (unfold inI64; omega) | exact rfl | (simp only [lns] at *; omega) | decide | (unfold inI64; decide)); conv => whnf) | decide | assumption)
 refine CallX.of (s221 n hn) [] rfl ⟨lr, trivial⟩ trivial rfl rfl ?_
 rintro x rout ⟨⟨m, rfl⟩, rfl⟩
 refine ⟨rfl, ?_⟩
 conv => whnf
 refine .ret _ ?_
 conv => whnf
 exact ⟨[], ⟨⟨_, rfl⟩, rfl⟩, trivial⟩
def oTFlN251_4 : List (Nat × List Nat) := [(0, []), (1, [0]), (2, []), (3, []), (4, []), (5, [4]), (6, [4, 5]), (7, [4]), (8, [4]), (9, [4, 5, 6, 7, 8]), (10, [4, 5, 6, 7, 8, 9]), (11, [4, 5, 6, 7, 8, 9]), (12, [4, 5, 6, 7, 8]), (13, [4, 5, 6, 7, 8]), (14, []), (15, []), (16, [])]
def oTFlN251_6 : List (Nat × List Nat) := [(0, []), (1, [0]), (2, [0, 1]), (3, [0, 1, 2]), (4, [0, 1, 2]), (5, [0, 1, 2, 3, 4]), (6, [0, 1, 2, 3, 4, 5]), (7, [0, 1, 2, 3, 4, 5]), (8, [0, 1, 2, 3, 4]), (9, [0, 1, 2, 3, 4]), (10, [0, 1, 2, 3, 4, 5, 6, 7, 8, 9]), (11, [0, 1, 2, 3, 4, 5, 6, 7, 8, 9, 10]), (12, [0, 1, 2, 3, 4, 5, 6, 7, 8, 9]), (13, [0, 1, 2, 3, 4, 5, 6, 7, 8, 9]), (14, [2, 3, 4]), (15, [2, 3, 4]), (16, []), (17, [])]
def oTFlN187_17 : List (Nat × List Nat) := [(0, []), (1, []), (2, []), (3, []), (4, [3]), (5, [3, 4]), (6, [3, 4]), (7, [3]), (8, [3]), (9, [3, 4, 5, 6, 7, 8]), (10, [3, 4, 5, 6, 7, 8, 9]), (11, [3, 4, 5, 6, 7, 8]), (12, [3, 4, 5, 6, 7, 8]), (13, []), (14, []), (15, []), (16, [])]
abbrev pltB (l : List Plt) : Res := seqB 126 3 pltF plt0 l
abbrev staB (l : List Sta) : Res := seqB 121 15 staF sta0 l
abbrev vehB (l : List Veh) : Res := seqB 124 2 vehF veh0 l
theorem z137 (l : List Plt) (hl : l.length ≤ 2^20) : FSpec Tryz.prog 137 [.buf 1000001] [(1000001, pltB l)] (fun y r => (y = .d .nilsl ∧ l = [] ∧ r = [(1000001, pltB l)]) ∨ (y = .buf 7 ∧ r = [(7, pltB l), (1000001, pltB l)])) := by
 refine spec_of hT (C := [5]) Tryz.func137 rfl Tryz.call137 rfl rfl rfl ?_
 conv => whnf
 rintro b hbn
 conv => whnf
 repeat' (first | (refine br_intro ?_ ?_ <;> intro hb <;> (try simp only [brs] at hb) <;> conv => whnf) | omega | (refine And.intro ?_ ?_; ((try dsimp only); first | omega | (refine szA rfl ?_; omega) | (refine szB rfl ?_; omega) | (unfold inI64; omega) | exact rfl | (simp only [lns] at *; omega) | decide | (unfold inI64; decide)); conv => whnf) | decide | assumption)
 · have : l = [] := List.eq_nil_of_length_eq_zero (hbn (by assumption))
   refine .ret _ ?_
   conv => whnf
   exact ⟨_, .inl ⟨rfl, this, rfl⟩, rr, trivial⟩
 · refine .ret _ ?_
   conv => whnf
   refine ⟨_, .inr ⟨rfl, rfl⟩, Res.le_buf (by simp) (fun i hi => ?_), rr, trivial⟩
   rw [appGet_ge (by omega)]; rfl
def rfCmp (p q : Plt) : Int := if p.frm ≠ q.frm then p.frm - q.frm else cmpS (p.veh ++ [32] ++ p.plt) (q.veh ++ [32] ++ q.plt)
theorem z139 (p q : Plt) (hp : pltK p) (hq : pltK q) : FSpec Tryz.prog 139 [.agg ((pltF p).map .d), .agg ((pltF q).map .d)] [] (fun y r => y = .d (.int .i64 (rfCmp p q)) ∧ r = []) := by
 have h1 := hp.2.1
 have h2 := hp.2.2
 have h3 := hq.2.1
 have h4 := hq.2.2
 have h5 := hp.1
 have h6 := hq.1
 refine spec_of hT (C := []) Tryz.func139 rfl Tryz.call139 rfl rfl rfl ?_
 conv => whnf
 repeat' (first | (refine CallX.exact (s190 _ _) rfl rfl ?_; rotate_right; conv => whnf) | (refine br_intro ?_ ?_ <;> intro hb <;> (try simp only [brs] at hb) <;> conv => whnf) | omega | (refine And.intro ?_ ?_; ((try dsimp only); first | omega | (refine szA rfl ?_; omega) | (refine szB rfl ?_; omega) | (unfold inI64; omega) | exact rfl | (simp only [lns] at *; omega) | decide | (unfold inI64; decide)); conv => whnf) | decide | assumption)
 all_goals
  refine .ret _ ?_
  conv => whnf
  refine ⟨[], ⟨?_, rfl⟩, trivial⟩
  conv => lhs; whnf
  congr 2
  unfold rfCmp
  first | (rw [if_pos (by simpa using hb)]; done) | (rw [if_neg (by simpa using hb)]; done)
theorem swap_midPl {A B : List Plt} {x y : Plt} {D b : List Plt} {j : Nat} (hb : (y :: A).reverse ++ [x] ++ B ++ D = b) (hj : j = A.length + 1) :
 b.getD j plt0 = x ∧ b.getD (j - 1) plt0 = y ∧ (b.set j y).set (j - 1) x = A.reverse ++ [x] ++ (y :: B) ++ D := by
 subst hj
 refine ⟨?_, ?_, ?_⟩
 · rw [← hb, show (y :: A).reverse ++ [x] ++ B ++ D = (y :: A).reverse ++ x :: (B ++ D) by simp]
   exact getD_mid _ _ _ _ (by simp)
 · rw [← hb, show (y :: A).reverse ++ [x] ++ B ++ D = A.reverse ++ y :: ([x] ++ B ++ D) by simp]
   exact getD_mid _ _ _ _ (by simp)
 · rw [← hb]
   have := swap_lemma A.reverse (B ++ D) x y
   simp only [List.length_reverse] at this
   simp only [List.reverse_cons, List.append_assoc, List.singleton_append, List.cons_append, List.nil_append, Nat.add_sub_cancel] at this ⊢
   exact this
theorem sInsPl (g : FuncId) (cmp : Plt → Plt → Int) (l : List Plt) (hl : l.length ≤ 2^40)
 (hcmp : ∀ p q, p ∈ l → q ∈ l → FSpec Tryz.prog g [.agg ((pltF p).map .d), .agg ((pltF q).map .d)] [] (fun y r => y = .d (.int .i64 (cmp p q)) ∧ r = [])) :
 FSpec Tryz.prog 251 [.buf 1000001, .d (.int .i64 0), .d (.int .i64 l.length), .fn g []] [(1000001, seqB 126 3 pltF plt0 l)]
  (fun y r => y = .tup [] ∧ r = [(1000001, seqB 126 3 pltF plt0 (isort cmp l))]) := by
 refine spec_of hT (C := []) Tryz.func251 rfl Tryz.call251 rfl rfl rfl ?_
 conv => whnf
 repeat' (first | (refine br_intro ?_ ?_ <;> intro hb <;> (try simp only [brs] at hb) <;> conv => whnf) | (refine RegX.rule (id := 4) hT rfl [] oTFlN251_4 (by decide +kernel) ?_; conv => whnf) | (refine RegX.rule (id := 6) hT rfl [] oTFlN251_6 (by decide +kernel) ?_; conv => whnf) | omega | (refine And.intro ?_ ?_; ((try dsimp only); first | omega | (refine szA rfl ?_; omega) | (refine szB rfl ?_; omega) | (unfold inI64; omega) | exact rfl | (simp only [lns] at *; omega) | decide | (unfold inI64; decide)); conv => whnf) | decide | assumption)
 refine LoopX.rule hT (C := []) (ι := Nat × List Plt) (fun (i, c) => 1 ≤ i ∧ (i ≤ l.length ∨ i = 1) ∧ c = (isortR cmp (l.take i)).reverse ++ l.drop i)
  (fun (i, c) => mkSt [(0, .buf 1000001), (1, .d (.int .i64 0)), (2, .d (.int .i64 l.length)), (3, .fn g []), (8, .d (.int .i64 i))] [(1000001, seqB 126 3 pltF plt0 c)])
  (fun (i, _) => l.length - i) (1, l) ⟨by simp, by simp, by cases l with | nil => rfl | cons x l => simp [isortR, insR]⟩ (by (refine Entails.mk' [(1000001, 1000001)] rfl rfl ?_ ?_ <;> repeat' (first | exact True.intro | exact lr | exact rr | exact SV.le_int (by omega) | exact SV.le_any _ | refine And.intro ?_ ?_)); done) ?_
 rintro ⟨i, c⟩ ⟨p1, p2, p3⟩
 conv => whnf
 repeat' (first | (refine br_intro ?_ ?_ <;> intro hb <;> (try simp only [brs] at hb) <;> conv => whnf) | (refine RegX.rule (id := 4) hT rfl [] oTFlN251_4 (by decide +kernel) ?_; conv => whnf) | (refine RegX.rule (id := 6) hT rfl [] oTFlN251_6 (by decide +kernel) ?_; conv => whnf) | omega | (refine And.intro ?_ ?_; ((try dsimp only); first | omega | (refine szA rfl ?_; omega) | (refine szB rfl ?_; omega) | (unfold inI64; omega) | exact rfl | (simp only [lns] at *; omega) | decide | (unfold inI64; decide)); conv => whnf) | decide | assumption)
 · have hi : i < l.length := by omega
   have hx : l[i] ∈ l := List.getElem_mem hi
   have hmem : ∀ y ∈ isortR cmp (l.take i), y ∈ l := fun y hy => List.mem_of_mem_take ((isortR_mem cmp _).1 hy)
   have hlr : (isortR cmp (l.take i)).length = i := by rw [isortR_length, List.length_take]; omega
   have hc : c = (isortR cmp (l.take i)).reverse ++ [l[i]] ++ [] ++ l.drop (i + 1) := by rw [p3, List.drop_eq_getElem_cons hi]; simp
   refine LoopX.rule hT (C := []) (ι := List Plt × List Plt × List Plt) (fun (A, B, b) => insR cmp l[i] (isortR cmp (l.take i)) = B.reverse ++ insR cmp l[i] A ∧ A.length + B.length = i ∧ (∀ y ∈ A, y ∈ l) ∧ A.reverse ++ [l[i]] ++ B ++ l.drop (i + 1) = b)
    (fun (A, B, b) => mkSt [(0, .buf 1000001), (1, .d (.int .i64 0)), (2, .d (.int .i64 l.length)), (3, .fn g []), (8, .d (.int .i64 i)), (9, .d (.int .i64 A.length))] [(1000001, seqB 126 3 pltF plt0 b)])
    (fun (A, _, _) => A.length) (isortR cmp (l.take i), [], c) ⟨by simp, by simpa using hlr, hmem, hc.symm⟩ ?_ ?_
   · exact Entails.mk' [(1000001, 1000001)] rfl rfl ⟨lr, lr, lr, lr, lr, SV.le_int (by omega), trivial⟩ ⟨rr, trivial⟩
   rintro ⟨A, B, b⟩ ⟨q1, q2, q3, hbd⟩
   have hlen : b.length = l.length := by rw [← hbd]; simp; omega
   have hfin : A = [] ∨ (∃ y A', A = y :: A' ∧ 0 ≤ cmp l[i] y) → isortR cmp (l.take (i + 1)) = B.reverse ++ l[i] :: A ∧ b = (isortR cmp (l.take (i + 1))).reverse ++ l.drop (i + 1) := fun h => by
    have e : isortR cmp (l.take (i + 1)) = B.reverse ++ l[i] :: A := by
     rw [take_snoc hi, isortR_snoc, q1]
     rcases h with rfl | ⟨y, A', rfl, h⟩
     · rfl
     · rw [insR, if_neg (by omega)]
    exact ⟨e, by rw [e, ← hbd]; simp⟩
   conv => whnf
   repeat' (first | (refine br_intro ?_ ?_ <;> intro hb <;> (try simp only [brs] at hb) <;> conv => whnf) | (refine RegX.rule (id := 4) hT rfl [] oTFlN251_4 (by decide +kernel) ?_; conv => whnf) | (refine RegX.rule (id := 6) hT rfl [] oTFlN251_6 (by decide +kernel) ?_; conv => whnf) | omega | (refine And.intro ?_ ?_; ((try dsimp only); first | omega | (refine szA rfl ?_; omega) | (refine szB rfl ?_; omega) | (unfold inI64; omega) | exact rfl | (simp only [lns] at *; omega) | decide | (unfold inI64; decide)); conv => whnf) | decide | assumption)
   · cases A with
     | nil => simp at hb
     | cons y A =>
     obtain ⟨g1, g2, g3⟩ := swap_midPl (j := (((y :: A).length : Int)).toNat) hbd (by simp)
     have ej : ((((y :: A).length : Int)) - 1).toNat = (((y :: A).length : Int)).toNat - 1 := by omega
     refine CallX.of (hcmp l[i] y hx (q3 y (by simp))) [] rfl ⟨by rw [← g1]; exact lr, by rw [← g2, ← ej]; exact lr, trivial⟩ trivial rfl rfl ?_
     rintro x rout ⟨rfl, rfl⟩
     refine ⟨rfl, ?_⟩
     conv => whnf
     repeat' (first | (refine br_intro ?_ ?_ <;> intro hb <;> (try simp only [brs] at hb) <;> conv => whnf) | (refine RegX.rule (id := 4) hT rfl [] oTFlN251_4 (by decide +kernel) ?_; conv => whnf) | (refine RegX.rule (id := 6) hT rfl [] oTFlN251_6 (by decide +kernel) ?_; conv => whnf) | omega | (refine And.intro ?_ ?_; ((try dsimp only); first | omega | (refine szA rfl ?_; omega) | (refine szB rfl ?_; omega) | (unfold inI64; omega) | exact rfl | (simp only [lns] at *; omega) | decide | (unfold inI64; decide)); conv => whnf) | decide | assumption)
     · refine ⟨(A, y :: B, _), ⟨by rw [q1]; simp [insR, hb], by simp only [List.length_cons] at q2 ⊢; omega, fun z hz => q3 z (by simp [hz]), ?_⟩, by show A.length < (y :: A).length; simp, Entails.mk' [(1000001, 1000001)] rfl rfl ⟨lr, lr, lr, lr, lr, SV.le_int (by simp only [List.length_cons]; omega), trivial⟩ ⟨Res.le_put2 (x := b.getD ((((y :: A).length : Int)) - 1).toNat plt0) (y := b.getD (((y :: A).length : Int)).toNat plt0) (fun _ => rfl) (fun _ => rfl), trivial⟩⟩
       rw [← g3, ej, g1, g2]
     · obtain ⟨_, h2⟩ := hfin (.inr ⟨y, A, rfl, hb⟩)
       exact ⟨(i + 1, b), ⟨by omega, by omega, h2⟩, by show l.length - (i + 1) < l.length - i; omega, (by (refine Entails.mk' [(1000001, 1000001)] rfl rfl ?_ ?_ <;> repeat' (first | exact True.intro | exact lr | exact rr | exact SV.le_int (by omega) | exact SV.le_any _ | refine And.intro ?_ ?_)); done)⟩
   · have hA : A = [] := List.length_eq_zero_iff.1 (by omega)
     obtain ⟨_, h2⟩ := hfin (.inl hA)
     exact ⟨(i + 1, b), ⟨by omega, by omega, h2⟩, by show l.length - (i + 1) < l.length - i; omega, (by (refine Entails.mk' [(1000001, 1000001)] rfl rfl ?_ ?_ <;> repeat' (first | exact True.intro | exact lr | exact rr | exact SV.le_int (by omega) | exact SV.le_any _ | refine And.intro ?_ ?_)); done)⟩
 · refine .ret _ ?_
   conv => whnf
   have e1 : c = isort cmp l := by
    rw [p3, List.take_of_length_le (by omega), List.drop_eq_nil_iff.2 (by omega), List.append_nil]; rfl
   subst e1
   exact ⟨_, ⟨rfl, rfl⟩, rr, trivial⟩
theorem sPdqPl (g : FuncId) (cmp : Plt → Plt → Int) (l : List Plt) (hl : l.length ≤ 12) (lim : Int)
 (hcmp : ∀ p q, p ∈ l → q ∈ l → FSpec Tryz.prog g [.agg ((pltF p).map .d), .agg ((pltF q).map .d)] [] (fun y r => y = .d (.int .i64 (cmp p q)) ∧ r = [])) :
 FSpec Tryz.prog 187 [.buf 1000001, .d (.int .i64 0), .d (.int .i64 l.length), .d (.int .i64 lim), .fn g []] [(1000001, seqB 126 3 pltF plt0 l)]
  (fun y r => y = .tup [] ∧ r = [(1000001, seqB 126 3 pltF plt0 (isort cmp l))]) := by
 refine spec_of hT (C := []) Tryz.func187 rfl Tryz.call187 rfl rfl rfl ?_
 conv => whnf
 refine LoopX.unroll hT (C := []) (fun _ _ h => h) (fun _ h => h) ?_
 conv => whnf
 repeat' (first | (refine br_intro ?_ ?_ <;> intro hb <;> (try simp only [brs] at hb) <;> conv => whnf) | (refine RegX.rule (id := 17) hT rfl [] oTFlN187_17 (by decide +kernel) ?_; conv => whnf) | omega | (refine And.intro ?_ ?_; ((try dsimp only); first | omega | (refine szA rfl ?_; omega) | (refine szB rfl ?_; omega) | (unfold inI64; omega) | exact rfl | (simp only [lns] at *; omega) | decide | (unfold inI64; decide)); conv => whnf) | decide | assumption)
 refine CallX.of (sInsPl g cmp l (by omega) hcmp) [(1000001, 1000001)] rfl ⟨lr, lr, lr, lr, trivial⟩ ⟨rr, trivial⟩ rfl rfl ?_
 rintro x rout ⟨rfl, rfl⟩
 refine ⟨rfl, ?_⟩
 conv => whnf
 refine .ret _ ?_
 conv => whnf
 exact ⟨_, ⟨rfl, rfl⟩, rr, trivial⟩
theorem sSortPl (g : FuncId) (cmp : Plt → Plt → Int) (l : List Plt) (hl : l.length ≤ 12)
 (hcmp : ∀ p q, p ∈ l → q ∈ l → FSpec Tryz.prog g [.agg ((pltF p).map .d), .agg ((pltF q).map .d)] [] (fun y r => y = .d (.int .i64 (cmp p q)) ∧ r = [])) :
 FSpec Tryz.prog 138 [.buf 1000001, .fn g []] [(1000001, seqB 126 3 pltF plt0 l)]
  (fun y r => y = .tup [] ∧ r = [(1000001, seqB 126 3 pltF plt0 (isort cmp l))]) := by
 refine spec_of hT (C := []) Tryz.func138 rfl Tryz.call138 rfl rfl rfl ?_
 conv => whnf
 repeat' (first | (refine br_intro ?_ ?_ <;> intro hb <;> (try simp only [brs] at hb) <;> conv => whnf) | omega | (refine And.intro ?_ ?_; ((try dsimp only); first | omega | (refine szA rfl ?_; omega) | (refine szB rfl ?_; omega) | (unfold inI64; omega) | exact rfl | (simp only [lns] at *; omega) | decide | (unfold inI64; decide)); conv => whnf) | decide | assumption)
 refine CallX.of (sBitsLen l.length hl) [] rfl ⟨lr, trivial⟩ trivial rfl rfl ?_
 rintro x rout ⟨⟨lim, rfl⟩, rfl⟩
 refine ⟨rfl, ?_⟩
 conv => whnf
 repeat' (first | (refine br_intro ?_ ?_ <;> intro hb <;> (try simp only [brs] at hb) <;> conv => whnf) | omega | (refine And.intro ?_ ?_; ((try dsimp only); first | omega | (refine szA rfl ?_; omega) | (refine szB rfl ?_; omega) | (unfold inI64; omega) | exact rfl | (simp only [lns] at *; omega) | decide | (unfold inI64; decide)); conv => whnf) | decide | assumption)
 refine CallX.of (sPdqPl g cmp l hl lim hcmp) [(1000001, 1000001)] rfl ⟨lr, lr, lr, lr, lr, trivial⟩ ⟨rr, trivial⟩ rfl rfl ?_
 rintro x rout ⟨rfl, rfl⟩
 refine ⟨rfl, ?_⟩
 conv => whnf
 refine .ret _ ?_
 conv => whnf
 exact ⟨_, ⟨rfl, rfl⟩, rr, trivial⟩
theorem lookL_all {P : Res → Prop} : ∀ {l : List (Nat × Res)}, (∀ p ∈ l, P p.2) → ∀ c q, lookL l c = some q → P q := by
 intro l
 induction l with
 | nil => intro _ c q h; cases h
 | cons p l ih =>
   intro hp c q h
   simp only [lookL] at h
   by_cases e : c = p.1
   · subst e; simp at h; subst h; exact hp p (by simp)
   · rw [nbeq_ne e] at h; exact ih (fun x hx => hp x (by simp [hx])) c q h
theorem flat_pl (l : List Plt) : (pltB l).flat := fun _ _ => rfl
theorem flat_ve (l : List Veh) : (vehB l).flat := fun _ _ => rfl
theorem z21l (f : Flt) (hk : fltOk f) : FSpec Tryz.prog 21 [.agg [.buf 1, .d (clss f.cls), .buf 3, .buf 4]] [(1, staB f.sta), (3, vehB f.veh), (4, pltB f.plt)]
 (fun x r => x = .d (.int .i64 (fltE f)) ∧ r = [(1, staB f.sta), (3, vehB f.veh), (4, pltB f.plt)]) := by
 have h1 := FSpec.lend (args := [.agg [.d (stas f.sta), .d (clss f.cls), .d (vehs f.veh), .buf 4]]) 4 126 3 f.plt.length (rowF pltF plt0 f.plt) (z21 f hk) rfl (fun c r q => nomatch q) rfl
  (fun x r h => by obtain ⟨rfl, rfl⟩ := h; exact ⟨rfl, fun c q e => (nomatch e), rfl⟩)
 have h2 := FSpec.lend (args := [.agg [.d (stas f.sta), .d (clss f.cls), .buf 3, .buf 4]]) 3 124 2 f.veh.length (rowF vehF veh0 f.veh) h1 rfl
  (lookL_all (P := Res.isBuf) (fun p hp => by rw [List.mem_singleton] at hp; subst hp; exact trivial)) rfl
  (fun x r h => by obtain ⟨r0, ⟨rfl, rfl⟩, rfl⟩ := h; exact ⟨rfl, lookL_all (P := Res.flat) (fun p hp => by rw [List.mem_singleton] at hp; subst hp; exact flat_pl _), rfl⟩)
 have h3 := FSpec.lend (args := [.agg [.buf 1, .d (clss f.cls), .buf 3, .buf 4]]) 1 121 15 f.sta.length (rowF staF sta0 f.sta) h2 rfl
  (lookL_all (P := Res.isBuf) (fun p hp => by simp only [List.mem_cons, List.not_mem_nil, or_false] at hp; rcases hp with rfl | rfl <;> exact trivial)) rfl
  (fun x r h => by
    obtain ⟨r1, ⟨r0, ⟨rfl, rfl⟩, rfl⟩, rfl⟩ := h
    exact ⟨rfl, lookL_all (P := Res.flat) (fun p hp => by simp only [List.mem_cons, List.not_mem_nil, or_false] at hp; rcases hp with rfl | rfl; exact flat_ve _; exact flat_pl _), rfl⟩)
 exact h3.mono (fun x r h => by obtain ⟨r2, ⟨r1, ⟨r0, ⟨rfl, rfl⟩, rfl⟩, rfl⟩, rfl⟩ := h; exact ⟨rfl, rfl⟩)
def oTFlO57_8 : List (Nat × List Nat) := [(0, []), (1, []), (2, [0, 1]), (3, [0, 1, 2]), (4, [0, 1, 2]), (5, [0, 1, 2, 3, 4]), (6, [0, 1, 2, 3, 4, 5]), (7, [0, 1, 2, 3, 4, 5]), (8, [0, 1, 2, 3, 4, 5]), (9, [0, 1, 2, 3, 4]), (10, [0, 1, 2]), (11, [0, 1, 2]), (12, [0, 1, 2]), (13, [0, 1]), (14, [0, 1]), (15, []), (16, []), (17, [])]
def oTFlO57_13 : List (Nat × List Nat) := [(0, []), (1, [0]), (3, [0, 1]), (4, [0, 1]), (5, [0, 1, 3, 4]), (6, [0, 1, 3, 4, 5]), (7, [0, 1, 3, 4, 5]), (8, [0, 1, 3, 4, 5]), (13, [0, 1, 3, 4, 5, 6, 7, 8]), (14, [0, 1, 3, 4, 5, 6, 7, 8, 13]), (17, [0, 1, 3, 4, 5, 6, 7, 8, 13, 14]), (2, [3, 4, 5, 6, 7, 8, 13, 14, 17]), (9, [3, 4, 13, 14, 17]), (10, [13, 14, 17]), (11, [13, 14, 17]), (12, [13, 14, 17]), (15, [3, 4, 17, 10, 11, 12]), (16, [17]), (18, [])]
def oTFlO57_14 : List (Nat × List Nat) := [(0, []), (1, []), (3, [0, 1]), (4, [0, 1]), (2, [3, 4]), (5, []), (6, [])]
def v4 : List (List UInt8) := [[118, 49], [118, 50], [118, 51], [118, 52]]
def rfC (c : List Cls) : Res := .cells 31 [.buf 10, .d (clss c), .buf 20, .buf 30]
def rfC0 (c : List Cls) : Res := .cells 31 [.buf 10, .d (clss c), .buf 20, .d .nilsl]
def nlC : Res := .cells 31 [.d .nilsl, .d .nilsl, .d .nilsl, .d .nilsl]
def fltB (st : List Sta) (c : List Cls) (vs : List Veh) (ps : List Plt) : Prop := allK staK 3 st ∧ (c.length = 4 ∧ ∀ x ∈ c, clsK x) ∧ allK vehK 4 vs ∧ allK pltK 5 ps
theorem LoopX.shareX {α : Type} {P : Program} {c : Code} {Q : Exit → St → Prop} {G : Prop} (σ : α → St) (pre : α → Prop) (main : (∀ a, pre a → LoopX P c Q (σ a)) → G) (tail : ∀ a, pre a → LoopX P c Q (σ a)) : G := main tail
def sta1 : List Sta := [⟨[115, 49], fun _ => 0⟩]
set_option maxHeartbeats 4000000 in
theorem sRFlt (n : Nat) (L : Nat → Int) (hL : Rok n L) (a : Int) (h0 : 0 ≤ a) (ha : a ≤ 2^35) :
 FSpec Tryz.prog 57 [.ptr 1000000 0] [(1000000, strm n L a)] (fun y r => ∃ st cs vs ps, ∃ b, fltB st cs vs ps ∧ (a ≤ b ∧ b ≤ a + 400) ∧ y = .agg [.buf 10, .d (clss cs), .buf 20, .buf 30] ∧ r = [(10, staB st), (20, vehB vs), (30, pltB ps), (1000000, strm n L b)]) := by
 refine spec_of hT (C := [19]) Tryz.func57 rfl Tryz.call57 rfl rfl rfl ?_
 conv => whnf
 refine CallX.of (sStas n L hL a h0 (by omega)) [(1000000, 1000000), (3, 10)] rfl ⟨lr, trivial⟩ ⟨rr, trivial⟩ rfl rfl ?_
 rintro x rout ⟨st, b1, hst, ⟨b1a, b1b⟩, rfl, rfl⟩
 refine ⟨rfl, ?_⟩
 conv => whnf
 refine CallX.of (sClss n L hL b1 (by omega) (by omega)) [(1000000, 1000000), (9, 12)] rfl ⟨lr, trivial⟩ ⟨rr, trivial⟩ rfl rfl ?_
 rintro x rout ⟨cs, b2, hc, ⟨b2a, b2b⟩, rfl, rfl⟩
 refine ⟨rfl, ?_⟩
 conv => whnf
 refine' LoopX.shareX (P := Tryz.prog) (α := List Sta) (fun st => mkSt [(0, .ptr 1000000 0), (2, .ptr 2 0), (3, .ptr 3 0), (21, .d (strs v4)), (22, .d (.int .i64 4)), (23, .d (.int .i64 0))] [(1000000, strm n L b2), (2, nlC), (3, rfC0 cs), (10, staB st), (20, vehB [])]) (fun st => allK staK 3 st) ?main ?tail
 case main =>
  intro tail
  repeat' (first | (refine br_intro ?_ ?_ <;> intro hb <;> (try simp only [brs] at hb) <;> conv => whnf) | (refine RegX.rule (id := 8) hT rfl [] oTFlO57_8 (by decide +kernel) ?_; conv => whnf) | (refine RegX.rule (id := 13) hT rfl [] oTFlO57_13 (by decide +kernel) ?_; conv => whnf) | (refine RegX.rule (id := 14) hT rfl [] oTFlO57_14 (by decide +kernel) ?_; conv => whnf) | omega | (refine And.intro ?_ ?_; ((try dsimp only); first | omega | (refine szA rfl ?_; omega) | (refine szB rfl ?_; omega) | (unfold inI64; omega) | exact rfl | (simp only [lns] at *; omega) | decide | (unfold inI64; decide)); conv => whnf) | decide | assumption)
  · refine LoopX.freeze 12 201 2 _ _ rfl ?_
    refine LoopX.ent ?_ (tail sta1 ⟨by decide, by intro x hx; simp only [sta1, List.mem_singleton] at hx; subst hx; show _ ≤ 8; decide⟩)
    refine Entails.trans (Entails.froCell 3 12 2 _ 1 _ rfl rfl rfl) ?_
    refine Entails.trans (Entails.nilCell 3 20 124 2 2 (rowF vehF veh0 []) rfl rfl rfl (by decide) rfl) ?_
    exact (Entails.mk' [(1000000, 1000000), (2, 2), (3, 3), (10, 19), (20, 20)] rfl rfl ⟨lr, lr, lr, SV.le_lit rfl rfl, lr, lr, trivial⟩ ⟨rr, rr, Res.le_cellsL ⟨lr, lr, lr, lr, trivial⟩, Res.le_lit rfl rfl, rr, trivial⟩)
  · refine LoopX.freeze 12 201 2 _ _ rfl ?_
    refine LoopX.ent ?_ (tail st hst)
    refine Entails.trans (Entails.froCell 3 12 2 _ 1 _ rfl rfl rfl) ?_
    refine Entails.trans (Entails.nilCell 3 20 124 2 2 (rowF vehF veh0 []) rfl rfl rfl (by decide) rfl) ?_
    exact (Entails.mk' [(1000000, 1000000), (2, 2), (3, 3), (10, 10), (20, 20)] rfl rfl ⟨lr, lr, lr, SV.le_lit rfl rfl, lr, lr, trivial⟩ ⟨rr, rr, Res.le_cellsL ⟨lr, lr, lr, lr, trivial⟩, rr, rr, trivial⟩)
 clear hst st
 intro st hst
 refine LoopX.rule hT (C := []) (ι := Int × List Veh × Nat) (fun (b, vs, i) => (b2 ≤ b ∧ b ≤ b2 + 3 * i ∧ i ≤ 4) ∧ allK vehK i vs)
  (fun (b, vs, i) => mkSt [(0, .ptr 1000000 0), (2, .ptr 2 0), (3, .ptr 3 0), (21, .d (strs v4)), (22, .d (.int .i64 4)), (23, .d (.int .i64 i))] [(1000000, strm n L b), (2, nlC), (3, rfC0 cs), (10, staB st), (20, vehB vs)])
  (fun (_, _, i) => 4 - i) (b2, [], 0) ⟨⟨by simp, by simp, by simp⟩, ⟨by simp, by simp⟩⟩ (by (refine Entails.mk' [(1000000, 1000000), (2, 2), (3, 3), (10, 10), (20, 20)] rfl rfl ?_ ?_ <;> repeat' (first | exact True.intro | exact lr | exact rr | exact SV.le_int (by omega) | exact SV.le_any _ | refine And.intro ?_ ?_)); done) ?_
 rintro ⟨b, vs, i⟩ ⟨⟨p1, p2, p3⟩, p4⟩
 have p1 : b2 ≤ b := p1
 have p2 : b ≤ b2 + 3 * i := p2
 have p3 : i ≤ 4 := p3
 have p4 : allK vehK i vs := p4
 have hl1 : vs.length ≤ i := p4.1
 have hc4 := hc.1
 have hv4 : v4.length = 4 := rfl
 have e1 : (i : Int).toNat = i := Int.toNat_natCast i
 rcases Nat.lt_or_ge i 4 with hi | hi
 · conv => whnf
   repeat' (first | (refine CallX.of (s84 n L hL _ ?_ ?_ 6 ?_) [(1000000, 1000000)] rfl ⟨lr, lr, trivial⟩ ⟨rr, trivial⟩ rfl rfl ?_; rotate_right; rintro x rout ⟨⟨w, rfl⟩, ⟨c, c1, c2, rfl⟩⟩; refine ⟨rfl, ?_⟩; conv => whnf) | (refine CallX.of (s86 n L hL _ ?_ ?_ _ ?_) [(1000000, 1000000)] rfl ⟨lr, lr, trivial⟩ ⟨rr, trivial⟩ rfl rfl ?_; rotate_right; rintro x rout ⟨⟨j, hj1, hj2, hj3, rfl⟩, ⟨c, c1, c2, rfl⟩⟩; refine ⟨rfl, ?_⟩; conv => whnf) | (refine br_intro ?_ ?_ <;> intro hb <;> (try simp only [brs] at hb) <;> conv => whnf) | (refine RegX.rule (id := 8) hT rfl [] oTFlO57_8 (by decide +kernel) ?_; conv => whnf) | (refine RegX.rule (id := 13) hT rfl [] oTFlO57_13 (by decide +kernel) ?_; conv => whnf) | (refine RegX.rule (id := 14) hT rfl [] oTFlO57_14 (by decide +kernel) ?_; conv => whnf) | omega | (refine And.intro ?_ ?_; ((try dsimp only); first | omega | (refine szA rfl ?_; omega) | (refine szB rfl ?_; omega) | (unfold inI64; omega) | exact rfl | (simp only [lns] at *; omega) | decide | (unfold inI64; decide)); conv => whnf) | decide | assumption)
   all_goals try (exfalso; omega)
   · have hk1 : (v4.getD (i : Int).toNat []).length ≤ 8 := mem_len (getD_mem (by omega)) rfl
     have hk2 := (hc.2 (cs.getD j.toNat cls0) (getD_mem (by omega))).1
     exact ⟨(c + 1, vs ++ [⟨v4.getD (i : Int).toNat [], (cs.getD j.toNat cls0).key⟩], i + 1), ⟨⟨by omega, by show _ ≤ b2 + 3 * ((i + 1 : Nat) : Int); omega, by omega⟩, allK_snoc p4 (by omega) ⟨hk1, hk2⟩⟩, by show 4 - (i + 1) < 4 - i; omega,
      Entails.mk' [(1000000, 1000000), (2, 2), (3, 3), (10, 10), (20, 45)] rfl rfl ⟨lr, lr, lr, lr, lr, lr, trivial⟩ ⟨rr, rr, rr, rr, Res.le_snocF rfl, trivial⟩⟩
   · exact ⟨(c, vs, i + 1), ⟨⟨by omega, by show _ ≤ b2 + 3 * ((i + 1 : Nat) : Int); omega, by omega⟩, allK_le p4 (by omega)⟩, by show 4 - (i + 1) < 4 - i; omega, (by (refine Entails.mk' [(1000000, 1000000), (2, 2), (3, 3), (10, 10), (20, 20)] rfl rfl ?_ ?_ <;> repeat' (first | exact True.intro | exact lr | exact rr | exact SV.le_int (by omega) | exact SV.le_any _ | refine And.intro ?_ ?_)); done)⟩
 have hi4 : i = 4 := by omega
 subst hi4
 have hb3 : b ≤ b2 + 12 := by omega
 have p4v := p4
 have hlv : vs.length ≤ 4 := p4.1
 conv => whnf
 repeat' (first | (refine CallX.of (s64 n L hL _ ?_ ?_ 0 5 ?_ ?_ ?_ ?_) [(1000000, 1000000)] rfl ⟨lr, lr, lr, trivial⟩ ⟨rr, trivial⟩ rfl rfl ?_; rotate_right; rintro x rout ⟨⟨m, hm1, hm2, rfl⟩, ⟨c, c1, c2, rfl⟩⟩; refine ⟨rfl, ?_⟩; conv => whnf) | (refine br_intro ?_ ?_ <;> intro hb <;> (try simp only [brs] at hb) <;> conv => whnf) | (refine RegX.rule (id := 8) hT rfl [] oTFlO57_8 (by decide +kernel) ?_; conv => whnf) | (refine RegX.rule (id := 13) hT rfl [] oTFlO57_13 (by decide +kernel) ?_; conv => whnf) | (refine RegX.rule (id := 14) hT rfl [] oTFlO57_14 (by decide +kernel) ?_; conv => whnf) | omega | (refine And.intro ?_ ?_; ((try dsimp only); first | omega | (refine szA rfl ?_; omega) | (refine szB rfl ?_; omega) | (unfold inI64; omega) | exact rfl | (simp only [lns] at *; omega) | decide | (unfold inI64; decide)); conv => whnf) | decide | assumption)
 all_goals try (exfalso; omega)
 obtain ⟨b3, rfl⟩ : ∃ b3 : Int, b3 = c := ⟨_, rfl⟩
 refine LoopX.rule hT (C := []) (ι := Int × List Plt × Nat) (fun (b, ps, i) => (b3 ≤ b ∧ b ≤ b3 + 6 * i ∧ (i : Int) ≤ m) ∧ allK pltK i ps)
  (fun (b, ps, i) => mkSt [(0, .ptr 1000000 0), (2, .ptr 2 0), (3, .ptr 3 0), (49, .d (.int .i64 m)), (50, .d (.int .i64 i))] [(1000000, strm n L b), (2, nlC), (3, rfC cs), (10, staB st), (20, vehB vs), (30, pltB ps)])
  (fun (_, _, i) => (m - i).toNat) (b3, [], 0) ⟨⟨by simp, by simp, by simpa using hm1⟩, ⟨by simp, by simp⟩⟩ ?_ ?_
 · refine Entails.trans (Entails.nilCell 3 30 126 3 3 (rowF pltF plt0 []) rfl rfl rfl (by decide) rfl) ?_
   exact (by (refine Entails.mk' [(1000000, 1000000), (2, 2), (3, 3), (10, 10), (20, 20), (30, 30)] rfl rfl ?_ ?_ <;> repeat' (first | exact True.intro | exact lr | exact rr | exact SV.le_int (by omega) | exact SV.le_any _ | refine And.intro ?_ ?_)); done)
 rintro ⟨b, ps, i⟩ ⟨⟨p1, p2, p3⟩, p4⟩
 have p1 : b3 ≤ b := p1
 have p2 : b ≤ b3 + 6 * i := p2
 have p3 : (i : Int) ≤ m := p3
 have p4 : allK pltK i ps := p4
 have hl2 : ps.length ≤ i := p4.1
 rcases Int.lt_or_le (i : Int) m with hi | hi
 · conv => whnf
   repeat' (first | (refine CallX.of (s33 n L hL _ ?_ ?_ [0, 0, 50, 100, 200, 1000] ?_ ?_) [(1000000, 1000000)] rfl ⟨lr, SV.le_lit rfl rfl, trivial⟩ ⟨rr, trivial⟩ rfl rfl ?_; rotate_right; rintro x rout ⟨⟨u1, hu1, rfl⟩, ⟨c, c1, c2, rfl⟩⟩; have hw1 := pkD hu1 (by decide); refine ⟨rfl, ?_⟩; conv => whnf) | (refine CallX.of (s86 n L hL _ ?_ ?_ _ ?_) [(1000000, 1000000)] rfl ⟨lr, lr, trivial⟩ ⟨rr, trivial⟩ rfl rfl ?_; rotate_right; rintro x rout ⟨⟨j, hj1, hj2, hj3, rfl⟩, ⟨c, c1, c2, rfl⟩⟩; refine ⟨rfl, ?_⟩; conv => whnf) | (refine CallX.of (s15 n L hL _ ?_ ?_ [[65, 66, 49], [65, 66, 50], [90, 90, 57]] (by simp) (by simp)) [(1000000, 1000000)] rfl ⟨lr, SV.le_lit rfl rfl, trivial⟩ ⟨rr, trivial⟩ rfl rfl ?_; rotate_right; rintro x rout ⟨⟨u3, hu3, rfl⟩, ⟨c, c1, c2, rfl⟩⟩; have hw3 := mem_len hu3 rfl; refine ⟨rfl, ?_⟩; conv => whnf) | (refine br_intro ?_ ?_ <;> intro hb <;> (try simp only [brs] at hb) <;> conv => whnf) | (refine RegX.rule (id := 8) hT rfl [] oTFlO57_8 (by decide +kernel) ?_; conv => whnf) | (refine RegX.rule (id := 13) hT rfl [] oTFlO57_13 (by decide +kernel) ?_; conv => whnf) | (refine RegX.rule (id := 14) hT rfl [] oTFlO57_14 (by decide +kernel) ?_; conv => whnf) | omega | (refine And.intro ?_ ?_; ((try dsimp only); first | omega | (refine szA rfl ?_; omega) | (refine szB rfl ?_; omega) | (unfold inI64; omega) | exact rfl | (simp only [lns] at *; omega) | decide | (unfold inI64; decide)); conv => whnf) | decide | assumption)
   · refine .ret _ ?_
     conv => whnf
     exact ⟨[(10, staB st), (20, vehB vs), (30, pltB ps), (1000000, strm n L b)], ⟨st, cs, vs, ps, b, ⟨hst, hc, p4v, allK_le p4 (by omega)⟩, ⟨by omega, by omega⟩, rfl, rfl⟩, rr, rr, rr, rr, trivial⟩
   have hpk : pltK ⟨u1, (vs.getD j.toNat veh0).key, u3⟩ := ⟨⟨by show (-2^40 : Int) ≤ u1; omega, by show u1 ≤ 2^40; omega⟩, (p4v.2 _ (getD_mem (by omega))).1, by show u3.length ≤ 16; omega⟩
   have hps := allK_snoc p4 (show i + 1 ≤ 12 by omega) hpk
   have hcS := sSortPl 139 rfCmp (ps ++ [⟨u1, (vs.getD j.toNat veh0).key, u3⟩]) hps.1 (fun p q hp hq => z139 p q (hps.2 _ hp) (hps.2 _ hq))
   obtain ⟨QS, hQS⟩ : ∃ QS, QS = isort rfCmp (ps ++ [⟨u1, (vs.getD j.toNat veh0).key, u3⟩]) := ⟨_, rfl⟩
   have hq := hps
   have hQ : allK pltK (i + 1) QS := by
    have hp := isort_perm rfCmp (ps ++ [⟨u1, (vs.getD j.toNat veh0).key, u3⟩])
    rw [← hQS] at hp
    exact ⟨by rw [hp.length_eq, List.length_append]; show ps.length + 1 ≤ i + 1; omega, fun x hx => hps.2 x (hp.mem_iff.1 hx)⟩
   have hok : fltOk ⟨st, cs, vs, QS⟩ := ⟨⟨Nat.le_trans hst.1 (by decide), fun s hs => Nat.le_trans (hst.2 s hs) (by decide)⟩, ⟨by show cs.length ≤ 2^20; omega, fun s hs => ⟨Nat.le_trans (hc.2 s hs).1 (by decide), Nat.le_trans (hc.2 s hs).2 (by decide)⟩⟩,
    ⟨by show vs.length ≤ 2^20; omega, fun s hs => ⟨Nat.le_trans (p4v.2 s hs).1 (by decide), Nat.le_trans (p4v.2 s hs).2 (by decide)⟩⟩, ⟨by show QS.length ≤ 2^20; have := hQ.1; omega, fun s hs => ⟨(hQ.2 s hs).1, Nat.le_trans (hQ.2 s hs).2.1 (by decide), Nat.le_trans (hQ.2 s hs).2.2 (by decide)⟩⟩⟩
   rw [← hQS] at hcS
   refine CallX.of (z137 ps (by omega)) [(1000001, 30), (7, 75)] rfl ⟨lr, trivial⟩ ⟨rr, trivial⟩ rfl rfl ?_
   rintro x rout (⟨rfl, hnil, rfl⟩ | ⟨rfl, rfl⟩)
   · have hnil2 := hnil
     rw [hnil] at hcS
     refine ⟨rfl, ?_⟩
     conv => whnf
     repeat' (first | (refine br_intro ?_ ?_ <;> intro hb <;> (try simp only [brs] at hb) <;> conv => whnf) | (refine RegX.rule (id := 8) hT rfl [] oTFlO57_8 (by decide +kernel) ?_; conv => whnf) | (refine RegX.rule (id := 13) hT rfl [] oTFlO57_13 (by decide +kernel) ?_; conv => whnf) | (refine RegX.rule (id := 14) hT rfl [] oTFlO57_14 (by decide +kernel) ?_; conv => whnf) | omega | (refine And.intro ?_ ?_; ((try dsimp only); first | omega | (refine szA rfl ?_; omega) | (refine szB rfl ?_; omega) | (unfold inI64; omega) | exact rfl | (simp only [lns] at *; omega) | decide | (unfold inI64; decide)); conv => whnf) | decide | assumption)
     refine CallX.of hcS [(1000001, 78)] rfl ⟨lr, lr, trivial⟩ ⟨Res.le_lit rfl rfl, trivial⟩ rfl rfl ?_
     rintro x rout ⟨rfl, rfl⟩
     refine ⟨rfl, ?_⟩
     conv => whnf
     repeat' (first | (refine br_intro ?_ ?_ <;> intro hb <;> (try simp only [brs] at hb) <;> conv => whnf) | (refine RegX.rule (id := 8) hT rfl [] oTFlO57_8 (by decide +kernel) ?_; conv => whnf) | (refine RegX.rule (id := 13) hT rfl [] oTFlO57_13 (by decide +kernel) ?_; conv => whnf) | (refine RegX.rule (id := 14) hT rfl [] oTFlO57_14 (by decide +kernel) ?_; conv => whnf) | omega | (refine And.intro ?_ ?_; ((try dsimp only); first | omega | (refine szA rfl ?_; omega) | (refine szB rfl ?_; omega) | (unfold inI64; omega) | exact rfl | (simp only [lns] at *; omega) | decide | (unfold inI64; decide)); conv => whnf) | decide | assumption)
     refine CallX.of (z21l ⟨st, cs, vs, QS⟩ hok) [(1, 10), (3, 20), (4, 78)] rfl ⟨lr, trivial⟩ ⟨rr, rr, rr, trivial⟩ rfl rfl ?_
     rintro x rout ⟨rfl, rfl⟩
     refine ⟨rfl, ?_⟩
     conv => whnf
     repeat' (first | (refine br_intro ?_ ?_ <;> intro hb <;> (try simp only [brs] at hb) <;> conv => whnf) | (refine RegX.rule (id := 8) hT rfl [] oTFlO57_8 (by decide +kernel) ?_; conv => whnf) | (refine RegX.rule (id := 13) hT rfl [] oTFlO57_13 (by decide +kernel) ?_; conv => whnf) | (refine RegX.rule (id := 14) hT rfl [] oTFlO57_14 (by decide +kernel) ?_; conv => whnf) | omega | (refine And.intro ?_ ?_; ((try dsimp only); first | omega | (refine szA rfl ?_; omega) | (refine szB rfl ?_; omega) | (unfold inI64; omega) | exact rfl | (simp only [lns] at *; omega) | decide | (unfold inI64; decide)); conv => whnf) | decide | assumption)
     · exact ⟨(c, QS, i + 1), ⟨⟨by omega, by show _ ≤ b3 + 6 * ((i + 1 : Nat) : Int); omega, by show ((i + 1 : Nat) : Int) ≤ m; omega⟩, hQ⟩, by show (m - ((i + 1 : Nat) : Int)).toNat < (m - (i : Int)).toNat; omega, (by (refine Entails.mk' [(1000000, 1000000), (2, 2), (3, 3), (10, 10), (20, 20), (30, 78)] rfl rfl ?_ ?_ <;> repeat' (first | exact True.intro | exact lr | exact rr | exact SV.le_int (by omega) | exact SV.le_any _ | refine And.intro ?_ ?_)); done)⟩
     · exact ⟨(c, ps, i + 1), ⟨⟨by omega, by show _ ≤ b3 + 6 * ((i + 1 : Nat) : Int); omega, by show ((i + 1 : Nat) : Int) ≤ m; omega⟩, allK_le p4 (by omega)⟩, by show (m - ((i + 1 : Nat) : Int)).toNat < (m - (i : Int)).toNat; omega, (by (refine Entails.mk' [(1000000, 1000000), (2, 2), (3, 3), (10, 10), (20, 20), (30, 30)] rfl rfl ?_ ?_ <;> repeat' (first | exact True.intro | exact lr | exact rr | exact SV.le_int (by omega) | exact SV.le_any _ | refine And.intro ?_ ?_)); done)⟩
   · refine ⟨rfl, ?_⟩
     conv => whnf
     repeat' (first | (refine br_intro ?_ ?_ <;> intro hb <;> (try simp only [brs] at hb) <;> conv => whnf) | (refine RegX.rule (id := 8) hT rfl [] oTFlO57_8 (by decide +kernel) ?_; conv => whnf) | (refine RegX.rule (id := 13) hT rfl [] oTFlO57_13 (by decide +kernel) ?_; conv => whnf) | (refine RegX.rule (id := 14) hT rfl [] oTFlO57_14 (by decide +kernel) ?_; conv => whnf) | omega | (refine And.intro ?_ ?_; ((try dsimp only); first | omega | (refine szA rfl ?_; omega) | (refine szB rfl ?_; omega) | (unfold inI64; omega) | exact rfl | (simp only [lns] at *; omega) | decide | (unfold inI64; decide)); conv => whnf) | decide | assumption)
     refine CallX.of hcS [(1000001, 78)] rfl ⟨lr, lr, trivial⟩ ⟨Res.le_snocF rfl, trivial⟩ rfl rfl ?_
     rintro x rout ⟨rfl, rfl⟩
     refine ⟨rfl, ?_⟩
     conv => whnf
     repeat' (first | (refine br_intro ?_ ?_ <;> intro hb <;> (try simp only [brs] at hb) <;> conv => whnf) | (refine RegX.rule (id := 8) hT rfl [] oTFlO57_8 (by decide +kernel) ?_; conv => whnf) | (refine RegX.rule (id := 13) hT rfl [] oTFlO57_13 (by decide +kernel) ?_; conv => whnf) | (refine RegX.rule (id := 14) hT rfl [] oTFlO57_14 (by decide +kernel) ?_; conv => whnf) | omega | (refine And.intro ?_ ?_; ((try dsimp only); first | omega | (refine szA rfl ?_; omega) | (refine szB rfl ?_; omega) | (unfold inI64; omega) | exact rfl | (simp only [lns] at *; omega) | decide | (unfold inI64; decide)); conv => whnf) | decide | assumption)
     refine CallX.of (z21l ⟨st, cs, vs, QS⟩ hok) [(1, 10), (3, 20), (4, 78)] rfl ⟨lr, trivial⟩ ⟨rr, rr, rr, trivial⟩ rfl rfl ?_
     rintro x rout ⟨rfl, rfl⟩
     refine ⟨rfl, ?_⟩
     conv => whnf
     repeat' (first | (refine br_intro ?_ ?_ <;> intro hb <;> (try simp only [brs] at hb) <;> conv => whnf) | (refine RegX.rule (id := 8) hT rfl [] oTFlO57_8 (by decide +kernel) ?_; conv => whnf) | (refine RegX.rule (id := 13) hT rfl [] oTFlO57_13 (by decide +kernel) ?_; conv => whnf) | (refine RegX.rule (id := 14) hT rfl [] oTFlO57_14 (by decide +kernel) ?_; conv => whnf) | omega | (refine And.intro ?_ ?_; ((try dsimp only); first | omega | (refine szA rfl ?_; omega) | (refine szB rfl ?_; omega) | (unfold inI64; omega) | exact rfl | (simp only [lns] at *; omega) | decide | (unfold inI64; decide)); conv => whnf) | decide | assumption)
     · exact ⟨(c, QS, i + 1), ⟨⟨by omega, by show _ ≤ b3 + 6 * ((i + 1 : Nat) : Int); omega, by show ((i + 1 : Nat) : Int) ≤ m; omega⟩, hQ⟩, by show (m - ((i + 1 : Nat) : Int)).toNat < (m - (i : Int)).toNat; omega, (by (refine Entails.mk' [(1000000, 1000000), (2, 2), (3, 3), (10, 10), (20, 20), (30, 78)] rfl rfl ?_ ?_ <;> repeat' (first | exact True.intro | exact lr | exact rr | exact SV.le_int (by omega) | exact SV.le_any _ | refine And.intro ?_ ?_)); done)⟩
     · exact ⟨(c, ps, i + 1), ⟨⟨by omega, by show _ ≤ b3 + 6 * ((i + 1 : Nat) : Int); omega, by show ((i + 1 : Nat) : Int) ≤ m; omega⟩, allK_le p4 (by omega)⟩, by show (m - ((i + 1 : Nat) : Int)).toNat < (m - (i : Int)).toNat; omega, (by (refine Entails.mk' [(1000000, 1000000), (2, 2), (3, 3), (10, 10), (20, 20), (30, 30)] rfl rfl ?_ ?_ <;> repeat' (first | exact True.intro | exact lr | exact rr | exact SV.le_int (by omega) | exact SV.le_any _ | refine And.intro ?_ ?_)); done)⟩
 have him : (i : Int) = m := by omega
 conv => whnf
 repeat' (first | (refine br_intro ?_ ?_ <;> intro hb <;> (try simp only [brs] at hb) <;> conv => whnf) | (refine RegX.rule (id := 8) hT rfl [] oTFlO57_8 (by decide +kernel) ?_; conv => whnf) | (refine RegX.rule (id := 13) hT rfl [] oTFlO57_13 (by decide +kernel) ?_; conv => whnf) | (refine RegX.rule (id := 14) hT rfl [] oTFlO57_14 (by decide +kernel) ?_; conv => whnf) | omega | (refine And.intro ?_ ?_; ((try dsimp only); first | omega | (refine szA rfl ?_; omega) | (refine szB rfl ?_; omega) | (unfold inI64; omega) | exact rfl | (simp only [lns] at *; omega) | decide | (unfold inI64; decide)); conv => whnf) | decide | assumption)
 all_goals try (exfalso; omega)
 refine .ret _ ?_
 conv => whnf
 exact ⟨[(10, staB st), (20, vehB vs), (30, pltB ps), (1000000, strm n L b)], ⟨st, cs, vs, ps, b, ⟨hst, hc, p4v, allK_le p4 (by omega)⟩, ⟨by omega, by omega⟩, rfl, rfl⟩, rr, rr, rr, rr, trivial⟩
structure fltK (f : Flt) : Prop where
 sta : allK staK 4 f.sta
 cls : clsB f.cls
 veh : allK vehK 5 f.veh
 plt : allK pltK 6 f.plt
theorem fltK.ok {f : Flt} (h : fltK f) : fltOk f :=
 ⟨⟨Nat.le_trans h.sta.1 (by decide), fun s hs => Nat.le_trans (h.sta.2 s hs) (by decide)⟩, ⟨Nat.le_trans h.cls.1 (by decide), fun s hs => ⟨Nat.le_trans (h.cls.2 s hs).1 (by decide), Nat.le_trans (h.cls.2 s hs).2 (by decide)⟩⟩,
   ⟨Nat.le_trans h.veh.1 (by decide), fun s hs => ⟨Nat.le_trans (h.veh.2 s hs).1 (by decide), Nat.le_trans (h.veh.2 s hs).2 (by decide)⟩⟩, ⟨Nat.le_trans h.plt.1 (by decide), fun s hs => ⟨(h.plt.2 s hs).1, Nat.le_trans (h.plt.2 s hs).2.1 (by decide), Nat.le_trans (h.plt.2 s hs).2.2 (by decide)⟩⟩⟩
structure Nmd where
 ntc : List UInt8
 hire : List UInt8
 drv : List UInt8
 bby : Int
theorem hend_len (l : List Plt) (q : List UInt8) : ((hend l).out q).length ≤ l.length := by
 have key : ∀ (m : List Plt) (s : HS), ((m.foldl (fun s x => hdrop s x.plt 5761440) s).out q).length + (m.foldl (fun s x => hdrop s x.plt 5761440) s).live.length ≤ (s.out q).length + s.live.length := by
  intro m
  induction m with
  | nil => intro s; exact Nat.le_refl _
  | cons x m ih => intro s; exact Nat.le_trans (ih _) (hdrop_len s x.plt 5761440 q)
 have h1 := key l (hall l)
 have h2 := hall_len l q
 show (((l.foldl (fun s x => hdrop s x.plt 5761440) (hall l))).out q).length ≤ _
 omega
theorem fltE_srt {f : Flt} (h : fltE f = 0) : srtP f.plt ∧ f.plt.length ≤ 1000 := by
 unfold fltE at h
 have h0 : firstAt (pltE1 f) f.plt.length = 0 ∧ f.plt.length ≤ 1000 := by
  split at h
  · exact absurd h (by assumption)
  · split at h
    · exact absurd h (by assumption)
    · split at h
      · cases h
      · exact ⟨h, by omega⟩
 have h1 := firstAt_all h0.1
 refine ⟨?_, h0.2⟩
 unfold srtP
 rw [List.pairwise_iff_getElem]
 intro i j hi hj hij
 have := frm_mono (f := f) (i := j) (fun k hk hk0 => pltE1_cmp (h1 k (by omega)) hk0) j i (by omega) (by omega)
 rw [List.getD_eq_getElem?_getD, List.getD_eq_getElem?_getD, List.getElem?_eq_getElem hi, List.getElem?_eq_getElem hj] at this
 exact this
theorem nmd_eq {a b : Nmd} : a = b ↔ ((a.ntc = b.ntc ∧ a.hire = b.hire) ∧ a.drv = b.drv) ∧ a.bby = b.bby := by cases a; cases b; simp [and_assoc]
instance : DecidableEq Nmd := fun _ _ => decidable_of_iff _ nmd_eq.symm
theorem ixF_first {p : Nat → Bool} : ∀ {n : Nat} (j : Nat), j < n → (ixF p n = -1 ∨ (j : Int) < ixF p n) → p j = false := by
 intro n
 induction n with
 | zero => intro j hj; omega
 | succ n ih =>
   intro j hj h
   rw [ixF] at h
   by_cases q : ixF p n = -1
   · rw [if_pos q] at h
     rcases Nat.lt_or_ge j n with r | r
     · exact ih j r (.inl q)
     · obtain rfl : j = n := by omega
       cases hp : p j with
       | false => rfl
       | true => rw [if_pos hp] at h; omega
   · rw [if_neg q] at h
     have hb := (ixF_bd (p := p) (n := n)).2.1
     exact ih j (by omega) (by omega)
end Go.Proofs.YtcjfniddeibbhaaGreatDoor
namespace Go.Eng
open Go Go.Proofs Go.Sort Go.RowKit
end Go.Eng
namespace Go.Proofs
open Go.Shelf
end Go.Proofs
set_option maxRecDepth 20000
namespace Go.Proofs.YtcjfniddeibbhaaGreatDoor
open Go Go.Eng
section
variable {v : List UInt8} {a b : Int} {l : List Hir}
end
section
variable {v : List UInt8} {a b : Int} {l : List Hir}
end
theorem fltE_plt {f : Flt} (h : fltE f = 0) : ∀ j, j < f.plt.length → pltE1 f j = 0 := by
 unfold fltE at h
 have h0 : firstAt (pltE1 f) f.plt.length = 0 := by
  split at h
  · exact absurd h (by assumption)
  · split at h
    · exact absurd h (by assumption)
    · split at h
      · cases h
      · exact h
 exact firstAt_all h0
theorem fltE_mom {f : Flt} (h : fltE f = 0) : ∀ e ∈ f.plt, e.frm < 5761440 := by
 intro e he
 obtain ⟨j, hj, rfl⟩ := mem_getD (d := plt0) he
 have := fltE_plt h j hj
 unfold pltE1 at this
 grind
theorem fltE_veh {f : Flt} (h : fltE f = 0) : ∀ j, j < f.veh.length → vehE1 f j = 0 := by
 unfold fltE at h
 have h0 : firstAt (vehE1 f) f.veh.length = 0 := by
  split at h
  · exact absurd h (by assumption)
  · split at h
    · exact absurd h (by assumption)
    · rename_i q; simpa using q
 exact firstAt_all h0
theorem plt_veh {f : Flt} (h : fltE f = 0) : ∀ e ∈ f.plt, e.veh ≠ [] := by
 intro e he q
 obtain ⟨j, hj, rfl⟩ := mem_getD (d := plt0) he
 have h1 := fltE_plt h j hj
 unfold pltE1 at h1
 have h2 : 0 ≤ veIx f.veh (f.plt.getD j plt0).veh := by grind
 have hb := ixF_bd (p := fun i => (f.veh.getD i veh0).key == (f.plt.getD j plt0).veh) (n := f.veh.length)
 have h3 := hb.2.2 h2
 have h4 := hb.2.1
 have h5 := fltE_veh h (ixF (fun i => (f.veh.getD i veh0).key == (f.plt.getD j plt0).veh) f.veh.length).toNat (by unfold veIx at h2; omega)
 unfold vehE1 at h5
 simp only [beq_iff_eq] at h3
 rw [h3, q] at h5
 rw [if_pos (by decide)] at h5
 cases h5
structure DInv (T : Int) (s : HS) : Prop where
 pw : ∀ p, (s.out p).Pairwise fun a b => a.til ≤ b.frm
 ok : ∀ p, ∀ h ∈ s.out p, h.frm < h.til ∧ h.til ≤ T ∧ h.veh ≠ []
 lv : ∀ e ∈ s.live, e.veh ≠ [] ∧ ∀ h ∈ s.out e.plt, h.til ≤ e.frm
theorem DInv.mono {T U : Int} {s : HS} (h : DInv T s) (q : T ≤ U) : DInv U s :=
 ⟨h.pw, fun p x hx => by have := h.ok p x hx; exact ⟨this.1, by omega, this.2.2⟩, h.lv⟩
theorem DInv.drop {T : Int} {s : HS} (h : DInv T s) (p : List UInt8) : DInv T (hdrop s p T) := by
 cases hf : findP s.live p with
 | none =>
   have : hdrop s p T = s := by unfold hdrop; rw [hf]
   rw [this]; exact h
 | some e =>
   obtain ⟨e1, e2⟩ := findP_some hf
   have hl := hdrop_live s p T
   have ho : ∀ q, (hdrop s p T).out q = if q = p ∧ e.frm < T then s.out q ++ [⟨e.veh, e.frm, T⟩] else s.out q := by intro q; unfold hdrop; rw [hf]
   have he := h.lv e e1
   refine ⟨fun q => ?_, fun q x hx => ?_, fun x hx => ?_⟩
   · rw [ho]
     split
     · rename_i c
       rw [List.pairwise_append]
       refine ⟨h.pw q, List.pairwise_singleton _ _, fun a ha b hb => ?_⟩
       rw [List.mem_singleton] at hb; subst hb
       exact he.2 a (by rw [e2, ← c.1]; exact ha)
     · exact h.pw q
   · rw [ho] at hx
     split at hx
     · rename_i c
       rcases List.mem_append.1 hx with r | r
       · exact h.ok q x r
       · rw [List.mem_singleton] at r; subst r
         exact ⟨c.2, Int.le_refl _, he.1⟩
     · exact h.ok q x hx
   · rw [hl, List.mem_filter] at hx
     have hne : x.plt ≠ p := by simpa using hx.2
     refine ⟨(h.lv x hx.1).1, fun y hy => ?_⟩
     rw [ho, if_neg (by intro c; exact hne c.1)] at hy
     exact (h.lv x hx.1).2 y hy
theorem DInv.step {T : Int} {s : HS} (h : DInv T s) {x : Plt} (hx : x.frm = T) (hv : x.veh ≠ []) : DInv T (hstep s x) := by
 have h1 : DInv T (hmid s x) := by
  unfold hmid
  split
  · exact h
  · rw [hx]; exact h.drop _
 have h2 := h1.drop x.plt
 unfold hstep
 rw [hx]
 refine ⟨h2.pw, h2.ok, fun e he => ?_⟩
 rcases List.mem_append.1 he with q | q
 · exact h2.lv e q
 · rw [List.mem_singleton] at q; subst q
   exact ⟨hv, fun y hy => by rw [hx]; exact (h2.ok _ y hy).2.1⟩
theorem hall_d (l : List Plt) : srtP l → (∀ e ∈ l, e.veh ≠ []) → ∀ T, (∀ e ∈ l, e.frm ≤ T) → DInv T (hall l) := by
 refine snoc_ind (P := fun l => srtP l → (∀ e ∈ l, e.veh ≠ []) → ∀ T, (∀ e ∈ l, e.frm ≤ T) → DInv T (hall l)) ?_ ?_ l
 · intro _ _ T _
   exact ⟨fun p => List.Pairwise.nil, fun p h hh => (by cases hh), fun e he => (by cases he)⟩
 · intro l x ih hs hv T hT
   unfold srtP at hs
   rw [List.pairwise_append] at hs
   have h1 := ih hs.1 (fun e he => hv e (by simp [he])) x.frm (fun e he => hs.2.2 e he x (by simp))
   have h2 := h1.step rfl (hv x (by simp))
   have e : hall (l ++ [x]) = hstep (hall l) x := by unfold hall; rw [List.foldl_append]; rfl
   rw [e]
   exact h2.mono (hT x (by simp))
theorem hdrops_d {T : Int} : ∀ (m : List Plt) (s : HS), DInv T s → DInv T (m.foldl (fun s x => hdrop s x.plt T) s)
 | [], _, h => h
 | x :: m, s, h => hdrops_d m _ (h.drop x.plt)
theorem hend_d {f : Flt} (h : fltE f = 0) : DInv 5761440 (hend f.plt) := by
 have hm := fltE_mom h
 exact hdrops_d _ _ (hall_d f.plt (fltE_srt h).1 (plt_veh h) 5761440 fun e he => by have := hm e he; omega)
def hitT (t : Int) (w : Win) : Bool := decide (w.1 ≤ t) && decide (t < w.2)
def cutG (w : Hld) (g : Leg) : List Win := if g.veh = w.veh ∧ max g.out.tm w.frm < min (lastE g) w.til then [⟨max g.out.tm w.frm, min (lastE g) w.til⟩] else []
def cutHh (w : Hld) (h : Hir) : List Win := h.legs.flatMap (cutG w)
def cutHl (w : Hld) (l : List Hir) : List Win := l.flatMap (cutHh w)
def allW (o : List Hld) (l : List Hir) : List Win := o.flatMap fun w => cutHl w l
theorem allW_hit (o : List Hld) (l : List Hir) (t : Int) : (∃ w ∈ allW o l, hitT t w = true) ↔ ∃ w ∈ o, inH t w = true ∧ ∃ h ∈ l, occ w.veh h t = true := by
 unfold allW cutHl cutHh
 constructor
 · rintro ⟨w, hw, ht⟩
   rw [List.mem_flatMap] at hw
   obtain ⟨x, hx, hw⟩ := hw
   rw [List.mem_flatMap] at hw
   obtain ⟨h, hh, hw⟩ := hw
   rw [List.mem_flatMap] at hw
   obtain ⟨g, hg, hw⟩ := hw
   unfold cutG at hw
   split at hw
   · rename_i c
     rw [List.mem_singleton] at hw
     subst hw
     unfold hitT at ht
     simp only [Bool.and_eq_true, decide_eq_true_eq] at ht
     refine ⟨x, hx, ?_, h, hh, ?_⟩
     · unfold inH; simp only [Bool.and_eq_true, decide_eq_true_eq]; omega
     · unfold occ
       rw [List.any_eq_true]
       refine ⟨g, hg, ?_⟩
       unfold onL; simp only [Bool.and_eq_true, decide_eq_true_eq]
       exact ⟨c.1, by omega, by omega⟩
   · cases hw
 · rintro ⟨x, hx, hi, h, hh, ho⟩
   unfold occ at ho
   rw [List.any_eq_true] at ho
   obtain ⟨g, hg, ho⟩ := ho
   unfold onL at ho
   unfold inH at hi
   simp only [Bool.and_eq_true, decide_eq_true_eq] at ho hi
   refine ⟨⟨max g.out.tm x.frm, min (lastE g) x.til⟩, ?_, ?_⟩
   · refine List.mem_flatMap.2 ⟨x, hx, List.mem_flatMap.2 ⟨h, hh, List.mem_flatMap.2 ⟨g, hg, ?_⟩⟩⟩
     unfold cutG
     rw [if_pos ⟨ho.1, by omega⟩]
     exact List.mem_singleton.2 rfl
   · unfold hitT; simp only [Bool.and_eq_true, decide_eq_true_eq]; omega
theorem look_in {o : List Hld} (hp : o.Pairwise fun a b => a.til ≤ b.frm) (hk : ∀ h ∈ o, h.frm < h.til) {w : Hld} (hw : w ∈ o) {t : Int} (hi : inH t w = true) : lookV o t = w.veh := by
 induction o with
 | nil => cases hw
 | cons x o ih =>
   rw [List.pairwise_cons] at hp
   unfold lookV findH
   rw [List.find?_cons]
   cases hx : inH t x with
   | true =>
     rcases List.mem_cons.1 hw with rfl | q
     · rfl
     · have := hp.1 w q
       have := hk w (by simp [q])
       unfold inH at hx hi
       simp only [Bool.and_eq_true, decide_eq_true_eq] at hx hi
       omega
   | false =>
     rcases List.mem_cons.1 hw with rfl | q
     · rw [hi] at hx; cases hx
     · exact ih hp.2 (fun h hh => hk h (by simp [hh])) q
theorem hirIx_pos (l : List Hir) (v : List UInt8) (t : Int) : 0 ≤ hirIx l v t ↔ ∃ h ∈ l, occ v h t = true := by
 have hb := ixF_bd (p := fun i => occ v (l.getD i hi0) t) (n := l.length)
 have hf := ixF_first (p := fun i => occ v (l.getD i hi0) t) (n := l.length)
 unfold hirIx
 constructor
 · intro h
   exact ⟨_, getD_mem (by omega), hb.2.2 h⟩
 · rintro ⟨h, hh, ho⟩
   obtain ⟨j, hj, rfl⟩ := mem_getD (d := hi0) hh
   rcases Int.lt_or_le (ixF (fun i => occ v (l.getD i hi0) t) l.length) 0 with q | q
   · have := hf j hj (.inl (by omega))
     rw [ho] at this; cases this
   · exact q
theorem allW_own {f : Flt} {l : List Hir} (h : fltE f = 0) (p : List UInt8) (t : Int) : (∃ w ∈ allW ((hend f.plt).out p) l, hitT t w = true) ↔ 0 ≤ ownK ((hend f.plt).out p) l t := by
 have hd := hend_d h
 have hp := hd.pw p
 have hk := hd.ok p
 generalize (hend f.plt).out p = o at hp hk
 rw [allW_hit]
 unfold ownK
 constructor
 · rintro ⟨w, hw, hi, hh⟩
   have hl := look_in hp (fun h hh => (hk h hh).1) hw hi
   rw [hl, if_neg (hk w hw).2.2, hirIx_pos]
   exact hh
 · intro q
   by_cases c : lookV o t = []
   · rw [if_pos c] at q; omega
   · rw [if_neg c, hirIx_pos] at q
     unfold lookV findH at c
     cases hf : o.find? (inH t) with
     | none => rw [hf] at c; exact absurd rfl c
     | some w =>
       have h1 := List.find?_some hf
       have h2 := List.mem_of_find?_eq_some hf
       exact ⟨w, h2, h1, by rw [← look_in hp (fun h hh => (hk h hh).1) h2 h1]; exact q⟩
structure Mrg (S : List Win) (n : Nat) (out : List Win) : Prop where
 hit : ∀ t, (∃ w ∈ out, hitT t w = true) ↔ ∃ w ∈ S.take n, hitT t w = true
 pw : out.Pairwise fun a b => a.2 < b.1
 ok : ∀ w ∈ out, w.1 < w.2
 le : ∀ w ∈ out, ∀ x ∈ S.drop n, w.1 ≤ x.1
 len : out.length ≤ n
 bd : ∀ w ∈ out, 0 ≤ w.1 ∧ w.2 ≤ 5761440
theorem Mrg.nil (S : List Win) : Mrg S 0 [] := ⟨fun t => by simp, List.Pairwise.nil, by simp, by simp, by simp, by simp⟩
theorem take_mem {S : List Win} {n : Nat} (hn : n < S.length) {P : Win → Prop} : (∃ w ∈ S.take (n + 1), P w) ↔ (∃ w ∈ S.take n, P w) ∨ P (S.getD n vw0) := by
 rw [List.take_succ_eq_append_getElem hn]
 have : S.getD n vw0 = S[n] := by simp [List.getD_eq_getElem?_getD, hn]
 rw [this]
 constructor
 · rintro ⟨w, hw, h⟩
   rcases List.mem_append.1 hw with q | q
   · exact .inl ⟨w, q, h⟩
   · rw [List.mem_singleton] at q; subst q; exact .inr h
 · rintro (⟨w, hw, h⟩ | h)
   · exact ⟨w, List.mem_append.2 (.inl hw), h⟩
   · exact ⟨_, List.mem_append.2 (.inr (List.mem_singleton.2 rfl)), h⟩
def srtW (S : List Win) : Prop := S.Pairwise fun a b => a.1 ≤ b.1
theorem drop_le {S : List Win} (hs : srtW S) {n : Nat} (hn : n < S.length) : ∀ x ∈ S.drop (n + 1), (S.getD n vw0).1 ≤ x.1 := by
 intro x hx
 have : S.getD n vw0 = S[n] := by simp [List.getD_eq_getElem?_getD, hn]
 rw [this]
 unfold srtW at hs
 have h2 : S.drop n = S[n] :: S.drop (n + 1) := List.drop_eq_getElem_cons hn
 have h3 := hs.sublist (List.drop_sublist n S)
 rw [h2, List.pairwise_cons] at h3
 exact h3.1 x hx
theorem drop_sub {S : List Win} {n : Nat} {x : Win} (h : x ∈ S.drop (n + 1)) : x ∈ S.drop n := by
 rw [← List.drop_drop] at h
 exact List.mem_of_mem_drop h
theorem Mrg.app {S out : List Win} {n : Nat} (h : Mrg S n out) (hs : srtW S) (hn : n < S.length) (hw : (S.getD n vw0).1 < (S.getD n vw0).2) (hb : ∀ w ∈ S, 0 ≤ w.1 ∧ w.2 ≤ 5761440)
 (hl : ∀ w ∈ out, w.2 < (S.getD n vw0).1) : Mrg S (n + 1) (out ++ [S.getD n vw0]) := by
 refine ⟨fun t => ?_, ?_, fun w hw' => ?_, fun w hw' x hx => ?_, by rw [List.length_append]; have := h.len; simp; omega, fun w hw' => ?_⟩
 · rw [take_mem hn, ← h.hit t]
   constructor
   · rintro ⟨w, hw, q⟩
     rcases List.mem_append.1 hw with r | r
     · exact .inl ⟨w, r, q⟩
     · rw [List.mem_singleton] at r; subst r; exact .inr q
   · rintro (⟨w, hw, q⟩ | q)
     · exact ⟨w, List.mem_append.2 (.inl hw), q⟩
     · exact ⟨_, List.mem_append.2 (.inr (List.mem_singleton.2 rfl)), q⟩
 · rw [List.pairwise_append]
   refine ⟨h.pw, List.pairwise_singleton _ _, fun a ha b hb => ?_⟩
   rw [List.mem_singleton] at hb; subst hb
   exact hl a ha
 · rcases List.mem_append.1 hw' with r | r
   · exact h.ok w r
   · rw [List.mem_singleton] at r; subst r; exact hw
 · rcases List.mem_append.1 hw' with r | r
   · exact h.le w r x (drop_sub hx)
   · rw [List.mem_singleton] at r; subst r; exact drop_le hs hn x hx
 · rcases List.mem_append.1 hw' with r | r
   · exact h.bd w r
   · rw [List.mem_singleton] at r; subst r; exact hb _ (getD_mem hn)
theorem Mrg.join {S o' : List Win} {z : Win} {n : Nat} (h : Mrg S n (o' ++ [z])) (hs : srtW S) (hn : n < S.length) (hw : (S.getD n vw0).1 < (S.getD n vw0).2) (hb : ∀ w ∈ S, 0 ≤ w.1 ∧ w.2 ≤ 5761440)
 (hl : (S.getD n vw0).1 ≤ z.2) : Mrg S (n + 1) (o' ++ [⟨z.1, max z.2 (S.getD n vw0).2⟩]) := by
 have hz := h.le z (by simp) (S.getD n vw0) (by rw [List.drop_eq_getElem_cons hn, show S.getD n vw0 = S[n] by simp [List.getD_eq_getElem?_getD, hn]]; exact List.mem_cons_self)
 have hzk := h.ok z (by simp)
 have hzb := h.bd z (by simp)
 have hsb := hb (S.getD n vw0) (getD_mem hn)
 have hpw := h.pw
 rw [List.pairwise_append] at hpw
 generalize hx : S.getD n vw0 = x at hz hw hl hsb
 refine ⟨fun t => ?_, ?_, fun w hw' => ?_, fun w hw' y hy => ?_, by have := h.len; simp at this ⊢; omega, fun w hw' => ?_⟩
 · rw [take_mem hn, ← h.hit t, hx]
   constructor
   · rintro ⟨w, hw, q⟩
     rcases List.mem_append.1 hw with r | r
     · exact .inl ⟨w, List.mem_append.2 (.inl r), q⟩
     · rw [List.mem_singleton] at r; subst r
       unfold hitT at q
       simp only [Bool.and_eq_true, decide_eq_true_eq] at q
       by_cases c : t < z.2
       · exact .inl ⟨z, by simp, by unfold hitT; simp only [Bool.and_eq_true, decide_eq_true_eq]; omega⟩
       · exact .inr (by unfold hitT; simp only [Bool.and_eq_true, decide_eq_true_eq]; omega)
   · have hnew : ∀ w, w = z ∨ w = x → hitT t w = true → hitT t ⟨z.1, max z.2 x.2⟩ = true := by
      intro w hw q
      unfold hitT at q ⊢
      simp only [Bool.and_eq_true, decide_eq_true_eq] at q ⊢
      rcases hw with rfl | rfl <;> omega
     rintro (⟨w, hw, q⟩ | q)
     · rcases List.mem_append.1 hw with r | r
       · exact ⟨w, List.mem_append.2 (.inl r), q⟩
       · rw [List.mem_singleton] at r
         exact ⟨_, List.mem_append.2 (.inr (List.mem_singleton.2 rfl)), hnew w (.inl r) q⟩
     · exact ⟨_, List.mem_append.2 (.inr (List.mem_singleton.2 rfl)), hnew x (.inr rfl) q⟩
 · rw [List.pairwise_append]
   refine ⟨hpw.1, List.pairwise_singleton _ _, fun a ha b hb => ?_⟩
   rw [List.mem_singleton] at hb; subst hb
   exact hpw.2.2 a ha z (by simp)
 · rcases List.mem_append.1 hw' with r | r
   · exact h.ok w (by simp [r])
   · rw [List.mem_singleton] at r; subst r; show z.1 < max z.2 x.2; omega
 · rcases List.mem_append.1 hw' with r | r
   · exact h.le w (by simp [r]) y (drop_sub hy)
   · rw [List.mem_singleton] at r; subst r; exact h.le z (by simp) y (drop_sub hy)
 · rcases List.mem_append.1 hw' with r | r
   · exact h.bd w (by simp [r])
   · rw [List.mem_singleton] at r; subst r
     show 0 ≤ z.1 ∧ max z.2 x.2 ≤ 5761440
     omega
def cntW (t : Int) (W : List Win) : Nat := W.countP (hitT t)
theorem cntW_one {W : List Win} (hp : W.Pairwise fun a b => a.2 < b.1) (hk : ∀ w ∈ W, w.1 < w.2) (t : Int) : cntW t W = if ∃ w ∈ W, hitT t w = true then 1 else 0 := by
 unfold cntW
 induction W with
 | nil => simp
 | cons x W ih =>
   rw [List.pairwise_cons] at hp
   have ih := ih hp.2 (fun w hw => hk w (by simp [hw]))
   rw [List.countP_cons]
   cases hx : hitT t x with
   | true =>
     have h0 : ¬ ∃ w, w ∈ W ∧ hitT t w = true := by
      rintro ⟨w, hw, q⟩
      have h1 := hp.1 w hw
      have h2 := hk w (by simp [hw])
      unfold hitT at hx q
      simp only [Bool.and_eq_true, decide_eq_true_eq] at hx q
      omega
     rw [ih, if_neg h0, if_pos (⟨x, List.mem_cons_self, hx⟩ : ∃ w, w ∈ x :: W ∧ hitT t w = true)]
     rfl
   | false =>
     have h0 : (∃ w, w ∈ x :: W ∧ hitT t w = true) ↔ ∃ w, w ∈ W ∧ hitT t w = true := by
      constructor
      · rintro ⟨w, hw, q⟩
        rcases List.mem_cons.1 hw with e | e
        · rw [e, hx] at q; cases q
        · exact ⟨w, e, q⟩
      · rintro ⟨w, hw, q⟩
        exact ⟨w, List.mem_cons_of_mem _ hw, q⟩
     rw [ih]
     simp only [h0]
     rfl
theorem cntW_take {W : List Win} {j : Nat} (hj : j < W.length) (t : Int) : cntW t (W.take (j + 1)) = cntW t (W.take j) + if hitT t (W.getD j vw0) = true then 1 else 0 := by
 have : W.getD j vw0 = W[j] := by simp [List.getD_eq_getElem?_getD, hj]
 unfold cntW
 rw [List.take_succ_eq_append_getElem hj, List.countP_append, this, List.countP_cons, List.countP_nil]
 simp
theorem sum_set : ∀ (M : List Int) (a j : Nat) (v : Int), a < M.length → ((M.set a v).take j).sum = (M.take j).sum + if a < j then v - M.getD a 0 else 0
 | [], a, j, v, h => by simp at h
 | x :: M, 0, j, v, _ => by
   cases j with
   | zero => simp
   | succ j => simp; omega
 | x :: M, a + 1, j, v, h => by
   cases j with
   | zero => simp
   | succ j =>
     have := sum_set M a j v (by simpa using h)
     simp at this ⊢
     omega
theorem sum_snoc {M : List Int} {j : Nat} (hj : j < M.length) : (M.take (j + 1)).sum = (M.take j).sum + M.getD j 0 := by
 rw [List.take_succ_eq_append_getElem hj, List.sum_append, show M.getD j 0 = M[j] by simp [List.getD_eq_getElem?_getD, hj]]
 simp
def bestIn (fit : Int → Int) (lo hi b : Int) : Prop := (lo ≤ b ∧ b ≤ hi) ∧ ∀ c, lo ≤ c → c ≤ hi → fit c < fit b ∨ fit c = fit b ∧ (max b (-b) < max c (-c) ∨ max b (-b) = max c (-c) ∧ b ≤ c)
theorem best_one (fit : Int → Int) (a : Int) : bestIn fit a a a := ⟨⟨by omega, by omega⟩, fun c h1 h2 => by
 have : c = a := by omega
 subst this; exact .inr ⟨rfl, .inr ⟨rfl, Int.le_refl _⟩⟩⟩
theorem best_scan {fit : Int → Int} {lo c b : Int} (h : bestIn fit lo (c - 1) b) (d : Int) (hd : d = if fit b < fit c ∨ (fit c = fit b ∧ max c (-c) < max b (-b)) then c else b) : bestIn fit lo c d := by
 have h1 := h.1
 subst hd
 split
 · rename_i q
   refine ⟨by omega, fun e c1 c2 => ?_⟩
   by_cases hc : e = c
   · subst hc; exact .inr ⟨rfl, .inr ⟨rfl, Int.le_refl _⟩⟩
   · have := h.2 e c1 (by omega)
     omega
 · rename_i q
   refine ⟨by omega, fun e c1 c2 => ?_⟩
   by_cases hc : e = c
   · subst hc; omega
   · exact h.2 e c1 (by omega)
structure IsM (o : List Hld) (h : List Hir) (W : List Win) : Prop where
 hit : ∀ t, (∃ w ∈ W, hitT t w = true) ↔ ∃ w ∈ allW o h, hitT t w = true
 pw : W.Pairwise fun a b => a.2 < b.1
 ok : ∀ w ∈ W, w.1 < w.2
 bd : ∀ w ∈ W, 0 ≤ w.1 ∧ w.2 ≤ 5761440
 len : W.length ≤ 2^31
end Go.Proofs.YtcjfniddeibbhaaGreatDoor
namespace Go.Eng
open Go Go.Proofs Go.Sort Go.RowKit
def pF : Int × Int → List DV := fun p => [.int .i64 p.1, .int .i64 p.2]
def encW : Int × Int → List Value := fun p => [.int .i64 p.1, .int .i64 p.2]
theorem flat_eq {l : List (Int × Int)} {xs : List Value} (hlen : xs.length = l.length * 2) (h : ∀ i, i < l.length → xs[i * 2]? = some (.int .i64 (l.getD i (0, 0)).1) ∧ xs[i * 2 + 1]? = some (.int .i64 (l.getD i (0, 0)).2)) :
 xs = (flatK encW 2 l.toArray).toList := by
 apply List.ext_getElem
 · rw [show (flatK encW 2 l.toArray).toList.length = l.length * 2 by simp, hlen]
 intro t ht ht'
 have hi : t / 2 < l.length := by omega
 obtain ⟨a, b⟩ := h (t / 2) hi
 have hg := get_flatK encW 2 l.toArray t (by simp; omega)
 rw [getElem!_pos _ t (by rw [size_flatK]; simp; omega)] at hg
 rw [show (flatK encW 2 l.toArray).toList[t] = _ from (Array.getElem_toList _).trans hg]
 have hd : l.toArray[t / 2]! = l.getD (t / 2) (0, 0) := by simp [hi, List.getD_eq_getElem?_getD]
 rw [hd]
 rcases Nat.mod_two_eq_zero_or_one t with q | q
 · rw [q]
   rw [show t / 2 * 2 = t by omega, List.getElem?_eq_getElem ht] at a
   injection a
 · rw [q]
   rw [show t / 2 * 2 + 1 = t by omega, List.getElem?_eq_getElem ht] at b
   injection b
theorem flat_at {l : List (Int × Int)} {i : Nat} (hi : i < l.length) : (flatK encW 2 l.toArray).toList[i * 2]? = some (.int .i64 (l.getD i (0, 0)).1) ∧ (flatK encW 2 l.toArray).toList[i * 2 + 1]? = some (.int .i64 (l.getD i (0, 0)).2) := by
 have hd : l.toArray[i]! = l.getD i (0, 0) := by simp [hi, List.getD_eq_getElem?_getD]
 have key : ∀ t, t < l.length * 2 → (flatK encW 2 l.toArray).toList[t]? = some ((encW l.toArray[t / 2]!)[t % 2]!) := by
  intro t ht
  have hg := get_flatK encW 2 l.toArray t (by simpa using ht)
  rw [getElem!_pos _ t (by rw [size_flatK]; simpa using ht)] at hg
  rw [Array.getElem?_toList, Array.getElem?_eq_getElem (by rw [size_flatK]; simpa using ht), hg]
 constructor
 · rw [key _ (by omega), show i * 2 / 2 = i by omega, show i * 2 % 2 = 0 by omega, hd]; rfl
 · rw [key _ (by omega), show (i * 2 + 1) / 2 = i by omega, show (i * 2 + 1) % 2 = 1 by omega, hd]; rfl
theorem holds_flat {w : World} {g : Nat} {cur : Array Value} {e : TypeId} {D : Array Value} (hb : w.heap[g]? = some (.cells cur e (0, 0))) (ht : cur.toList.take D.size = D.toList) : Holds id w g 0 D := by
 intro j hj
 refine ⟨?_, by simp [World.frozen?, hb]⟩
 have h1 : (cur.toList.take D.size)[j]? = D.toList[j]? := by rw [ht]
 rw [List.getElem?_take_of_lt hj] at h1
 simp only [World.cell?, hb, Nat.zero_add]
 simp only [Option.isSome_none, Bool.false_eq_true, if_false]
 rw [← Array.getElem?_toList, h1]
 simp [hj]
theorem heap_flat {w : World} {g n : Nat} {os : Array Obj} {cur : Array Value} {e : TypeId} {fr : Nat × Nat} (d : Array Value) (hb : w.heap[g]? = some (.cells cur e fr)) :
 (grow (putRow id (Sort.ahead w n) g 0 d) os).heap[g]? = some (.cells (putCells id 0 d cur) e fr) := by
 have hg : g < w.heap.size := (Array.getElem?_eq_some_iff.1 hb).1
 rw [heap_grow_old _ _ (by simpa using hg)]
 simp [putRow, mapBlock, Sort.ahead, Array.getElem?_modify, hb, onCells]
theorem grown_flat {w : World} {g n : Nat} {os : Array Obj} (d : Array Value) : w.grownBy (grow (putRow id (Sort.ahead w n) g 0 d) os) (some g) := by
 refine ⟨rfl, rfl, rfl, by simp, fun k hk hne => ?_⟩
 rw [heap_grow_old _ _ (by simpa using hk)]
 have : g ≠ k := fun e => hne (by rw [e])
 simp [putRow, mapBlock, Sort.ahead, Array.getElem?_modify, this]
theorem take_flat (cur D : Array Value) (h : D.size ≤ cur.size) : (putCells id 0 D cur).toList.take D.size = D.toList := by
 apply List.ext_getElem?
 intro j
 by_cases hj : j < D.size
 · rw [List.getElem?_take_of_lt hj, Array.getElem?_toList]
   simp [putCells, hj, show j < cur.size by omega]
 · rw [List.getElem?_take_eq_none (by omega), List.getElem?_eq_none (by simp; omega)]
theorem FSpec.sortW {P : Program} {f g : FuncId} {e : TypeId} {lt : Int × Int → Int × Int → Bool} (henter : ∀ args w, (callFunc f args).run P w = .ok (.enter f args) w) (l : List (Int × Int)) (h1 : 0 < l.length)
 (hc : ∀ (blk cap : Nat) (w : World), HoldsK encW 2 w blk 0 l.toArray → blk < w.heap.size → Calls P f #[.slice (some ⟨blk, 0, none⟩) l.length cap, .func (.func g) #[] #[]] w fun e' w' => e' = .returned (.tuple #[]) ∧ ∃ d' n os, PermIn 0 l.length l.toArray d' ∧ SortedIn lt 0 l.length d' ∧ w' = sortWorldK encW 2 w blk 0 n d' os) :
 FSpec P f [.buf 1000001, .fn g []] [(1000001, seqB e 2 pF (0, 0) l)] (fun y r => y = .tup [] ∧ ∃ m : List (Int × Int), m.Perm l ∧ m.Pairwise (fun a b => lt b a = false) ∧ r = [(1000001, seqB e 2 pF (0, 0) m)]) := by
 refine ⟨henter, fun G β w vs hpre hvl hvd => ?_⟩
 match vs, hvl with
 | [v, v2], _ =>
   have hv := hvd 0 _ _ rfl rfl
   have hv2 := hvd 1 _ _ rfl rfl
   cases hv2 with | fn _ _ cs hcl _ =>
   have hcs : cs = [] := List.length_eq_zero_iff.1 hcl
   subst hcs
   cases hv with | buf _ _ hb _ =>
   have hR : lookL [(1000001, seqB e 2 pF (0, 0) l)] 1000001 = some (seqB e 2 pF (0, 0) l) := by simp [lookL]
   have hrow : ∀ {q : List (Int × Int)} d r, lookL [(1000001, seqB e 2 pF (0, 0) q)] d = some r → d = 1000001 ∧ r = seqB e 2 pF (0, 0) q := by
    intro q d r hr
    simp only [lookL] at hr
    cases hq : Nat.beq d 1000001 with
    | false => rw [show (d.beq 1000001) = false from hq] at hr; cases hr
    | true => rw [show (d.beq 1000001) = true from hq] at hr; cases hr; exact ⟨Nat.eq_of_beq_eq_true hq, rfl⟩
   obtain ⟨v', xs, hv', hown, _, _, hden⟩ := hpre.rs _ _ hR
   rw [hb] at hv'; cases hv'
   rcases hown.2 with ⟨_, hz⟩ | ⟨gg, cap, cur, rfl, hg, hh, hnc, hcm, hcz, htake⟩
   · omega
   have hxs : xs = (flatK encW 2 l.toArray).toList := by
    refine flat_eq hown.1 fun i hi => ⟨?_, ?_⟩
    · obtain ⟨u, hu, hd⟩ := hden i 0 (.int .i64 (l.getD i (0, 0)).1) hi rfl
      rw [Nat.add_zero] at hu
      rw [hu]; cases hd; rfl
    · obtain ⟨u, hu, hd⟩ := hden i 1 (.int .i64 (l.getD i (0, 0)).2) hi rfl
      rw [hu]; cases hd; rfl
   have hgs : gg < w.heap.size := (Array.getElem?_eq_some_iff.1 hh).1
   have hho : HoldsK encW 2 w gg 0 l.toArray := holds_flat hh (by rw [← hxs, size_flatK, List.size_toArray]; exact htake)
   refine (hc gg cap w hho hgs).mono ?_
   rintro e' w' ⟨rfl, d', n, os, hperm, hsort, rfl⟩
   have hsz : d'.size = l.length := hperm.1.trans (by simp)
   have hm : d'.toList.toArray = d' := by simp
   have hml : d'.toList.length = l.length := by rw [Array.length_toList, hsz]
   have hgb := grown_flat (w := w) (g := gg) (n := n) (os := os) (flatK encW 2 d')
   have hDs : (flatK encW 2 d').size = l.length * 2 := by rw [size_flatK, hsz]
   have hrs : (sortWorldK encW 2 w gg 0 n d' os).ownsRow 0 e 2 (.slice (some ⟨gg, 0, none⟩) l.length cap) l.length (flatK encW 2 d').toList :=
    ⟨by rw [Array.length_toList, hDs], .inr ⟨gg, cap, _, rfl, Nat.zero_le _, heap_flat _ hh, hnc, hcm, by simp [putCells, hcz], by rw [← hDs]; exact take_flat _ _ (by rw [hDs, hcz]; omega)⟩⟩
   have hTin : Tin w β (lookL [(1000001, seqB e 2 pF (0, 0) l)]) gg := ⟨1000001, _, _, hR, rfl, hb, .of rfl⟩
   have hGg : G gg = none := hpre.og _ _ _ gg hR rfl hb (.of rfl)
   have hpl : d'.toList.Perm l := by
    have := hperm.2.2
    rw [← hsz, Array.extract_size] at this
    have e2 : l.toArray.extract 0 d'.size = l.toArray := by rw [hsz]; simp
    rw [e2] at this
    exact this
   have hpw : d'.toList.Pairwise (fun a b => lt b a = false) := by
    rw [List.pairwise_iff_getElem]
    intro i j hi hj hij
    have := hsort i j (Nat.zero_le _) hij (by rw [Array.length_toList, hsz] at hj; exact hj)
    rw [getElem!_pos _ j (by simpa using hj), getElem!_pos _ i (by simpa using hi)] at this
    simpa using this
   refine ⟨.tuple #[], .tup [], [(1000001, seqB e 2 pF (0, 0) d'.toList)], G, β, rfl, ⟨rfl, d'.toList, hpl, hpw, rfl⟩, ⟨Hp.le_refl G, Env.le_refl β, fun b o ho => ?_, fun b o ho => .inl ho, ⟨hgb.os, hgb.tape, hgb.output, hgb.size, fun b hlt hT => ?_⟩, fun d r hr => ?_, fun d d2 r r' _ _ _ e1 e2 _ _ _ _ _ _ => ?_, fun d r u b e1 _ hu hbk => ?_⟩, .tup [] [] rfl (fun i x v hx => by simp at hx)⟩
   · have hw := hpre.gw b o ho
     rw [show (sortWorldK encW 2 w gg 0 n d' os).heap[b]? = w.heap[b]? from hgb.block b (Array.getElem?_eq_some_iff.1 hw).1 (fun q => by cases q; rw [hGg] at ho; cases ho)]; exact hw
   · exact hgb.block b hlt (fun q => by cases q; exact hT hTin)
   · obtain ⟨rfl, rfl⟩ := hrow d r hr
     refine ⟨_, _, hb, by rw [hml]; exact hrs, by omega, fun i hi => rfl, fun i j x hi hx => ?_⟩
     rw [hml] at hi
     have hat := flat_at (l := d'.toList) (i := i) (by rw [hml]; exact hi)
     rw [hm] at hat
     match j, hx with
     | 0, hx => cases hx; exact ⟨_, hat.1, .int _ _⟩
     | 1, hx => cases hx; exact ⟨_, hat.2, .int _ _⟩
     | j + 2, hx => simp [rowF, pF] at hx
   · rw [(hrow d r e1).1, (hrow d2 r' e2).1]
   · obtain ⟨rfl, rfl⟩ := hrow d r e1
     rw [hb] at hu; cases hu
     cases hbk.plain rfl
     exact ⟨hGg, .inl hTin⟩
theorem FSpec.sortW0 {P : Program} {f g : FuncId} {e : TypeId} (henter : ∀ args w, (callFunc f args).run P w = .ok (.enter f args) w)
 (hc : ∀ (p : Option Addr) (cap : Nat) (w : World), Calls P f #[.slice p 0 cap, .func (.func g) #[] #[]] w fun e' w' => e' = .returned (.tuple #[]) ∧ w' = w) :
 FSpec P f [.buf 1000001, .fn g []] [(1000001, seqB e 2 pF (0, 0) [])] (fun y r => y = .tup [] ∧ r = [(1000001, seqB e 2 pF (0, 0) [])]) := by
 refine ⟨henter, fun G β w vs hpre hvl hvd => ?_⟩
 match vs, hvl with
 | [v, v2], _ =>
   have hv := hvd 0 _ _ rfl rfl
   have hv2 := hvd 1 _ _ rfl rfl
   cases hv2 with | fn _ _ cs hcl _ =>
   have hcs : cs = [] := List.length_eq_zero_iff.1 hcl
   subst hcs
   cases hv with | buf _ _ hb _ =>
   have hR : lookL [(1000001, seqB e 2 pF (0, 0) [])] 1000001 = some (seqB e 2 pF (0, 0) []) := by simp [lookL]
   have hrow : ∀ d r, lookL [(1000001, seqB e 2 pF (0, 0) [])] d = some r → d = 1000001 ∧ r = seqB e 2 pF (0, 0) [] := by
    intro d r hr
    simp only [lookL] at hr
    cases hq : Nat.beq d 1000001 with
    | false => rw [show (d.beq 1000001) = false from hq] at hr; cases hr
    | true => rw [show (d.beq 1000001) = true from hq] at hr; cases hr; exact ⟨Nat.eq_of_beq_eq_true hq, rfl⟩
   obtain ⟨v', xs, hv', hown, hk0, hj0, hden⟩ := hpre.rs _ _ hR
   rw [hb] at hv'; cases hv'
   have hrun : Calls P f #[v, .func (.func g) #[] #[]] w fun e' w' => e' = .returned (.tuple #[]) ∧ w' = w := by
    rcases hown.2 with ⟨rfl, _⟩ | ⟨gg, cap, cur, rfl, _⟩
    · exact hc none 0 w
    · exact hc _ cap w
   refine hrun.mono ?_
   rintro e' w' ⟨rfl, rfl⟩
   refine ⟨.tuple #[], .tup [], [(1000001, seqB e 2 pF (0, 0) [])], G, β, rfl, ⟨rfl, rfl⟩, ⟨Hp.le_refl G, Env.le_refl β, fun b o ho => hpre.gw b o ho, fun b o ho => .inl ho, ⟨rfl, rfl, rfl, Nat.le_refl _, fun b hlt hT => rfl⟩, fun d r hr => hpre.rs d r hr, fun d d2 r r' _ _ _ e1 e2 _ _ _ _ _ _ => ?_, fun d r u b e1 _ hu hbk => ?_⟩, .tup [] [] rfl (fun i x v hx => by simp at hx)⟩
   · rw [(hrow d r e1).1, (hrow d2 r' e2).1]
   · obtain ⟨rfl, rfl⟩ := hrow d r e1
     exact ⟨hpre.og _ _ _ b hR rfl hu hbk, .inl ⟨1000001, _, _, hR, rfl, hu, hbk⟩⟩
end Go.Eng
namespace Go.Proofs
open Go.Shelf
def Tryz.laysW_ren : Go.Shelf.Ren := ⟨fun | 6 => 182 | 15 => 169 | 14 => 248 | 28 => 228 | 29 => 229 | 20 => 288 | 21 => 289 | 22 => 290 | 23 => 291 | 24 => 292 | 25 => 293 | 26 => 294 | 27 => 295 | 46 => 309 | 47 => 278 | 48 => 279 | 49 => 310 | 50 => 311 | 57 => 319 | n => n, fun | 22 => 153 | 24 => 65 | 25 => 250 | 3 => 3 | 39 => 242 | 0 => 0 | 53 => 305 | 55 => 307 | 4 => 4 | 46 => 298 | 45 => 297 | 50 => 254 | 5 => 5 | 9 => 9 | 66 => 349 | 70 => 353 | 76 => 370 | 77 => 92 | n => n, fun | n => n⟩
theorem Tryz.laysW : Go.Proofs.SlLaysF0.n6 Tryz.prog Tryz.laysW_ren := {
 mixed := by kernel_rfl
 f6 := ⟨Tryz.f182.name, by decide, Tryz.func182.trans (congrArg some (by kernel_rfl))⟩
 f14 := ⟨Tryz.f248.name, by decide, Tryz.func248.trans (congrArg some (by kernel_rfl))⟩
 f15 := Tryz.func169.trans (congrArg some (by kernel_rfl))
 f20 := ⟨Tryz.f288.name, by decide, Tryz.func288.trans (congrArg some (by kernel_rfl))⟩
 f21 := ⟨Tryz.f289.name, by decide, Tryz.func289.trans (congrArg some (by kernel_rfl))⟩
 f22 := ⟨Tryz.f290.name, by decide, Tryz.func290.trans (congrArg some (by kernel_rfl))⟩
 f23 := ⟨Tryz.f291.name, by decide, Tryz.func291.trans (congrArg some (by kernel_rfl))⟩
 f24 := ⟨Tryz.f292.name, by decide, Tryz.func292.trans (congrArg some (by kernel_rfl))⟩
 f25 := ⟨Tryz.f293.name, by decide, Tryz.func293.trans (congrArg some (by kernel_rfl))⟩
 f26 := ⟨Tryz.f294.name, by decide, Tryz.func294.trans (congrArg some (by kernel_rfl))⟩
 f27 := ⟨Tryz.f295.name, by decide, Tryz.func295.trans (congrArg some (by kernel_rfl))⟩
 f28 := Tryz.func228.trans (congrArg some (by kernel_rfl))
 f29 := Tryz.func229.trans (congrArg some (by kernel_rfl))
 f46 := ⟨Tryz.f309.name, by decide, Tryz.func309.trans (congrArg some (by kernel_rfl))⟩
 f47 := Tryz.func278.trans (congrArg some (by kernel_rfl))
 f48 := Tryz.func279.trans (congrArg some (by kernel_rfl))
 f49 := ⟨Tryz.f310.name, by decide, Tryz.func310.trans (congrArg some (by kernel_rfl))⟩
 f50 := ⟨Tryz.f311.name, by decide, Tryz.func311.trans (congrArg some (by kernel_rfl))⟩
 f57 := ⟨Tryz.f319.name, by decide, Tryz.func319.trans (congrArg some (by kernel_rfl))⟩
 t0 := Tryz.underlying0
 a0 := Tryz.isAgg0
 z0 := Tryz.sizeOf0
 v0 := Tryz.zeroValue0
 t3 := Tryz.underlying3
 a3 := Tryz.isAgg3
 z3 := Tryz.sizeOf3
 v3 := Tryz.zeroValue3
 t4 := Tryz.underlying4
 a4 := Tryz.isAgg4
 z4 := Tryz.sizeOf4
 v4 := Tryz.zeroValue4
 t5 := Tryz.underlying5
 a5 := Tryz.isAgg5
 z5 := Tryz.sizeOf5
 v5 := Tryz.zeroValue5
 t9 := Tryz.underlying9
 a9 := Tryz.isAgg9
 z9 := Tryz.sizeOf9
 v9 := Tryz.zeroValue9
 t22 := Tryz.underlying153
 a22 := Tryz.isAgg153
 z22 := Tryz.sizeOf153
 v22 := Tryz.zeroValue153
 t25 := Tryz.underlying250
 a25 := Tryz.isAgg250
 z25 := Tryz.sizeOf250
 v25 := Tryz.zeroValue250
 t39 := Tryz.underlying242
 a39 := Tryz.isAgg242
 z39 := Tryz.sizeOf242
 v39 := Tryz.zeroValue242
 t45 := Tryz.underlying297
 a45 := Tryz.isAgg297
 z45 := Tryz.sizeOf297
 v45 := Tryz.zeroValue297
 t46 := Tryz.underlying298
 a46 := Tryz.isAgg298
 z46 := Tryz.sizeOf298
 v46 := Tryz.zeroValue298
 t50 := Tryz.underlying254
 a50 := Tryz.isAgg254
 z50 := Tryz.sizeOf254
 v50 := Tryz.zeroValue254
 t53 := Tryz.underlying305
 a53 := Tryz.isAgg305
 z53 := Tryz.sizeOf305
 v53 := Tryz.zeroValue305
 t55 := Tryz.underlying307
 a55 := Tryz.isAgg307
 z55 := Tryz.sizeOf307
 v55 := Tryz.zeroValue307
 t66 := Tryz.underlying349
 a66 := Tryz.isAgg349
 z66 := Tryz.sizeOf349
 v66 := Tryz.zeroValue349
 t70 := Tryz.underlying353
 a70 := Tryz.isAgg353
 z70 := Tryz.sizeOf353
 v70 := Tryz.zeroValue353
 t76 := Tryz.underlying370
 a76 := Tryz.isAgg370
 z76 := Tryz.sizeOf370
 v76 := Tryz.zeroValue370
 t77 := Tryz.underlying92
 a77 := Tryz.isAgg92
 z77 := Tryz.sizeOf92
 v77 := Tryz.zeroValue92 }
def Tryz.laysC_ren : Go.Shelf.Ren := ⟨fun | 5 => 131 | 7 => 185 | n => n, fun | 22 => 3 | 3 => 3 | 4 => 4 | n => n, fun | n => n⟩
theorem Tryz.laysC : Go.Proofs.SlLaysC2.n5 Tryz.prog Tryz.laysC_ren := {
 mixed := by kernel_rfl
 f5 := ⟨Tryz.f131.name, by decide, Tryz.func131.trans (congrArg some (by kernel_rfl))⟩
 f7 := ⟨Tryz.f185.name, by decide, Tryz.func185.trans (congrArg some (by kernel_rfl))⟩
 t3 := Tryz.underlying3
 a3 := Tryz.isAgg3
 z3 := Tryz.sizeOf3
 v3 := Tryz.zeroValue3
 t4 := Tryz.underlying4
 a4 := Tryz.isAgg4
 z4 := Tryz.sizeOf4
 v4 := Tryz.zeroValue4
 t22 := Tryz.underlying3
 a22 := Tryz.isAgg3
 z22 := Tryz.sizeOf3
 v22 := Tryz.zeroValue3 }
end Go.Proofs
set_option maxRecDepth 20000
namespace Go.Proofs.YtcjfniddeibbhaaGreatDoor
open Go Go.Eng
open Go.Sort Go.RowKit Go.Lib in
theorem ltW (x y : Int × Int) : ltOf (fun x y : Int × Int => Lib.compareInt x.1 y.1) x y = decide (x.1 < y.1) := by
 unfold ltOf Lib.compareInt
 by_cases h1 : x.1 < y.1
 · simp [h1]
 · by_cases h2 : y.1 < x.1 <;> simp [h1, h2]
open Go.Sort Go.RowKit Go.Lib in
theorem swoW : SWO (ltOf fun x y : Int × Int => Lib.compareInt x.1 y.1) where
 irrefl x := by rw [ltW]; simp
 trans x y z h1 h2 := by rw [ltW] at *; simp at *; omega
 ntrans x y z h1 h2 := by rw [ltW] at *; simp at *; omega
open Go.Sort Go.RowKit Go.Lib in
theorem clW (x y : Int × Int) (W : World) : Calls Tryz.prog 183 #[.agg #[.int .i64 x.1, .int .i64 x.2], .agg #[.int .i64 y.1, .int .i64 y.2]] W fun e w' => e = .returned (.int .i64 (Lib.compareInt x.1 y.1)) ∧ ∃ q os', w' = grow (W.drewN q) os' := by
 have hcon := fun W' => AnyG.cmp_Compare_int Tryz.laysC x.1 y.1 W'
 change ∀ W', Calls Tryz.prog 131 _ _ _ at hcon
 generalize Lib.compareInt x.1 y.1 = r at hcon ⊢
 go_enter Tryz.func183, Tryz.ntmps183
 go_wp2_with (go_at_call 131; refine (hcon _).mono ?_; rintro e w' ⟨rfl, rfl⟩)
 go_ret
 exact ⟨rfl, 0, _, by rw [alloc_eq_grow, alloc_eq_grow, grow_grow]; rfl⟩
open Go.Sort Go.RowKit Go.Lib in
theorem c182 (l : List Win) (hl : l.length < 2^40) : FSpec Tryz.prog 182 [.buf 1000001, .fn 183 []] [(1000001, vwB l)] (fun y r => y = .tup [] ∧ ∃ m : List Win, m.Perm l ∧ m.Pairwise (fun a b => a.1 ≤ b.1) ∧ r = [(1000001, vwB m)]) := by
 have e : Tryz.laysW_ren.f 6 = 182 := rfl
 have et : Tryz.laysW_ren.t 24 = 65 := rfl
 cases l with
 | nil =>
   refine FSpec.mono (FSpec.sortW0 (g := 183) (e := 65) Tryz.call182 fun p cap w => ?_) fun x r h => ⟨h.1, [], List.Perm.refl _, List.Pairwise.nil, h.2⟩
   have := AnyF.slices_SortFunc_none Tryz.laysW p cap (.func (.func 183) #[] #[]) w
   rw [e] at this
   exact this
 | cons x l =>
   refine FSpec.mono (FSpec.sortW (g := 183) (e := 65) (lt := ltOf fun x y : Int × Int => Lib.compareInt x.1 y.1) Tryz.call182 (x :: l) (by simp) fun blk cap w hH hb => ?_) fun y r h => ?_
   · have := AnyQ.slices_SortFunc Tryz.laysW 2 (by rw [et]; exact Tryz.isAgg65) (by rw [et]; exact Tryz.sizeOf65) encW (fun _ => rfl) (fun x v hv => by simp [encW] at hv; rcases hv with rfl | rfl <;> rfl) (fun x y => Lib.compareInt x.1 y.1) swoW 183 #[] blk 0 cap (x :: l).toArray w Tryz.call183 (fun _ _ _ _ x y => clW x y _) hH hb (by simp at hl ⊢; omega)
     rw [e] at this
     simpa using this
   · obtain ⟨h1, m, hm, hs, hr⟩ := h
     refine ⟨h1, m, hm, hs.imp (fun {a b} q => ?_), hr⟩
     rw [ltW] at q
     simp at q
     exact q
def oTClB123_12 : List (Nat × List Nat) := [(0, []), (1, []), (2, [0, 1]), (3, [0, 1]), (4, [0, 1]), (5, []), (6, [0, 1, 2, 3, 4, 5]), (7, [0, 1, 2, 3, 4, 5]), (8, [0, 1, 2, 3, 4, 5, 6, 7]), (9, [0, 1, 2, 3, 4, 5, 6, 7]), (10, [0, 1, 2, 3, 4, 5, 6, 7]), (11, [0, 1, 2, 3, 4, 5]), (12, [8, 9, 10, 11]), (13, [8, 9, 10, 11]), (14, []), (15, [])]
def oTClB123_24 : List (Nat × List Nat) := [(0, []), (1, []), (2, []), (3, []), (4, []), (5, [3, 4]), (6, [3, 4, 5]), (7, [3, 4, 5]), (8, [3, 4]), (9, [3, 4]), (10, [3, 4]), (11, []), (12, [])]
def oTClB123_25 : List (Nat × List Nat) := [(0, []), (1, [0]), (2, [0]), (3, [0, 1, 2]), (4, [0, 1, 2, 3]), (5, [0, 1, 2, 3]), (6, [0, 1, 2]), (7, [0, 1, 2]), (8, [0, 1, 2]), (9, [0, 1, 2, 3, 4, 5, 6, 7, 8]), (10, [0, 1, 2, 3, 4, 5, 6, 7, 8]), (11, [0, 1, 2]), (12, []), (13, []), (14, [])]
def cutP (w : Hld) (g : Leg) : Win := (max g.out.tm w.frm, min (lastE g) w.til)
theorem cutG_yes {w : Hld} {g : Leg} (h : g.veh = w.veh ∧ (cutP w g).1 < (cutP w g).2) : cutG w g = [cutP w g] := if_pos h
theorem cutG_no {w : Hld} {g : Leg} (h : ¬ (g.veh = w.veh ∧ (cutP w g).1 < (cutP w g).2)) : cutG w g = [] := if_neg h
def accL (w : Hld) (ls : List Leg) (k : Nat) : List Win := (ls.take k).flatMap (cutG w)
def accH (w : Hld) (h : List Hir) (j : Nat) : List Win := (h.take j).flatMap (cutHh w)
def accO (o : List Hld) (h : List Hir) (i : Nat) : List Win := (o.take i).flatMap fun w => cutHl w h
theorem accL_succ {w : Hld} {ls : List Leg} {k : Nat} (hk : k < ls.length) : accL w ls (k + 1) = accL w ls k ++ cutG w (ls.getD k lg0) := by
 unfold accL; rw [take_snocD (d := lg0) hk, List.flatMap_append]; simp
theorem accH_succ {w : Hld} {h : List Hir} {k : Nat} (hk : k < h.length) : accH w h (k + 1) = accH w h k ++ accL w (h.getD k hi0).legs (h.getD k hi0).legs.length := by
 unfold accH accL; rw [take_snocD (d := hi0) hk, List.flatMap_append, List.take_length]; simp [cutHh]
theorem accO_succ {o : List Hld} {h : List Hir} {k : Nat} (hk : k < o.length) : accO o h (k + 1) = accO o h k ++ accH (o.getD k hld0) h h.length := by
 unfold accO accH; rw [take_snocD (d := hld0) hk, List.flatMap_append, List.take_length]; simp [cutHl]
theorem accO_all (o : List Hld) (h : List Hir) : accO o h o.length = allW o h := by unfold accO allW; rw [List.take_length]
theorem accL_len (w : Hld) (ls : List Leg) : ∀ k, (accL w ls k).length ≤ k := by
 intro k
 induction k with
 | zero => simp [accL]
 | succ k ih =>
   rcases Nat.lt_or_ge k ls.length with hk | hk
   · rw [accL_succ hk, List.length_append]
     have : (cutG w (ls.getD k lg0)).length ≤ 1 := by unfold cutG; split <;> simp
     omega
   · have : accL w ls (k + 1) = accL w ls k := by unfold accL; rw [List.take_of_length_le hk, List.take_of_length_le (by omega)]
     rw [this]; omega
theorem accH_len (w : Hld) (h : List Hir) (hg : ∀ x ∈ h, x.legs.length ≤ 1024) : ∀ k, (accH w h k).length ≤ 1024 * k := by
 intro k
 induction k with
 | zero => simp [accH]
 | succ k ih =>
   rcases Nat.lt_or_ge k h.length with hk | hk
   · rw [accH_succ hk, List.length_append]
     have := accL_len w (h.getD k hi0).legs (h.getD k hi0).legs.length
     have := hg (h.getD k hi0) (getD_mem hk)
     omega
   · have : accH w h (k + 1) = accH w h k := by unfold accH; rw [List.take_of_length_le hk, List.take_of_length_le (by omega)]
     rw [this]; omega
theorem accO_len (o : List Hld) (h : List Hir) (hh : h.length ≤ 1024) (hg : ∀ x ∈ h, x.legs.length ≤ 1024) : ∀ k, (accO o h k).length ≤ 1048576 * k := by
 intro k
 induction k with
 | zero => simp [accO]
 | succ k ih =>
   rcases Nat.lt_or_ge k o.length with hk | hk
   · rw [accO_succ hk, List.length_append]
     have := accH_len (o.getD k hld0) h hg h.length
     omega
   · have : accO o h (k + 1) = accO o h k := by unfold accO; rw [List.take_of_length_le hk, List.take_of_length_le (by omega)]
     rw [this]; omega
set_option maxHeartbeats 8000000 in
theorem c123 (H : List UInt8 → Bool) (v : List UInt8 → DV) (o : List Hld) (h : List Hir) (p : List UInt8) (hol : o.length ≤ 1024) (hh : h.length ≤ 1024) (hg : ∀ x ∈ h, x.legs.length ≤ 1024)
 (hv : (v p = .nilsl ∧ o = []) ∨ v p = seqD 3 hldF hld0 o) (hb1 : ∀ w ∈ allW o h, w.1 < w.2) (hb2 : ∀ w ∈ allW o h, 0 ≤ w.1 ∧ w.2 ≤ 5761440) :
 FSpec Tryz.prog 123 [.agg [.mp 1000001, .d (hirs h)], .d (.str p)] [(1000001, mV H v)] (fun y r => (∃ W, IsM o h W ∧ y = .d (wins W)) ∧ r = [(1000001, mV H v)]) := by
 have hv' : (v (strK [.str p]) = .nilsl ∧ o = []) ∨ v (strK [.str p]) = seqD 3 hldF hld0 o := hv
 refine spec_of hT (C := []) Tryz.func123 rfl Tryz.call123 rfl rfl rfl ?_
 conv => whnf
 refine' LoopX.shareX (P := Tryz.prog) (α := Unit) (fun _ => mkSt [(2, .ptr 2 0), (5, .d .nilsl), (20, .d (seqD 3 hldF hld0 o)), (21, .d (.int .i64 o.length)), (22, .d (.int .i64 0))] [(1000001, mV H v), (2, .cells 137 [.mp 1000001, .d (hirs h)])]) (fun _ => True) ?main ?tail
 case main =>
  intro tail
  rcases hv' with ⟨e, ho'⟩ | e
  · repeat' (first | (rw [e]; conv => whnf) | (refine br_intro ?_ ?_ <;> intro hb <;> (try simp only [brs] at hb) <;> conv => whnf) | (refine RegX.rule (id := 12) hT rfl [] oTClB123_12 (by decide +kernel) ?_; conv => whnf) | (refine RegX.rule (id := 24) hT rfl [] oTClB123_24 (by decide +kernel) ?_; conv => whnf) | (refine RegX.rule (id := 25) hT rfl [] oTClB123_25 (by decide +kernel) ?_; conv => whnf) | omega | (refine And.intro ?_ ?_; ((try dsimp only); first | omega | (refine szA rfl ?_; omega) | (refine szB rfl ?_; omega) | (unfold inI64; omega) | exact rfl | (simp only [lns] at *; omega) | decide | (unfold inI64; decide)); conv => whnf) | decide | assumption)
    refine LoopX.ent ?_ (tail () trivial)
    exact Entails.mk' [(1000001, 1000001), (2, 2)] rfl rfl ⟨lr, lr, (by rw [ho']; exact SV.le_nilS), SV.le_int (by rw [ho']; rfl), lr, trivial⟩ ⟨rr, rr, trivial⟩
  · repeat' (first | (rw [e]; conv => whnf) | (refine br_intro ?_ ?_ <;> intro hb <;> (try simp only [brs] at hb) <;> conv => whnf) | (refine RegX.rule (id := 12) hT rfl [] oTClB123_12 (by decide +kernel) ?_; conv => whnf) | (refine RegX.rule (id := 24) hT rfl [] oTClB123_24 (by decide +kernel) ?_; conv => whnf) | (refine RegX.rule (id := 25) hT rfl [] oTClB123_25 (by decide +kernel) ?_; conv => whnf) | omega | (refine And.intro ?_ ?_; ((try dsimp only); first | omega | (refine szA rfl ?_; omega) | (refine szB rfl ?_; omega) | (unfold inI64; omega) | exact rfl | (simp only [lns] at *; omega) | decide | (unfold inI64; decide)); conv => whnf) | decide | assumption)
    refine LoopX.ent ?_ (tail () trivial)
    exact Entails.mk' [(1000001, 1000001), (2, 2)] rfl rfl ⟨lr, lr, lr, lr, lr, trivial⟩ ⟨rr, rr, trivial⟩
 case tail =>
  rintro ⟨⟩ -
  refine LoopX.rule hT (C := []) (ι := Nat) (fun i => i ≤ o.length) (fun i => mkSt [(2, .ptr 2 0), (5, .buf 5), (20, .d (seqD 3 hldF hld0 o)), (21, .d (.int .i64 o.length)), (22, .d (.int .i64 i))] [(1000001, mV H v), (2, .cells 137 [.mp 1000001, .d (hirs h)]), (5, vwB (accO o h i))]) (fun i => o.length - i) 0 (by omega) ?_ ?_
  · exact (Entails.nil 5 5 65 2 (rowF vwF vw0 []) rfl rfl (by decide)).trans (Entails.mk' [(1000001, 1000001), (2, 2), (5, 5)] rfl rfl ⟨lr, lr, lr, lr, lr, trivial⟩ ⟨rr, rr, rr, trivial⟩)
  intro i p1
  have e1 : (i : Int).toNat = i := Int.toNat_natCast i
  have hOl := accO_len o h hh hg i
  rcases Nat.lt_or_ge i o.length with hi | hi
  · conv => whnf
    repeat' (first | (refine br_intro ?_ ?_ <;> intro hb <;> (try simp only [brs] at hb) <;> conv => whnf) | (refine RegX.rule (id := 12) hT rfl [] oTClB123_12 (by decide +kernel) ?_; conv => whnf) | (refine RegX.rule (id := 24) hT rfl [] oTClB123_24 (by decide +kernel) ?_; conv => whnf) | (refine RegX.rule (id := 25) hT rfl [] oTClB123_25 (by decide +kernel) ?_; conv => whnf) | omega | (refine And.intro ?_ ?_; ((try dsimp only); first | omega | (refine szA rfl ?_; omega) | (refine szB rfl ?_; omega) | (unfold inI64; omega) | exact rfl | (simp only [lns] at *; omega) | decide | (unfold inI64; decide)); conv => whnf) | decide | assumption)
    refine LoopX.rule hT (C := []) (ι := Nat) (fun j => j ≤ h.length) (fun j => mkSt [(2, .ptr 2 0), (5, .buf 5), (7, .ptr 7 0), (20, .d (seqD 3 hldF hld0 o)), (21, .d (.int .i64 o.length)), (22, .d (.int .i64 i)), (27, .d (hirs h)), (28, .d (.int .i64 h.length)), (29, .d (.int .i64 j))] [(1000001, mV H v), (2, .cells 137 [.mp 1000001, .d (hirs h)]), (7, .cells 247 ((hldF (o.getD (i : Int).toNat hld0)).map .d)), (5, vwB (accO o h i ++ accH (o.getD (i : Int).toNat hld0) h j))]) (fun j => h.length - j) 0 (by omega) ?_ ?_
    · exact Entails.mk' [(1000001, 1000001), (2, 2), (7, 7), (5, 5)] rfl rfl ⟨lr, lr, lr, lr, lr, lr, lr, lr, lr, trivial⟩ ⟨rr, rr, rr, (by show Res.le _ (vwB (accO o h i ++ [])); rw [List.append_nil]; exact rr), trivial⟩
    intro j p2
    have e2 : (j : Int).toNat = j := Int.toNat_natCast j
    have hHl := accH_len (o.getD (i : Int).toNat hld0) h hg j
    rcases Nat.lt_or_ge j h.length with hj | hj
    · have hgl := hg (h.getD (j : Int).toNat hi0) (getD_mem (by omega))
      conv => whnf
      repeat' (first | (refine br_intro ?_ ?_ <;> intro hb <;> (try simp only [brs] at hb) <;> conv => whnf) | (refine RegX.rule (id := 12) hT rfl [] oTClB123_12 (by decide +kernel) ?_; conv => whnf) | (refine RegX.rule (id := 24) hT rfl [] oTClB123_24 (by decide +kernel) ?_; conv => whnf) | (refine RegX.rule (id := 25) hT rfl [] oTClB123_25 (by decide +kernel) ?_; conv => whnf) | omega | (refine And.intro ?_ ?_; ((try dsimp only); first | omega | (refine szA rfl ?_; omega) | (refine szB rfl ?_; omega) | (unfold inI64; omega) | exact rfl | (simp only [lns] at *; omega) | decide | (unfold inI64; decide)); conv => whnf) | decide | assumption)
      refine LoopX.rule hT (C := []) (ι := Nat) (fun k => k ≤ (h.getD (j : Int).toNat hi0).legs.length) (fun k => mkSt [(2, .ptr 2 0), (5, .buf 5), (7, .ptr 7 0), (20, .d (seqD 3 hldF hld0 o)), (21, .d (.int .i64 o.length)), (22, .d (.int .i64 i)), (27, .d (hirs h)), (28, .d (.int .i64 h.length)), (29, .d (.int .i64 j)), (34, .d (Go.Proofs.YtcjfniddeibbhaaGreatDoor.legs (h.getD (j : Int).toNat hi0).legs)), (35, .d (.int .i64 (h.getD (j : Int).toNat hi0).legs.length)), (36, .d (.int .i64 k))] [(1000001, mV H v), (2, .cells 137 [.mp 1000001, .d (hirs h)]), (7, .cells 247 ((hldF (o.getD (i : Int).toNat hld0)).map .d)), (5, vwB (accO o h i ++ accH (o.getD (i : Int).toNat hld0) h j ++ accL (o.getD (i : Int).toNat hld0) (h.getD (j : Int).toNat hi0).legs k))]) (fun k => (h.getD (j : Int).toNat hi0).legs.length - k) 0 (by omega) ?_ ?_
      · exact Entails.mk' [(1000001, 1000001), (2, 2), (7, 7), (5, 5)] rfl rfl ⟨lr, lr, lr, lr, lr, lr, lr, lr, lr, lr, lr, lr, trivial⟩ ⟨rr, rr, rr, (by show Res.le _ (vwB (_ ++ [])); rw [List.append_nil]; exact rr), trivial⟩
      intro k p3
      have e3 : (k : Int).toNat = k := Int.toNat_natCast k
      have hLl := accL_len (o.getD (i : Int).toNat hld0) (h.getD (j : Int).toNat hi0).legs k
      rcases Nat.lt_or_ge k (h.getD (j : Int).toNat hi0).legs.length with hk | hk
      · have hk2 := hk
        rw [e2] at hk2
        have hsz : (accO o h i ++ accH (o.getD (i : Int).toNat hld0) h j ++ accL (o.getD (i : Int).toNat hld0) (h.getD (j : Int).toNat hi0).legs k).length ≤ 2^32 := by rw [List.length_append, List.length_append]; omega
        conv => whnf
        repeat' (first | (refine CallX.exact (z181 ((h.getD (j : Int).toNat hi0).legs.getD (k : Int).toNat lg0)) rfl rfl ?_; rotate_right; conv => whnf) | (refine br_intro ?_ ?_ <;> intro hb <;> (try simp only [brs] at hb) <;> conv => whnf) | (refine RegX.rule (id := 12) hT rfl [] oTClB123_12 (by decide +kernel) ?_; conv => whnf) | (refine RegX.rule (id := 24) hT rfl [] oTClB123_24 (by decide +kernel) ?_; conv => whnf) | (refine RegX.rule (id := 25) hT rfl [] oTClB123_25 (by decide +kernel) ?_; conv => whnf) | omega | (refine And.intro ?_ ?_; ((try dsimp only); first | omega | (refine szA rfl ?_; omega) | (refine szB rfl ?_; omega) | (unfold inI64; omega) | exact rfl | (simp only [lns] at *; omega) | decide | (unfold inI64; decide)); conv => whnf) | decide | assumption)
        all_goals try (exfalso; omega)
        all_goals first
         | (have hs : accL (o.getD (i : Int).toNat hld0) (h.getD (j : Int).toNat hi0).legs (k + 1) = accL (o.getD (i : Int).toNat hld0) (h.getD (j : Int).toNat hi0).legs k ++ [cutP (o.getD (i : Int).toNat hld0) ((h.getD (j : Int).toNat hi0).legs.getD (k : Int).toNat lg0)] := by
             rw [accL_succ hk, e3, cutG_yes (by unfold cutP; simp only [e1, e2, e3, cond_true, cond_false] at *; grind)]
            refine ⟨k + 1, by omega, by omega, Entails.mk' [(1000001, 1000001), (2, 2), (7, 7), (5, 71)] rfl rfl ⟨lr, lr, lr, lr, lr, lr, lr, lr, lr, lr, lr, lr, trivial⟩ ⟨rr, rr, rr, ?_, trivial⟩⟩
            rw [hs, ← List.append_assoc]
            exact Res.le_snocF (by rfl))
         | (have hs : accL (o.getD (i : Int).toNat hld0) (h.getD (j : Int).toNat hi0).legs (k + 1) = accL (o.getD (i : Int).toNat hld0) (h.getD (j : Int).toNat hi0).legs k := by
             rw [accL_succ hk, cutG_no (by unfold cutP; simp only [e1, e2, e3, cond_true, cond_false] at *; grind), List.append_nil]
            refine ⟨k + 1, by omega, by omega, ?_⟩
            rw [hs]
            exact Entails.mk' [(1000001, 1000001), (2, 2), (7, 7), (5, 5)] rfl rfl ⟨lr, lr, lr, lr, lr, lr, lr, lr, lr, lr, lr, lr, trivial⟩ ⟨rr, rr, rr, rr, trivial⟩)
      · have hk2 := hk
        rw [e2] at hk2
        have hke : k = (h.getD (j : Int).toNat hi0).legs.length := by omega
        conv => whnf
        repeat' (first | (refine br_intro ?_ ?_ <;> intro hb <;> (try simp only [brs] at hb) <;> conv => whnf) | (refine RegX.rule (id := 12) hT rfl [] oTClB123_12 (by decide +kernel) ?_; conv => whnf) | (refine RegX.rule (id := 24) hT rfl [] oTClB123_24 (by decide +kernel) ?_; conv => whnf) | (refine RegX.rule (id := 25) hT rfl [] oTClB123_25 (by decide +kernel) ?_; conv => whnf) | omega | (refine And.intro ?_ ?_; ((try dsimp only); first | omega | (refine szA rfl ?_; omega) | (refine szB rfl ?_; omega) | (unfold inI64; omega) | exact rfl | (simp only [lns] at *; omega) | decide | (unfold inI64; decide)); conv => whnf) | decide | assumption)
        all_goals try (exfalso; omega)
        have hs : accH (o.getD (i : Int).toNat hld0) h (j + 1) = accH (o.getD (i : Int).toNat hld0) h j ++ accL (o.getD (i : Int).toNat hld0) (h.getD (j : Int).toNat hi0).legs k := by rw [accH_succ hj, hke, e2]
        refine ⟨j + 1, by omega, by omega, ?_⟩
        rw [hs, ← List.append_assoc]
        exact Entails.mk' [(1000001, 1000001), (2, 2), (7, 7), (5, 5)] rfl rfl ⟨lr, lr, lr, lr, lr, lr, lr, lr, lr, trivial⟩ ⟨rr, rr, rr, rr, trivial⟩
    · have hje : j = h.length := by omega
      conv => whnf
      repeat' (first | (refine br_intro ?_ ?_ <;> intro hb <;> (try simp only [brs] at hb) <;> conv => whnf) | (refine RegX.rule (id := 12) hT rfl [] oTClB123_12 (by decide +kernel) ?_; conv => whnf) | (refine RegX.rule (id := 24) hT rfl [] oTClB123_24 (by decide +kernel) ?_; conv => whnf) | (refine RegX.rule (id := 25) hT rfl [] oTClB123_25 (by decide +kernel) ?_; conv => whnf) | omega | (refine And.intro ?_ ?_; ((try dsimp only); first | omega | (refine szA rfl ?_; omega) | (refine szB rfl ?_; omega) | (unfold inI64; omega) | exact rfl | (simp only [lns] at *; omega) | decide | (unfold inI64; decide)); conv => whnf) | decide | assumption)
      all_goals try (exfalso; omega)
      have hs : accO o h (i + 1) = accO o h i ++ accH (o.getD (i : Int).toNat hld0) h j := by rw [accO_succ hi, hje, e1]
      refine ⟨i + 1, by omega, by omega, ?_⟩
      rw [hs]
      exact Entails.mk' [(1000001, 1000001), (2, 2), (5, 5)] rfl rfl ⟨lr, lr, lr, lr, lr, trivial⟩ ⟨rr, rr, rr, trivial⟩
  · have hio : i = o.length := by omega
    subst hio
    rw [accO_all] at hOl
    conv => whnf
    repeat' (first | (refine br_intro ?_ ?_ <;> intro hb <;> (try simp only [brs] at hb) <;> conv => whnf) | (refine RegX.rule (id := 12) hT rfl [] oTClB123_12 (by decide +kernel) ?_; conv => whnf) | (refine RegX.rule (id := 24) hT rfl [] oTClB123_24 (by decide +kernel) ?_; conv => whnf) | (refine RegX.rule (id := 25) hT rfl [] oTClB123_25 (by decide +kernel) ?_; conv => whnf) | omega | (refine And.intro ?_ ?_; ((try dsimp only); first | omega | (refine szA rfl ?_; omega) | (refine szB rfl ?_; omega) | (unfold inI64; omega) | exact rfl | (simp only [lns] at *; omega) | decide | (unfold inI64; decide)); conv => whnf) | decide | assumption)
    all_goals try (exfalso; omega)
    refine CallX.of (c182 (allW o h) (by omega)) [(1000001, 5)] rfl ⟨lr, lr, trivial⟩ ⟨by rw [accO_all]; exact rr, trivial⟩ rfl rfl ?_
    rintro x rout ⟨rfl, m, hm, hms, rfl⟩
    refine ⟨rfl, ?_⟩
    conv => whnf
    repeat' (first | (refine br_intro ?_ ?_ <;> intro hb <;> (try simp only [brs] at hb) <;> conv => whnf) | (refine RegX.rule (id := 12) hT rfl [] oTClB123_12 (by decide +kernel) ?_; conv => whnf) | (refine RegX.rule (id := 24) hT rfl [] oTClB123_24 (by decide +kernel) ?_; conv => whnf) | (refine RegX.rule (id := 25) hT rfl [] oTClB123_25 (by decide +kernel) ?_; conv => whnf) | omega | (refine And.intro ?_ ?_; ((try dsimp only); first | omega | (refine szA rfl ?_; omega) | (refine szB rfl ?_; omega) | (unfold inI64; omega) | exact rfl | (simp only [lns] at *; omega) | decide | (unfold inI64; decide)); conv => whnf) | decide | assumption)
    have hml := hm.length_eq
    have hmb : ∀ w ∈ m, 0 ≤ w.1 ∧ w.2 ≤ 5761440 := fun w hw => hb2 w (hm.mem_iff.1 hw)
    refine LoopX.rule hT (C := []) (ι := Nat × List Win) (fun (i, out) => i ≤ m.length ∧ Mrg m i out) (fun (i, out) => mkSt [(13, .buf 13), (77, .buf 5), (78, .d (.int .i64 m.length)), (79, .d (.int .i64 i))] [(1000001, mV H v), (5, vwB m), (13, vwB out)]) (fun (i, _) => m.length - i) (0, []) ⟨by omega, Mrg.nil m⟩ ?_ ?_
    · exact (Entails.nil 13 13 65 2 (rowF vwF vw0 []) rfl rfl (by decide)).trans (Entails.mk' [(1000001, 1000001), (5, 5), (13, 13)] rfl rfl ⟨lr, lr, lr, lr, trivial⟩ ⟨rr, rr, rr, trivial⟩)
    rintro ⟨i, out⟩ ⟨p1, hM⟩
    have p1 : i ≤ m.length := p1
    have hM : Mrg m i out := hM
    have e1 : (i : Int).toNat = i := Int.toNat_natCast i
    have hol2 := hM.len
    rcases Nat.lt_or_ge i m.length with hi | hi
    · have hwk : (m.getD i vw0).1 < (m.getD i vw0).2 := hb1 _ (hm.mem_iff.1 (getD_mem hi))
      rcases List.eq_nil_or_concat out with rfl | ⟨o', z, rfl⟩
      · conv => whnf
        repeat' (first | (refine br_intro ?_ ?_ <;> intro hb <;> (try simp only [brs] at hb) <;> conv => whnf) | (refine RegX.rule (id := 12) hT rfl [] oTClB123_12 (by decide +kernel) ?_; conv => whnf) | (refine RegX.rule (id := 24) hT rfl [] oTClB123_24 (by decide +kernel) ?_; conv => whnf) | (refine RegX.rule (id := 25) hT rfl [] oTClB123_25 (by decide +kernel) ?_; conv => whnf) | omega | (refine And.intro ?_ ?_; ((try dsimp only); first | omega | (refine szA rfl ?_; omega) | (refine szB rfl ?_; omega) | (unfold inI64; omega) | exact rfl | (simp only [lns] at *; omega) | decide | (unfold inI64; decide)); conv => whnf) | decide | assumption)
        all_goals try (exfalso; first | omega | (simp at hb; done))
        refine ⟨(i + 1, [] ++ [m.getD i vw0]), ⟨by show i + 1 ≤ m.length; omega, hM.app hms hi hwk hmb (by simp)⟩, by show m.length - (i + 1) < m.length - i; omega, Entails.mk' [(1000001, 1000001), (5, 5), (13, 115)] rfl rfl ⟨lr, lr, lr, lr, trivial⟩ ⟨rr, rr, Res.le_snocF (by rfl), trivial⟩⟩
      · rw [List.concat_eq_append] at hM hol2 ⊢
        have hl1 : 0 < (o' ++ [z]).length := by simp
        have hln : (((o' ++ [z]).length : Int) - 1).toNat = o'.length := by simp
        have hz : (o' ++ [z]).getD (((o' ++ [z]).length : Int) - 1).toNat vw0 = z := by rw [hln]; simp
        conv => whnf
        repeat' (first | (refine br_intro ?_ ?_ <;> intro hb <;> (try simp only [brs] at hb) <;> conv => whnf) | (refine RegX.rule (id := 12) hT rfl [] oTClB123_12 (by decide +kernel) ?_; conv => whnf) | (refine RegX.rule (id := 24) hT rfl [] oTClB123_24 (by decide +kernel) ?_; conv => whnf) | (refine RegX.rule (id := 25) hT rfl [] oTClB123_25 (by decide +kernel) ?_; conv => whnf) | omega | (refine And.intro ?_ ?_; ((try dsimp only); first | omega | (refine szA rfl ?_; omega) | (refine szB rfl ?_; omega) | (unfold inI64; omega) | exact rfl | (simp only [lns] at *; omega) | decide | (unfold inI64; decide)); conv => whnf) | decide | assumption)
        all_goals try (exfalso; first | omega | (simp at hb; done))
        · rw [hz] at hb
          refine ⟨(i + 1, o' ++ [(z.1, max z.2 (m.getD i vw0).2)]), ⟨by show i + 1 ≤ m.length; omega, hM.join hms hi hwk hmb hb⟩, by show m.length - (i + 1) < m.length - i; omega, Entails.mk' [(1000001, 1000001), (5, 5), (13, 13)] rfl rfl ⟨lr, lr, lr, lr, trivial⟩ ⟨rr, rr, ?_, trivial⟩⟩
          have hset : o' ++ [(z.1, max z.2 (m.getD i vw0).2)] = (o' ++ [z]).set (((o' ++ [z]).length : Int) - 1).toNat ((fun y : Win => (y.1, max ((o' ++ [z]).getD (((o' ++ [z]).length : Int) - 1).toNat vw0).2 (m.getD (i : Int).toNat vw0).2)) ((o' ++ [z]).getD (((o' ++ [z]).length : Int) - 1).toNat vw0)) := by
           simp only [hz, e1, hln]
           rw [List.set_append_right _ _ (Nat.le_refl _)]
           simp
          show Res.le _ (vwB (o' ++ [(z.1, max z.2 (m.getD i vw0).2)]))
          rw [hset]
          exact Res.le_upd (fun y : Win => (y.1, max ((o' ++ [z]).getD (((o' ++ [z]).length : Int) - 1).toNat vw0).2 (m.getD (i : Int).toNat vw0).2)) (fun y => rfl)
        · rw [hz] at hb
          have hlt : ∀ w ∈ o' ++ [z], w.2 < (m.getD i vw0).1 := by
           intro w hw
           rcases List.mem_append.1 hw with q | q
           · have h1 := (List.pairwise_append.1 hM.pw).2.2 w q z (by simp)
             have h2 := hM.ok z (by simp)
             omega
           · rw [List.mem_singleton] at q; subst q; omega
          refine ⟨(i + 1, (o' ++ [z]) ++ [m.getD i vw0]), ⟨by show i + 1 ≤ m.length; omega, hM.app hms hi hwk hmb hlt⟩, by show m.length - (i + 1) < m.length - i; omega, Entails.mk' [(1000001, 1000001), (5, 5), (13, 115)] rfl rfl ⟨lr, lr, lr, lr, trivial⟩ ⟨rr, rr, Res.le_snocF (by rfl), trivial⟩⟩
    · have him : i = m.length := by omega
      subst him
      conv => whnf
      repeat' (first | (refine br_intro ?_ ?_ <;> intro hb <;> (try simp only [brs] at hb) <;> conv => whnf) | (refine RegX.rule (id := 12) hT rfl [] oTClB123_12 (by decide +kernel) ?_; conv => whnf) | (refine RegX.rule (id := 24) hT rfl [] oTClB123_24 (by decide +kernel) ?_; conv => whnf) | (refine RegX.rule (id := 25) hT rfl [] oTClB123_25 (by decide +kernel) ?_; conv => whnf) | omega | (refine And.intro ?_ ?_; ((try dsimp only); first | omega | (refine szA rfl ?_; omega) | (refine szB rfl ?_; omega) | (unfold inI64; omega) | exact rfl | (simp only [lns] at *; omega) | decide | (unfold inI64; decide)); conv => whnf) | decide | assumption)
      all_goals try (exfalso; omega)
      refine .freeze _ 13 65 2 _ _ rfl (.weak _ ?_)
      conv => whnf
      have hI : IsM o h out := ⟨fun t => by
       rw [hM.hit t, List.take_length]
       exact ⟨fun ⟨w, a, b⟩ => ⟨w, hm.mem_iff.1 a, b⟩, fun ⟨w, a, b⟩ => ⟨w, hm.mem_iff.2 a, b⟩⟩, hM.pw, hM.ok, hM.bd, by omega⟩
      exact ⟨.d (wins out), [(1000001, mV H v)], lr, ⟨⟨out, hI, rfl⟩, rfl⟩, rr, trivial⟩
def fitK (O : List UInt8 → List Hld) (h : List Hir) (l : List Pas) (g : List UInt8) : Nat → Int → Int
 | 0, _ => 0
 | i + 1, c => fitK O h l g i c + (if (l.getD i pa0).gate = g ∧ 0 ≤ ownK (O (l.getD i pa0).plate) h ((l.getD i pa0).tm - c) then 1 else 0)
theorem fitK_bd (O : List UInt8 → List Hld) (h : List Hir) (l : List Pas) (g : List UInt8) (c : Int) : ∀ i, 0 ≤ fitK O h l g i c ∧ fitK O h l g i c ≤ i := by
 intro i
 induction i with
 | zero => exact ⟨Int.le_refl _, Int.le_refl _⟩
 | succ i ih =>
   rw [fitK]
   split
   · push_cast; omega
   · push_cast; omega
structure MI (k : Nat) (B : Int) (F : Int → Int) (M : List Int) : Prop where
 len : M.length = 2 * k + 2
 sum : ∀ c, -(k : Int) ≤ c → c ≤ k → (M.take (c + k + 1).toNat).sum = F c
 bd : ∀ j, -B ≤ M.getD j 0 ∧ M.getD j 0 ≤ B
theorem MI.zero (k : Nat) : MI k 0 (fun _ => 0) (List.replicate (2 * k + 2) 0) := by
 refine ⟨List.length_replicate, fun c _ _ => ?_, fun j => ?_⟩
 · rw [List.take_replicate]; simp
 · have : (List.replicate (2 * k + 2) (0 : Int)).getD j 0 = 0 := by
    rw [List.getD_eq_getElem?_getD, List.getElem?_replicate]; split <;> rfl
   rw [this]; omega
theorem MI.mono {k : Nat} {B C : Int} {F G : Int → Int} {M : List Int} (h : MI k B F M) (hb : B ≤ C) (hF : ∀ c, -(k : Int) ≤ c → c ≤ k → F c = G c) : MI k C G M :=
 ⟨h.len, fun c c1 c2 => by rw [h.sum c c1 c2, hF c c1 c2], fun j => by have := h.bd j; omega⟩
theorem getD_setD {M : List Int} {a j : Nat} {v : Int} : (M.set a v).getD j 0 = if a = j ∧ j < M.length then v else M.getD j 0 := by
 rw [List.getD_eq_getElem?_getD, List.getD_eq_getElem?_getD, List.getElem?_set]
 by_cases h : a = j
 · subst h
   by_cases h2 : a < M.length
   · simp [h2]
   · simp [h2]
 · simp [h]
theorem MI.upd {k : Nat} {B : Int} {F : Int → Int} {M : List Int} (h : MI k B F M) {lo hi : Int} (h1 : -(k : Int) ≤ lo) (h2 : lo ≤ hi) (h3 : hi ≤ k) :
 MI k (B + 1) (fun c => F c + if lo ≤ c ∧ c ≤ hi then 1 else 0) ((M.set (lo + k).toNat (M.getD (lo + k).toNat 0 + 1)).set (hi + k + 1).toNat (M.getD (hi + k + 1).toNat 0 - 1)) := by
 have hl := h.len
 have ha : (lo + k).toNat < M.length := by omega
 have hb : (hi + k + 1).toNat < (M.set (lo + k).toNat (M.getD (lo + k).toNat 0 + 1)).length := by rw [List.length_set]; omega
 have hab : (lo + k).toNat ≠ (hi + k + 1).toNat := by omega
 refine ⟨by rw [List.length_set, List.length_set]; exact hl, fun c c1 c2 => ?_, fun j => ?_⟩
 · rw [sum_set _ _ _ _ hb, sum_set _ _ _ _ ha, h.sum c c1 c2, getD_setD, if_neg (fun q : (lo + k).toNat = (hi + k + 1).toNat ∧ _ => hab q.1)]
   have e1 : (lo + k).toNat < (c + k + 1).toNat ↔ lo ≤ c := by omega
   have e2 : (hi + k + 1).toNat < (c + k + 1).toNat ↔ hi < c := by omega
   simp only [e1, e2]
   by_cases d1 : lo ≤ c
   · by_cases d2 : hi < c
     · rw [if_pos d1, if_pos d2, if_neg (by omega)]; omega
     · rw [if_pos d1, if_neg d2, if_pos (by omega)]; omega
   · rw [if_neg d1, if_neg (by omega), if_neg (by omega)]; omega
 · rw [getD_setD, getD_setD]
   have b1 := h.bd j
   have b2 := h.bd (lo + k).toNat
   have b3 := h.bd (hi + k + 1).toNat
   split
   · omega
   · split <;> omega
theorem hit_iff {k : Nat} {c t : Int} {w : Win} (h1 : -(k : Int) ≤ c) (h2 : c ≤ k) : (max (t - w.2 + 1) (-(k : Int)) ≤ c ∧ c ≤ min (t - w.1) k) ↔ hitT (t - c) w = true := by
 unfold hitT; simp only [Bool.and_eq_true, decide_eq_true_eq]; omega
theorem MI.win {k : Nat} {B : Int} {F : Int → Int} {M : List Int} {t : Int} {W : List Win} {j : Nat} (hj : j < W.length) (h : MI k B (fun c => F c + (cntW (t - c) (W.take j) : Int)) M) (h2 : max (t - (W.getD j vw0).2 + 1) (-(k : Int)) ≤ min (t - (W.getD j vw0).1) k) :
 MI k (B + 1) (fun c => F c + (cntW (t - c) (W.take (j + 1)) : Int)) ((M.set (max (t - (W.getD j vw0).2 + 1) (-(k : Int)) + k).toNat (M.getD (max (t - (W.getD j vw0).2 + 1) (-(k : Int)) + k).toNat 0 + 1)).set (min (t - (W.getD j vw0).1) k + k + 1).toNat (M.getD (min (t - (W.getD j vw0).1) k + k + 1).toNat 0 - 1)) := by
 refine (h.upd (by omega) h2 (by omega)).mono (Int.le_refl _) fun c c1 c2 => ?_
 rw [cntW_take hj]
 simp only [hit_iff c1 c2]
 split <;> (push_cast; omega)
theorem MI.skip {k : Nat} {B : Int} {F : Int → Int} {M : List Int} {t : Int} {W : List Win} {j : Nat} (hj : j < W.length) (h : MI k B (fun c => F c + (cntW (t - c) (W.take j) : Int)) M) (h2 : ¬ max (t - (W.getD j vw0).2 + 1) (-(k : Int)) ≤ min (t - (W.getD j vw0).1) k) :
 MI k (B + 1) (fun c => F c + (cntW (t - c) (W.take (j + 1)) : Int)) M := by
 refine h.mono (by omega) fun c c1 c2 => ?_
 rw [cntW_take hj, if_neg]
 · push_cast; omega
 · rw [← hit_iff c1 c2]; omega
theorem MI.start {k : Nat} {B : Int} {F : Int → Int} {M : List Int} {t : Int} {W : List Win} (h : MI k B F M) : MI k B (fun c => F c + (cntW (t - c) (W.take 0) : Int)) M :=
 h.mono (Int.le_refl _) fun c _ _ => by simp [cntW]
theorem cntW_own {f : Flt} {h : List Hir} (hf : fltE f = 0) {p : List UInt8} {W : List Win} (hW : IsM ((hend f.plt).out p) h W) (t : Int) : (cntW t W : Int) = if 0 ≤ ownK ((hend f.plt).out p) h t then 1 else 0 := by
 have h1 := allW_own (l := h) hf p t
 rw [cntW_one hW.pw hW.ok]
 simp only [hW.hit t, h1]
 split <;> rfl
theorem MI.done {f : Flt} {h : List Hir} (hf : fltE f = 0) {k : Nat} {B : Int} {l : List Pas} {g : List UInt8} {i : Nat} {M : List Int} {W : List Win} {j : Nat} (hg : (l.getD i pa0).gate = g) (hW : IsM ((hend f.plt).out (l.getD i pa0).plate) h W) (hj : j = W.length)
 (q : MI k B (fun c => fitK (hend f.plt).out h l g i c + (cntW ((l.getD i pa0).tm - c) (W.take j) : Int)) M) : MI k B (fitK (hend f.plt).out h l g (i + 1)) M := by
 refine q.mono (Int.le_refl _) fun c _ _ => ?_
 subst hj
 rw [List.take_length, cntW_own hf hW, fitK]
 simp only [hg, true_and]
theorem MI.pass {O : List UInt8 → List Hld} {h : List Hir} {k : Nat} {B : Int} {l : List Pas} {g : List UInt8} {i : Nat} {M : List Int} (hg : (l.getD i pa0).gate ≠ g) (q : MI k B (fitK O h l g i) M) : MI k B (fitK O h l g (i + 1)) M := by
 refine q.mono (Int.le_refl _) fun c _ _ => ?_
 rw [fitK, if_neg (fun z => hg z.1)]; omega
theorem MI.done2 {f : Flt} {h : List Hir} (hf : fltE f = 0) {O : List UInt8 → List Hld} (hO : O = (hend f.plt).out) {k : Nat} {B C : Int} {l : List Pas} {g : List UInt8} {i : Nat} {M : List Int} {W : List Win} {j : Nat} (hg : (l.getD i pa0).gate = g) (hW : IsM (O (l.getD i pa0).plate) h W) (hj : j = W.length) (hBC : B ≤ C)
 (q : MI k B (fun c => fitK O h l g i c + (cntW ((l.getD i pa0).tm - c) (W.take j) : Int)) M) : MI k C (fitK O h l g (i + 1)) M := by
 subst hO
 exact (MI.done hf hg hW hj q).mono hBC fun _ _ _ => rfl
def oTClC49_13 : List (Nat × List Nat) := [(0, []), (1, [0]), (2, [0]), (3, [0, 1, 2]), (4, [0, 1, 2, 3]), (5, [0, 1, 2, 3]), (6, [0, 1, 2]), (7, [])]
def oTClC49_17 : List (Nat × List Nat) := [(0, []), (1, []), (2, [0, 1]), (3, [0, 1]), (4, []), (5, []), (6, [0, 1, 2, 3, 4, 5]), (7, [0, 1, 2, 3, 4, 5]), (8, []), (9, [0, 1, 2, 3, 4, 5, 6, 7, 8]), (10, [0, 1, 2, 3, 4, 5, 6, 7, 8]), (11, [0, 1, 2, 3, 4, 5, 6, 7, 8, 9, 10]), (12, [0, 1, 2, 3, 4, 5, 6, 7, 8, 9, 10]), (13, [0, 1, 2, 3, 4, 5, 6, 7, 8]), (14, [0, 1, 2, 3, 4, 5, 6, 7, 8, 9, 10, 11, 12, 13]), (15, [0, 1, 2, 3, 4, 5, 6, 7, 8]), (16, [9, 10, 11, 12, 13, 14, 15]), (17, [])]
def clkE (f : Flt) (h : List Hir) (l : List Pas) (g : List UInt8) (m : Int) : Int := firstE [fltE f, hirsE h, formE l, if (!isKeyB g) = true then 5 else 0, if (!decide (0 ≤ m ∧ m ≤ 1440)) = true then 1 else 0]
theorem clkE_eq (f : Flt) (h : List Hir) (l : List Pas) (g : List UInt8) (m : Int) : firstE [offE f h, formE l, if (!isKeyB g) = true then 5 else 0, if (!decide (0 ≤ m ∧ m ≤ 1440)) = true then 1 else 0] = clkE f h l g m := by
 unfold clkE offE
 simp only [firstE]
 grind
theorem clkE_zero {f : Flt} {h : List Hir} {l : List Pas} {g : List UInt8} {m : Int} (q : clkE f h l g m = 0) : fltE f = 0 ∧ hirsE h = 0 ∧ formE l = 0 ∧ 0 ≤ m ∧ m ≤ 1440 := by
 unfold clkE at q
 simp only [firstE] at q
 grind
theorem le_zer {n : Int} {m : Nat} (h : n.toNat = m) : Res.le (.buf 3 1 n.toNat fun _ => [cstD (.int .i64 0)]) (seqB 3 1 iF 0 (List.replicate m 0)) := by
 subst h
 exact Res.le_zeros
theorem keyEq_self (p : List UInt8) : keyEq [.str p] [.str p] = true := by rw [keyEq_str _ rfl]; simp [strK]
theorem le_updV (H : List UInt8 → Bool) (v : List UInt8 → DV) (p : List UInt8) (x : DV) : Res.le (.map false false [.str] [.nilsl] (fun q => keyEq q [.str p] || H (strK q)) (fun q => bif keyEq q [.str p] then [x] else [v (strK q)]))
 (mV (fun q => decide (q = p) || H q) (fun q => if q = p then x else v q)) := Res.le_map fun k hk => by
 rw [keyEq_str k hk p]
 by_cases hq : strK k = p
 · simp [hq]
 · simp [hq]
theorem allW_in {f : Flt} {h : List Hir} (E1 : fltE f = 0) (hs : ∀ x ∈ h, lgSeq x.legs) (p : List UInt8) : (∀ w ∈ allW ((hend f.plt).out p) h, w.1 < w.2) ∧ ∀ w ∈ allW ((hend f.plt).out p) h, 0 ≤ w.1 ∧ w.2 ≤ 5761440 := by
 have key : ∀ w ∈ allW ((hend f.plt).out p) h, w.1 < w.2 ∧ 0 ≤ w.1 ∧ w.2 ≤ 5761440 := by
  intro w hw
  unfold allW cutHl cutHh at hw
  rw [List.mem_flatMap] at hw
  obtain ⟨x, hx, hw⟩ := hw
  rw [List.mem_flatMap] at hw
  obtain ⟨y, hy, hw⟩ := hw
  rw [List.mem_flatMap] at hw
  obtain ⟨g, hg, hw⟩ := hw
  have h1 := (hs y hy).1 g hg
  unfold cutG at hw
  split at hw
  · rename_i c
    rw [List.mem_singleton] at hw
    subst hw
    refine ⟨c.2, ?_, ?_⟩
    · show 0 ≤ max g.out.tm x.frm; omega
    · show min (lastE g) x.til ≤ 5761440; omega
  · cases hw
 exact ⟨fun w hw => (key w hw).1, fun w hw => (key w hw).2⟩
def seenOk (O : List UInt8 → List Hld) (h : List Hir) (H : List UInt8 → Bool) (v : List UInt8 → DV) : Prop := ∀ q, (H q = true → ∃ W, v q = wins W ∧ IsM (O q) h W) ∧ (H q = false → v q = .nilsl)
theorem seenOk.add {O : List UInt8 → List Hld} {h : List Hir} {H : List UInt8 → Bool} {v : List UInt8 → DV} (k : seenOk O h H v) {p : List UInt8} {W : List Win} (hW : IsM (O p) h W) : seenOk O h (fun q => decide (q = p) || H q) (fun q => if q = p then wins W else v q) := by
 intro q
 by_cases c : q = p
 · subst c; exact ⟨fun _ => ⟨W, by simp, hW⟩, fun z => by simp at z⟩
 · refine ⟨fun hq => ?_, fun hq => ?_⟩
   · have : H q = true := by simpa [c] using hq
     obtain ⟨X, x1, x2⟩ := (k q).1 this
     exact ⟨X, by simp [c, x1], x2⟩
   · have : H q = false := by simpa [c] using hq
     simp [c, (k q).2 this]
set_option maxHeartbeats 8000000 in
theorem c49 (f : Flt) (hk : fltOk f) (h : List Hir) (hh : hiOk h) (hhl : h.length ≤ 1024) (hlg : ∀ x ∈ h, x.legs.length ≤ 1024) (l : List Pas) (hl : pOk l) (g : List UInt8) (hgl : g.length ≤ 2^40) (m : Int) (hm : -2^40 ≤ m ∧ m ≤ 2^40) :
 FSpec Tryz.prog 49 [flt f, .d (hirs h), .d (pass l), .d (.str g), .d (.int .i64 m)] [] (fun y r => (∃ b n, (if clkE f h l g m ≠ 0 then b = 0 ∧ n = 0 else bestIn (fitK (hend f.plt).out h l g l.length) (-m) m b ∧ n = fitK (hend f.plt).out h l g l.length b) ∧ y = .tup [.d (.int .i64 b), .d (.int .i64 n), .d (.int .i64 (clkE f h l g m))]) ∧ r = []) := by
 have h3 := s105 [offE f h, formE l, if (!isKeyB g) = true then 5 else 0, if (!decide (0 ≤ m ∧ m ≤ 1440)) = true then 1 else 0] (by simp)
 rw [clkE_eq] at h3
 refine spec_of hT (C := []) Tryz.func49 rfl Tryz.call49 rfl rfl rfl ?_
 conv => whnf
 repeat' (first | (refine CallX.exact (z72 f hk h hh) rfl rfl ?_; rotate_right; conv => whnf) | (refine CallX.exact (s152 l hl) rfl rfl ?_; rotate_right; conv => whnf) | (refine CallX.exact (s108 g hgl) rfl rfl ?_; rotate_right; conv => whnf) | (refine CallX.exact (s107 _ _) rfl rfl ?_; rotate_right; conv => whnf) | (refine CallX.exact (s119 _ _ _) rfl rfl ?_; rotate_right; conv => whnf) | (refine CallX.pure h3 ⟨SV.le_lit (by rfl) (by rfl), trivial⟩ rfl ?_; conv => whnf) | (refine br_intro ?_ ?_ <;> intro hb <;> (try simp only [brs] at hb) <;> conv => whnf) | (refine RegX.rule (id := 13) hT rfl [] oTClC49_13 (by decide +kernel) ?_; conv => whnf) | (refine RegX.rule (id := 17) hT rfl [] oTClC49_17 (by decide +kernel) ?_; conv => whnf) | omega | (refine And.intro ?_ ?_; ((try dsimp only); first | omega | (refine szA rfl ?_; omega) | (refine szB rfl ?_; omega) | (unfold inI64; omega) | exact rfl | (simp only [lns] at *; omega) | decide | (unfold inI64; decide)); conv => whnf) | decide | assumption)
 · refine .ret _ ?_
   conv => whnf
   exact ⟨[], ⟨⟨0, 0, by rw [if_pos hb]; exact ⟨rfl, rfl⟩, rfl⟩, rfl⟩, trivial⟩
 have E0 : clkE f h l g m = 0 := hb
 obtain ⟨E1, E2, E3, m1, m2⟩ := clkE_zero E0
 obtain ⟨hs, hpl⟩ := fltE_srt E1
 obtain ⟨hll, htm⟩ := form_zero E3
 have hseq : ∀ x ∈ h, lgSeq x.legs := fun x hx => lgSeq_of ((hirs_seq E2).1 x hx)
 obtain ⟨k, rfl⟩ : ∃ k : Nat, m = k := ⟨m.toNat, by omega⟩
 rw [E0]
 obtain ⟨O, hO⟩ : ∃ O, O = (hend f.plt).out := ⟨_, rfl⟩
 have hOl : ∀ q, (O q).length ≤ 1000 := fun q => by rw [hO]; exact Nat.le_trans (hend_len _ _) hpl
 have hall : ∀ p, (∀ w ∈ allW (O p) h, w.1 < w.2) ∧ ∀ w ∈ allW (O p) h, 0 ≤ w.1 ∧ w.2 ≤ 5761440 := fun p => by rw [hO]; exact allW_in E1 hseq p
 refine CallX.of (z73 f hpl hs h) [(6, 30)] rfl ⟨lr, lr, trivial⟩ trivial rfl rfl ?_
 rintro x rout ⟨rfl, rfl⟩
 refine ⟨rfl, ?_⟩
 conv => whnf
 repeat' (first | (refine br_intro ?_ ?_ <;> intro hb <;> (try simp only [brs] at hb) <;> conv => whnf) | (refine RegX.rule (id := 13) hT rfl [] oTClC49_13 (by decide +kernel) ?_; conv => whnf) | (refine RegX.rule (id := 17) hT rfl [] oTClC49_17 (by decide +kernel) ?_; conv => whnf) | omega | (refine And.intro ?_ ?_; ((try dsimp only); first | omega | (refine szA rfl ?_; omega) | (refine szB rfl ?_; omega) | (unfold inI64; omega) | exact rfl | (simp only [lns] at *; omega) | decide | (unfold inI64; decide)); conv => whnf) | decide | assumption)
 refine LoopX.rule hT (C := []) (ι := Nat × (List UInt8 → Bool) × (List UInt8 → DV) × List Int) (fun (i, H, v, M) => i ≤ l.length ∧ seenOk O h H v ∧ MI k ((i : Int) * 2147483648) (fitK O h l g i) M)
  (fun (i, H, v, M) => mkSt [(3, .d (.str g)), (4, .d (.int .i64 k)), (14, .ptr 14 0), (15, .mp 15), (16, .buf 16), (55, .d (pass l)), (56, .d (.int .i64 l.length)), (57, .d (.int .i64 i))] [(14, .cells 137 [.mp 30, .d (hirs h)]), (30, mF O), (15, mV H v), (16, seqB 3 1 iF 0 M)])
  (fun (i, _) => l.length - i) (0, (fun _ => false), (fun _ => .nilsl), List.replicate (2 * k + 2) 0) ⟨Nat.zero_le _, (fun q => ⟨fun hq => (nomatch hq), fun _ => rfl⟩ : seenOk O h (fun _ => false) (fun _ => .nilsl)), (MI.zero k).mono (by omega) (fun _ _ _ => rfl)⟩ ?_ ?_
 · exact Entails.mk' [(14, 14), (30, 30), (15, 50), (16, 54)] rfl rfl ⟨lr, lr, lr, lr, lr, lr, lr, lr, trivial⟩ ⟨rr, by rw [hO]; exact rr, Res.le_map (fun k hk => ⟨rfl, rfl⟩), le_zer (by omega), trivial⟩
 rintro ⟨i, H, v, M⟩ ⟨p1, hS, hMI⟩
 have p1 : i ≤ l.length := p1
 have hS : seenOk O h H v := hS
 have hMI : MI k ((i : Int) * 2147483648) (fitK O h l g i) M := hMI
 have e1 : (i : Int).toNat = i := Int.toNat_natCast i
 rcases Nat.lt_or_ge i l.length with hi | hi
 · have ht := htm (l.getD (i : Int).toNat pa0) (getD_mem (by omega))
   refine' LoopX.shareX (P := Tryz.prog) (α := (List UInt8 → Bool) × (List UInt8 → DV) × List Win) (fun (H2, v2, W) => mkSt [(3, .d (.str g)), (4, .d (.int .i64 k)), (14, .ptr 14 0), (15, .mp 15), (16, .buf 16), (18, .ptr 18 0), (55, .d (pass l)), (56, .d (.int .i64 l.length)), (57, .d (.int .i64 i)), (84, .d (wins W)), (85, .d (.int .i64 W.length)), (86, .d (.int .i64 0))] [(14, .cells 137 [.mp 30, .d (hirs h)]), (30, mF O), (15, mV H2 v2), (16, seqB 3 1 iF 0 M), (18, .cells 106 ((paF (l.getD (i : Int).toNat pa0)).map .d))]) (fun (H2, v2, W) => seenOk O h H2 v2 ∧ IsM (O (l.getD (i : Int).toNat pa0).plate) h W ∧ (l.getD (i : Int).toNat pa0).gate = g) ?main ?tail
   case main =>
    intro tail
    cases hH : H (l.getD (i : Int).toNat pa0).plate with
    | true =>
      obtain ⟨W, hv, hW⟩ := (hS _).1 hH
      have ev : v (strK [.str (l.getD (i : Int).toNat pa0).plate]) = wins W := hv
      have eh : H (strK [.str (l.getD (i : Int).toNat pa0).plate]) = true := hH
      conv => whnf
      repeat' (first | (rw [ev]; conv => whnf) | (refine br_intro ?_ ?_ <;> intro hb <;> (try simp only [brs] at hb) <;> conv => whnf) | (refine RegX.rule (id := 13) hT rfl [] oTClC49_13 (by decide +kernel) ?_; conv => whnf) | (refine RegX.rule (id := 17) hT rfl [] oTClC49_17 (by decide +kernel) ?_; conv => whnf) | omega | (refine And.intro ?_ ?_; ((try dsimp only); first | omega | (refine szA rfl ?_; omega) | (refine szB rfl ?_; omega) | (unfold inI64; omega) | exact rfl | (simp only [lns] at *; omega) | decide | (unfold inI64; decide)); conv => whnf) | decide | assumption)
      all_goals try (have q := ‹H (strK [DV.str (l.getD (i : Int).toNat pa0).plate]) = false›; rw [eh] at q; cases q)
      · have hg : (l.getD i pa0).gate ≠ g := hb
        exact ⟨(i + 1, H, v, M), ⟨by show i + 1 ≤ l.length; omega, hS, (hMI.pass hg).mono (by push_cast; omega) (fun _ _ _ => rfl)⟩, by show l.length - (i + 1) < l.length - i; omega, (by (refine Entails.mk' [(14, 14), (30, 30), (15, 15), (16, 16)] rfl rfl ?_ ?_ <;> repeat' (first | exact True.intro | exact lr | exact rr | exact SV.le_int (by omega) | exact SV.le_any _ | refine And.intro ?_ ?_)); done)⟩
      · refine LoopX.ent ?_ (tail (H, v, W) ⟨hS, hW, by assumption⟩)
        exact Entails.mk' [(14, 14), (30, 30), (15, 15), (16, 16), (18, 18)] rfl rfl ⟨lr, lr, lr, lr, lr, lr, lr, lr, lr, lr, lr, lr, trivial⟩ ⟨rr, rr, rr, rr, rr, trivial⟩
    | false =>
      have ev : v (strK [.str (l.getD (i : Int).toNat pa0).plate]) = .nilsl := (hS _).2 hH
      have eh : H (strK [.str (l.getD (i : Int).toNat pa0).plate]) = false := hH
      conv => whnf
      repeat' (first | (rw [ev]; conv => whnf) | (refine CallX.of (c123 (fun p => !(O p).isEmpty) (fun p => vF (O p)) (O (l.getD (i : Int).toNat pa0).plate) h (l.getD (i : Int).toNat pa0).plate (Nat.le_trans (hOl _) (by decide)) hhl hlg (vF_or _) (hall _).1 (hall _).2) [(1000001, 30)] rfl ⟨lr, lr, trivial⟩ ⟨rr, trivial⟩ rfl rfl ?_; rintro x rout ⟨⟨W, hW, rfl⟩, rfl⟩; refine ⟨rfl, ?_⟩; conv => whnf) | (simp only [keyEq_self, cond_true]; conv => whnf) | (refine br_intro ?_ ?_ <;> intro hb <;> (try simp only [brs] at hb) <;> conv => whnf) | (refine RegX.rule (id := 13) hT rfl [] oTClC49_13 (by decide +kernel) ?_; conv => whnf) | (refine RegX.rule (id := 17) hT rfl [] oTClC49_17 (by decide +kernel) ?_; conv => whnf) | omega | (refine And.intro ?_ ?_; ((try dsimp only); first | omega | (refine szA rfl ?_; omega) | (refine szB rfl ?_; omega) | (unfold inI64; omega) | exact rfl | (simp only [lns] at *; omega) | decide | (unfold inI64; decide)); conv => whnf) | decide | assumption)
      all_goals try (have q := ‹H (strK [DV.str (l.getD (i : Int).toNat pa0).plate]) = true›; rw [eh] at q; cases q)
      · have hg : (l.getD i pa0).gate ≠ g := hb
        exact ⟨(i + 1, H, v, M), ⟨by show i + 1 ≤ l.length; omega, hS, (hMI.pass hg).mono (by push_cast; omega) (fun _ _ _ => rfl)⟩, by show l.length - (i + 1) < l.length - i; omega, (by (refine Entails.mk' [(14, 14), (30, 30), (15, 15), (16, 16)] rfl rfl ?_ ?_ <;> repeat' (first | exact True.intro | exact lr | exact rr | exact SV.le_int (by omega) | exact SV.le_any _ | refine And.intro ?_ ?_)); done)⟩
      · refine LoopX.ent ?_ (tail (_, _, W) ⟨hS.add hW, hW, by assumption⟩)
        exact Entails.mk' [(14, 14), (30, 30), (15, 15), (16, 16), (18, 18)] rfl rfl ⟨lr, lr, lr, lr, lr, lr, lr, lr, lr, lr, lr, lr, trivial⟩ ⟨rr, rr, le_updV H v (l.getD (i : Int).toNat pa0).plate (wins W), rr, rr, trivial⟩
   case tail =>
    rintro ⟨H2, v2, W⟩ ⟨hS2, hW, hg⟩
    have hS2 : seenOk O h H2 v2 := hS2
    have hW : IsM (O (l.getD (i : Int).toNat pa0).plate) h W := hW
    have hg : (l.getD (i : Int).toNat pa0).gate = g := hg
    refine LoopX.rule hT (C := []) (ι := Nat × List Int) (fun (j, M) => j ≤ W.length ∧ MI k ((i : Int) * 2147483648 + j) (fun c => fitK O h l g i c + (cntW ((l.getD (i : Int).toNat pa0).tm - c) (W.take j) : Int)) M)
     (fun (j, M) => mkSt [(3, .d (.str g)), (4, .d (.int .i64 k)), (14, .ptr 14 0), (15, .mp 15), (16, .buf 16), (18, .ptr 18 0), (55, .d (pass l)), (56, .d (.int .i64 l.length)), (57, .d (.int .i64 i)), (84, .d (wins W)), (85, .d (.int .i64 W.length)), (86, .d (.int .i64 j))] [(14, .cells 137 [.mp 30, .d (hirs h)]), (30, mF O), (15, mV H2 v2), (16, seqB 3 1 iF 0 M), (18, .cells 106 ((paF (l.getD (i : Int).toNat pa0)).map .d))])
     (fun (j, _) => W.length - j) (0, M) ⟨Nat.zero_le _, (hMI.mono (by omega) (fun _ _ _ => rfl)).start⟩ ?_ ?_
    · exact Entails.mk' [(14, 14), (30, 30), (15, 15), (16, 16), (18, 18)] rfl rfl ⟨lr, lr, lr, lr, lr, lr, lr, lr, lr, lr, lr, lr, trivial⟩ ⟨rr, rr, rr, rr, rr, trivial⟩
    rintro ⟨j, M1⟩ ⟨q1, hM1⟩
    have q1 : j ≤ W.length := q1
    have hM1 : MI k ((i : Int) * 2147483648 + j) (fun c => fitK O h l g i c + (cntW ((l.getD (i : Int).toNat pa0).tm - c) (W.take j) : Int)) M1 := hM1
    have e2 : (j : Int).toNat = j := Int.toNat_natCast j
    have hml := hM1.len
    have hwl := hW.len
    rcases Nat.lt_or_ge j W.length with hj | hj
    · have w1 := hW.ok (W.getD (j : Int).toNat vw0) (getD_mem (by omega))
      have w2 := hW.bd (W.getD (j : Int).toNat vw0) (getD_mem (by omega))
      have hI1 : ∀ q, inI64 (M1.getD q 0 + 1) := fun q => by have := hM1.bd q; unfold inI64; omega
      have hI2 : ∀ q, inI64 (M1.getD q 0 - 1) := fun q => by have := hM1.bd q; unfold inI64; omega
      obtain ⟨lo, hlo⟩ : ∃ lo : Int, lo = (bif true then max ((l.getD (i : Int).toNat pa0).tm - (W.getD (j : Int).toNat vw0).2 + 1) (0 - (k : Int)) else min ((l.getD (i : Int).toNat pa0).tm - (W.getD (j : Int).toNat vw0).2 + 1) (0 - (k : Int))) := ⟨_, rfl⟩
      obtain ⟨hi2, hhi⟩ : ∃ x : Int, x = (bif false then max ((l.getD (i : Int).toNat pa0).tm - (W.getD (j : Int).toNat vw0).1) (k : Int) else min ((l.getD (i : Int).toNat pa0).tm - (W.getD (j : Int).toNat vw0).1) (k : Int)) := ⟨_, rfl⟩
      have hlo2 : lo = max ((l.getD (i : Int).toNat pa0).tm - (W.getD (j : Int).toNat vw0).2 + 1) (-(k : Int)) := by rw [hlo, cond_true]; omega
      have hhi2 : hi2 = min ((l.getD (i : Int).toNat pa0).tm - (W.getD (j : Int).toNat vw0).1) (k : Int) := by rw [hhi, cond_false]
      have hlo3 : lo = max ((l.getD (i : Int).toNat pa0).tm - (W.getD j vw0).2 + 1) (-(k : Int)) := by rw [hlo2, e2]
      have hhi3 : hi2 = min ((l.getD (i : Int).toNat pa0).tm - (W.getD j vw0).1) (k : Int) := by rw [hhi2, e2]
      conv => whnf
      repeat' (first | (refine br_intro ?_ ?_ <;> intro hb <;> (try simp only [brs] at hb) <;> conv => whnf) | (refine RegX.rule (id := 13) hT rfl [] oTClC49_13 (by decide +kernel) ?_; conv => whnf) | (refine RegX.rule (id := 17) hT rfl [] oTClC49_17 (by decide +kernel) ?_; conv => whnf) | omega | (refine And.intro ?_ ?_; ((try dsimp only); first | omega | (refine szA rfl ?_; omega) | (refine szB rfl ?_; omega) | (unfold inI64; omega) | exact rfl | (simp only [lns] at *; omega) | decide | (unfold inI64; decide)); conv => whnf) | decide | assumption)
      · have hb2 : lo ≤ hi2 := by rw [hlo, hhi]; exact hb
        have hne : Nat.beq (hi2 + (k : Int) + 1).toNat (lo + (k : Int)).toNat = false := Bool.eq_false_iff.2 fun q => by have := Nat.eq_of_beq_eq_true q; omega
        rw [← hlo, ← hhi]
        repeat' (first | (refine And.intro (hI1 _) ?_; conv => whnf) | (refine And.intro (hI2 _) ?_; conv => whnf) | (simp only [hne, cond_false]; conv => whnf) | (refine br_intro ?_ ?_ <;> intro hb <;> (try simp only [brs] at hb) <;> conv => whnf) | (refine RegX.rule (id := 13) hT rfl [] oTClC49_13 (by decide +kernel) ?_; conv => whnf) | (refine RegX.rule (id := 17) hT rfl [] oTClC49_17 (by decide +kernel) ?_; conv => whnf) | omega | (refine And.intro ?_ ?_; ((try dsimp only); first | omega | (refine szA rfl ?_; omega) | (refine szB rfl ?_; omega) | (unfold inI64; omega) | exact rfl | (simp only [lns] at *; omega) | decide | (unfold inI64; decide)); conv => whnf) | decide | assumption)
        have hM2 := hM1.win hj (by rw [← hlo3, ← hhi3]; exact hb2)
        rw [← hlo3, ← hhi3] at hM2
        refine ⟨(j + 1, (M1.set (lo + k).toNat (M1.getD (lo + k).toNat 0 + 1)).set (hi2 + k + 1).toNat (M1.getD (hi2 + k + 1).toNat 0 - 1)), ⟨by show j + 1 ≤ W.length; omega, hM2.mono (by push_cast; omega) (fun _ _ _ => rfl)⟩, by show W.length - (j + 1) < W.length - j; omega, Entails.mk' [(14, 14), (30, 30), (15, 15), (16, 16), (18, 18)] rfl rfl ⟨lr, lr, lr, lr, lr, lr, lr, lr, lr, lr, lr, lr, trivial⟩ ⟨rr, rr, rr, ?_, rr, trivial⟩⟩
        exact Res.le_put2 (fun _ => rfl) (fun _ => rfl)
      · have hM2 := hM1.skip hj (by rw [← hlo3, ← hhi3, hlo, hhi]; exact Int.not_le.2 hb)
        exact ⟨(j + 1, M1), ⟨by show j + 1 ≤ W.length; omega, hM2.mono (by push_cast; omega) (fun _ _ _ => rfl)⟩, by show W.length - (j + 1) < W.length - j; omega, (by (refine Entails.mk' [(14, 14), (30, 30), (15, 15), (16, 16), (18, 18)] rfl rfl ?_ ?_ <;> repeat' (first | exact True.intro | exact lr | exact rr | exact SV.le_int (by omega) | exact SV.le_any _ | refine And.intro ?_ ?_)); done)⟩
    · conv => whnf
      repeat' (first | (refine br_intro ?_ ?_ <;> intro hb <;> (try simp only [brs] at hb) <;> conv => whnf) | (refine RegX.rule (id := 13) hT rfl [] oTClC49_13 (by decide +kernel) ?_; conv => whnf) | (refine RegX.rule (id := 17) hT rfl [] oTClC49_17 (by decide +kernel) ?_; conv => whnf) | omega | (refine And.intro ?_ ?_; ((try dsimp only); first | omega | (refine szA rfl ?_; omega) | (refine szB rfl ?_; omega) | (unfold inI64; omega) | exact rfl | (simp only [lns] at *; omega) | decide | (unfold inI64; decide)); conv => whnf) | decide | assumption)
      all_goals try (exfalso; omega)
      have hB : (i : Int) * 2147483648 + j ≤ ((i + 1 : Nat) : Int) * 2147483648 := by push_cast; omega
      exact ⟨(i + 1, H2, v2, M1), ⟨by show i + 1 ≤ l.length; omega, hS2, MI.done2 E1 hO (by rw [e1] at hg; exact hg) (by rw [e1] at hW; exact hW) (by omega : j = W.length) hB (by rw [e1] at hM1; exact hM1)⟩, by show l.length - (i + 1) < l.length - i; omega, (by (refine Entails.mk' [(14, 14), (30, 30), (15, 15), (16, 16)] rfl rfl ?_ ?_ <;> repeat' (first | exact True.intro | exact lr | exact rr | exact SV.le_int (by omega) | exact SV.le_any _ | refine And.intro ?_ ?_)); done)⟩
 · have hil : i = l.length := by omega
   subst hil
   have hml := hMI.len
   conv => whnf
   repeat' (first | (refine br_intro ?_ ?_ <;> intro hb <;> (try simp only [brs] at hb) <;> conv => whnf) | (refine RegX.rule (id := 13) hT rfl [] oTClC49_13 (by decide +kernel) ?_; conv => whnf) | (refine RegX.rule (id := 17) hT rfl [] oTClC49_17 (by decide +kernel) ?_; conv => whnf) | omega | (refine And.intro ?_ ?_; ((try dsimp only); first | omega | (refine szA rfl ?_; omega) | (refine szB rfl ?_; omega) | (unfold inI64; omega) | exact rfl | (simp only [lns] at *; omega) | decide | (unfold inI64; decide)); conv => whnf) | decide | assumption)
   all_goals try (exfalso; omega)
   refine LoopX.rule hT (C := []) (ι := Nat × Int × Int) (fun (q, b, n) => q ≤ 2 * k + 1 ∧ ((q = 0 ∧ b = 0 ∧ n = -1) ∨ (0 < q ∧ bestIn (fitK O h l g l.length) (-(k : Int)) ((q : Int) - 1 - k) b ∧ n = fitK O h l g l.length b)))
    (fun (q, b, n) => mkSt [(4, .d (.int .i64 k)), (16, .buf 16), (25, .d (.int .i64 b)), (26, .d (.int .i64 n)), (27, .d (.int .i64 (M.take q).sum)), (28, .d (.int .i64 ((q : Int) - k)))] [(16, seqB 3 1 iF 0 M)])
    (fun (q, _) => 2 * k + 1 - q) (0, 0, -1) ⟨Nat.zero_le _, .inl ⟨rfl, rfl, rfl⟩⟩ ?_ ?_
   · exact Entails.mk' [(16, 16)] rfl rfl ⟨lr, lr, lr, lr, lr, SV.le_int (by omega), trivial⟩ ⟨rr, trivial⟩
   rintro ⟨q, b, n⟩ ⟨p2, hq⟩
   have p2 : q ≤ 2 * k + 1 := p2
   have hq : (q = 0 ∧ b = 0 ∧ n = -1) ∨ (0 < q ∧ bestIn (fitK O h l g l.length) (-(k : Int)) ((q : Int) - 1 - k) b ∧ n = fitK O h l g l.length b) := hq
   have hbb : -(k : Int) ≤ b ∧ b ≤ k := by
    rcases hq with ⟨_, rfl, _⟩ | ⟨_, h1, _⟩
    · omega
    · have := h1.1; omega
   have hsum : ∀ c : Nat, 1 ≤ c → c ≤ 2 * k + 1 → (M.take c).sum = fitK O h l g l.length ((c : Int) - 1 - k) := fun c c1 c2 => by
    have := hMI.sum ((c : Int) - 1 - k) (by omega) (by omega)
    rwa [show ((c : Int) - 1 - k + k + 1).toNat = c by omega] at this
   have hs0 : 0 ≤ (M.take q).sum ∧ (M.take q).sum ≤ 1000 := by
    rcases Nat.eq_zero_or_pos q with rfl | q1
    · simp
    · rw [hsum q q1 p2]
      have := fitK_bd O h l g ((q : Int) - 1 - k) l.length
      omega
   rcases Nat.lt_or_ge q (2 * k + 1) with hqk | hqk
   · have eq1 : ((q : Int) - k + k).toNat = q := by omega
     have hmq := hMI.bd ((q : Int) - k + k).toNat
     have hnx : (M.take q).sum + M.getD ((q : Int) - k + k).toNat 0 = fitK O h l g l.length ((q : Int) - k) := by
      rw [eq1, ← sum_snoc (by omega), hsum (q + 1) (by omega) (by omega)]
      congr 1
      push_cast; omega
     have hfb := fitK_bd O h l g ((q : Int) - k) l.length
     have hnb : -1 ≤ n ∧ n ≤ 1000 := by
      rcases hq with ⟨_, _, rfl⟩ | ⟨_, _, rfl⟩
      · omega
      · have := fitK_bd O h l g b l.length; omega
     have hsn : (M.take (q + 1)).sum = (M.take q).sum + M.getD ((q : Int) - k + k).toNat 0 := by rw [eq1]; exact sum_snoc (by omega)
     have hq1 : (((q + 1 : Nat) : Int) - 1 - k) = (q : Int) - k := by push_cast; omega
     have hyes : (n < fitK O h l g l.length ((q : Int) - k) ∨ (fitK O h l g l.length ((q : Int) - k) = n ∧ max ((q : Int) - k) (-((q : Int) - k)) < max b (-b))) → bestIn (fitK O h l g l.length) (-(k : Int)) ((q : Int) - k) ((q : Int) - k) := fun hc => by
      rcases hq with ⟨rfl, _, _⟩ | ⟨_, h1, h2⟩
      · rw [show ((0 : Nat) : Int) - (k : Int) = -(k : Int) by omega]; exact best_one _ _
      · refine best_scan (c := (q : Int) - k) (b := b) (by rw [show (q : Int) - k - 1 = (q : Int) - 1 - k by omega]; exact h1) _ ?_
        rw [if_pos (by rw [← h2]; exact hc)]
     have hno : ¬ (n < fitK O h l g l.length ((q : Int) - k) ∨ (fitK O h l g l.length ((q : Int) - k) = n ∧ max ((q : Int) - k) (-((q : Int) - k)) < max b (-b))) → bestIn (fitK O h l g l.length) (-(k : Int)) ((q : Int) - k) b ∧ n = fitK O h l g l.length b := fun hc => by
      rcases hq with ⟨_, _, rfl⟩ | ⟨_, h1, h2⟩
      · exact absurd (.inl (by omega)) hc
      · refine ⟨best_scan (c := (q : Int) - k) (b := b) (by rw [show (q : Int) - k - 1 = (q : Int) - 1 - k by omega]; exact h1) _ ?_, h2⟩
        rw [if_neg (by rw [← h2]; exact hc)]
     conv => whnf
     repeat' (first | (refine br_intro ?_ ?_ <;> intro hb <;> (try simp only [brs] at hb) <;> conv => whnf) | (refine RegX.rule (id := 13) hT rfl [] oTClC49_13 (by decide +kernel) ?_; conv => whnf) | (refine RegX.rule (id := 17) hT rfl [] oTClC49_17 (by decide +kernel) ?_; conv => whnf) | omega | (refine And.intro ?_ ?_; ((try dsimp only); first | omega | (refine szA rfl ?_; omega) | (refine szB rfl ?_; omega) | (unfold inI64; omega) | exact rfl | (simp only [lns] at *; omega) | decide | (unfold inI64; decide)); conv => whnf) | decide | assumption)
     all_goals try (exfalso; omega)
     all_goals try simp only [cond_true] at hb
     all_goals first
      | (have hy := hyes (by rw [← hnx]; omega)
         exact ⟨(q + 1, (q : Int) - k, (M.take q).sum + M.getD ((q : Int) - k + k).toNat 0), ⟨by show q + 1 ≤ 2 * k + 1; omega, .inr ⟨by show 0 < q + 1; omega, by rw [hq1]; exact hy, hnx⟩⟩, by show 2 * k + 1 - (q + 1) < 2 * k + 1 - q; omega,
          Entails.mk' [(16, 16)] rfl rfl ⟨lr, lr, lr, lr, SV.le_int hsn.symm, SV.le_int (by push_cast; omega), trivial⟩ ⟨rr, trivial⟩⟩)
      | (have hy := hno (by rw [← hnx]; omega)
         exact ⟨(q + 1, b, n), ⟨by show q + 1 ≤ 2 * k + 1; omega, .inr ⟨by show 0 < q + 1; omega, by rw [hq1]; exact hy.1, hy.2⟩⟩, by show 2 * k + 1 - (q + 1) < 2 * k + 1 - q; omega,
          Entails.mk' [(16, 16)] rfl rfl ⟨lr, lr, lr, lr, SV.le_int hsn.symm, SV.le_int (by push_cast; omega), trivial⟩ ⟨rr, trivial⟩⟩)
   · conv => whnf
     repeat' (first | (refine br_intro ?_ ?_ <;> intro hb <;> (try simp only [brs] at hb) <;> conv => whnf) | (refine RegX.rule (id := 13) hT rfl [] oTClC49_13 (by decide +kernel) ?_; conv => whnf) | (refine RegX.rule (id := 17) hT rfl [] oTClC49_17 (by decide +kernel) ?_; conv => whnf) | omega | (refine And.intro ?_ ?_; ((try dsimp only); first | omega | (refine szA rfl ?_; omega) | (refine szB rfl ?_; omega) | (unfold inI64; omega) | exact rfl | (simp only [lns] at *; omega) | decide | (unfold inI64; decide)); conv => whnf) | decide | assumption)
     all_goals try (exfalso; omega)
     refine .ret _ ?_
     conv => whnf
     refine ⟨[], ⟨⟨b, n, ?_, rfl⟩, rfl⟩, trivial⟩
     rw [if_neg (by simp)]
     rcases hq with ⟨h0, _, _⟩ | ⟨_, h1, h2⟩
     · omega
     · rw [show (q : Int) - 1 - k = k by omega, hO] at h1
       rw [hO] at h2
       exact ⟨h1, h2⟩
section
variable {v : List UInt8} {a b : Int} {l : List Hir}
end
end Go.Proofs.YtcjfniddeibbhaaGreatDoor
namespace Go.Proofs
open Go.Shelf
def Tryz.laysGrowE_ren : Go.Shelf.Ren := ⟨fun | 4 => 266 | n => n, fun | 22 => 213 | 25 => 217 | 3 => 3 | 4 => 4 | 9 => 9 | 20 => 20 | 0 => 0 | n => n, fun | n => n⟩
theorem Tryz.laysGrowE : Go.Proofs.Lays8.n4 Tryz.prog Tryz.laysGrowE_ren := {
 mixed := by kernel_rfl
 f4 := ⟨Tryz.f266.name, by decide, Tryz.func266.trans (congrArg some (by kernel_rfl))⟩
 t0 := Tryz.underlying0
 a0 := Tryz.isAgg0
 z0 := Tryz.sizeOf0
 v0 := Tryz.zeroValue0
 t3 := Tryz.underlying3
 a3 := Tryz.isAgg3
 z3 := Tryz.sizeOf3
 v3 := Tryz.zeroValue3
 t4 := Tryz.underlying4
 a4 := Tryz.isAgg4
 z4 := Tryz.sizeOf4
 v4 := Tryz.zeroValue4
 t9 := Tryz.underlying9
 a9 := Tryz.isAgg9
 z9 := Tryz.sizeOf9
 v9 := Tryz.zeroValue9
 t20 := Tryz.underlying20
 a20 := Tryz.isAgg20
 z20 := Tryz.sizeOf20
 v20 := Tryz.zeroValue20
 t22 := Tryz.underlying213
 a22 := Tryz.isAgg213
 z22 := Tryz.sizeOf213
 v22 := Tryz.zeroValue213 }
end Go.Proofs
set_option maxRecDepth 20000
namespace Go.Proofs.YtcjfniddeibbhaaGreatDoor
open Go Go.Eng Go.RowKit
structure Ent where
 tm : Int
 desk : List UInt8
 no : Int
 words : List UInt8
def enF : Ent → List DV := fun x => [.int .i64 x.tm, .str x.desk, .int .i64 x.no, .str x.words]
def en0 : Ent := ⟨0, [], 0, []⟩
abbrev ents (l : List Ent) : DV := seqD 4 enF en0 l
theorem sGrowE (n : Nat) (hn : n ≤ 2^20) : FSpec Tryz.prog 266 [.d .nilsl, .d (.int .i64 n)] [] (fun y r => y = .buf 1000001 ∧ r = [(1000001, .buf 217 4 0 fun _ => [])]) := by
 refine FSpec.ofRow (by decide) Tryz.call266 (fun G β w vs _ hl hd => ?_)
 match vs, hl with
 | [u, v], _ =>
   have hu := hd 0 _ _ rfl rfl
   have hv := hd 1 _ _ rfl rfl
   cases hu with | d _ _ hu => cases hu with | nilsl =>
   cases hv with | d _ _ hv => cases hv with | int _ _ =>
   by_cases h0 : n = 0
   · subst h0
     refine (Go.Proofs.Any8.slices_Grow_room Go.Proofs.Tryz.laysGrowE none 0 0 0 w (by decide) (by decide) (by decide) (by decide)).mono ?_
     rintro e w' ⟨rfl, rfl⟩
     exact ⟨Below.refl _ _, _, rfl, .inl rfl⟩
   · obtain ⟨_, inf, hi, hsz, hby, hz⟩ := hT.get (t := 217) (i := (T 217).get rfl) rfl
     have hg1 := grownCap_ge w (0 + n) 0 217
     have hg2 := grownCap_le_maxLen w (0 + n) 0 217 (by simp only [maxLen]; omega)
     refine (Go.Proofs.Any8.slices_Grow_grow Go.Proofs.Tryz.laysGrowE inf _ hi hz (by rw [hsz]; decide) none 0 0 n [] w (Nat.le_refl _) (by omega) (by rw [hby]; show (0 + n) * 48 ≤ _; omega) (by omega) (by simp) (fun _ => rfl) (fun a h => by cases h)).mono ?_
     rintro e w' ⟨rfl, rfl⟩
     refine ⟨⟨rfl, rfl, rfl, ?_, fun b hb => ?_⟩, _, rfl, .inr ⟨_, _, _, rfl, Nat.le_refl _, Array.getElem?_push_size, hg2, ?_⟩⟩
     · show w.heap.size ≤ (w.heap.push _).size
       rw [Array.size_push]; omega
     · show (w.heap.push _)[b]? = w.heap[b]?
       rw [Array.getElem?_push]; exact if_neg (by omega)
     · rw [Array.size_append, Array.size_append, size_zeroCells, size_zeroCells]
       show 0 + (0 + n - 0) * 4 + (grownCap w (0 + n) 0 217 - (0 + n)) * 4 = grownCap w (0 + n) 0 217 * 4
       omega
end Go.Proofs.YtcjfniddeibbhaaGreatDoor
