/- PlansCheck is proved: for every input the law returns true, and its argument reads afterwards as it read before. Conditions: those of the given row alone. -/
import Derived.Test.YteehenjdddlnnaaGreatDoorPckConOne
import Derived.Shelf.Small.Strs
import Derived.Test.YteehenjdddlnnaaGreatDoorProg
import Derived.Test.YteehenjdddlnnaaGreatDoorPckEngTwo
import Derived.Test.YteehenjdddlnnaaGreatDoorPckEngMap
set_option linter.unusedVariables false
set_option linter.unusedSimpArgs false
set_option maxRecDepth 20000
namespace Go.Proofs.YteehenjdddlnnaaGreatDoor
open Go Go.Eng
def netH (l : List Roa) : List DV → Bool
 | [.str a, .str b] => (roadO l a b).isSome
 | _ => false
def netV (l : List Roa) : List DV → List DV
 | [.str a, .str b] => rdF ((roadO l a b).getD rd0)
 | _ => rdF rd0
abbrev netG (l : List Roa) : Res := .map true true [.str, .str] [.str [], .str [], .int .i64 0, .int .i64 0] (netH l) (netV l)
theorem wk_two {key : List DV} (h : wk [.str, .str] key = true) : ∃ a b, key = [.str a, .str b] := by
 cases key with
 | nil => simp [wk] at h
 | cons x key =>
   cases key with
   | nil => simp [wk] at h
   | cons y key =>
     cases key with
     | cons z key => simp [wk] at h
     | nil =>
       simp only [wk, Bool.and_true, Bool.and_eq_true] at h
       cases x <;> simp [wk1] at h
       cases y <;> simp at h
       exact ⟨_, _, rfl⟩
theorem z117 (l : List Roa) (hl : rdsE l = 0) : FSpec Tryz.prog 55 [.d (roas l)] [] (fun y r => y = .mp 3 ∧ r = [(3, netG l)]) := by
 have hl2 := (rds_all hl).1
 refine spec_of hT (C := []) Tryz.func55 rfl Tryz.call55 rfl rfl rfl ?_
 conv => whnf
 refine LoopX.rule hT (C := []) (ι := Nat) (fun i => i ≤ l.length) (fun i => mkSt [(3, .mp 3), (7, .d (roas l)), (8, .d (.int .i64 l.length)), (9, .d (.int .i64 i))] [(3, netR l i)]) (fun i => l.length - i) 0 (by omega) ?_ ?_
 · exact Entails.mk' [(3, 6)] rfl rfl ⟨lr, lr, lr, lr, trivial⟩ ⟨rr, trivial⟩
 rintro i p1
 conv => whnf
 repeat' (first | (refine br_intro ?_ ?_ <;> intro hb <;> (try simp only [brs] at hb) <;> conv => whnf) | omega | (refine And.intro ?_ ?_; ((try dsimp only); first | omega | (refine szA rfl ?_; omega) | (refine szB rfl ?_; omega) | (unfold inI64; omega) | exact rfl | (simp only [lns] at *; omega) | decide | (unfold inI64; decide)); conv => whnf) | decide | assumption)
 · exact ⟨i + 1, by omega, by omega, Entails.mk' [(3, 3)] rfl rfl ⟨lr, lr, lr, lr, trivial⟩ ⟨rr, trivial⟩⟩
 · have : i = l.length := by omega
   subst this
   refine .ret _ ?_
   conv => whnf
   refine ⟨_, ⟨rfl, rfl⟩, Res.le_map (fun key hk => ?_), trivial⟩
   obtain ⟨a, b, rfl⟩ := wk_two hk
   exact ⟨net_has a b, net_val hl a b⟩
theorem roadC_bd {l : List Roa} (h : rdsE l = 0) (a b : List UInt8) : 0 ≤ ((roadO l a b).getD rd0).car ∧ ((roadO l a b).getD rd0).car ≤ 1000000 := by
 cases q : roadO l a b with
 | none => simp [rd0]
 | some n => exact (roadO_bd h q).1
theorem z113 (l : List Roa) (hl : l.length ≤ 2^40) (a b : List UInt8) : FSpec Tryz.prog 51 [.d (roas l), .d (.str a), .d (.str b)] [] (fun y r => y = .tup [.agg ((rdF ((roadO l a b).getD rd0)).map .d), .d (.bool (roadO l a b).isSome)] ∧ r = []) := by
 refine spec_of hT (C := []) Tryz.func51 rfl Tryz.call51 rfl rfl rfl ?_
 conv => whnf
 refine LoopX.rule hT (C := []) (ι := Nat) (fun i => i ≤ l.length ∧ ∀ j, j < i → onRd l a b j = false) (fun i => mkSt [(1, .d (.str a)), (2, .d (.str b)), (6, .ptr 6 0), (10, .d (roas l)), (11, .d (.int .i64 l.length)), (12, .d (.int .i64 i))] [(6, .cells 64 ((rdF rd0).map .d))]) (fun i => l.length - i) 0 ⟨by omega, by omega⟩ (by (refine Entails.mk' [(6, 6)] rfl rfl ?_ ?_ <;> repeat' (first | exact True.intro | exact lr | exact rr | exact SV.le_int (by omega) | exact SV.le_any _ | refine And.intro ?_ ?_)); done) ?_
 rintro i ⟨p1, p2⟩
 have e1 : (i : Int).toNat = i := Int.toNat_natCast i
 conv => whnf
 repeat' (first | (refine br_intro ?_ ?_ <;> intro hb <;> (try simp only [brs] at hb) <;> conv => whnf) | omega | (refine And.intro ?_ ?_; ((try dsimp only); first | omega | (refine szA rfl ?_; omega) | (refine szB rfl ?_; omega) | (unfold inI64; omega) | exact rfl | (simp only [lns] at *; omega) | decide | (unfold inI64; decide)); conv => whnf) | decide | assumption)
 all_goals first
  | exact ⟨i + 1, ⟨by omega, all_step p2 (by clear p2; unfold onRd; grind)⟩, by omega, (by (refine Entails.mk' [(6, 6)] rfl rfl ?_ ?_ <;> repeat' (first | exact True.intro | exact lr | exact rr | exact SV.le_int (by omega) | exact SV.le_any _ | refine And.intro ?_ ?_)); done)⟩
  | (have h1 : roadX l a b = i := ixF_hit (by omega) p2 (by clear p2; unfold onRd; grind)
     have h2 : roadO l a b = some (l.getD i rd0) := by unfold roadO; rw [if_pos (by omega), h1]; rfl
     refine .ret _ ?_
     (conv => whnf)
     refine ⟨_, ⟨?_, rfl⟩, trivial⟩
     conv => lhs; whnf
     rw [h2]; rfl)
  | (have : i = l.length := by omega
     subst this
     have h1 : roadX l a b = -1 := ixF_none p2
     have h2 : roadO l a b = none := by unfold roadO; rw [if_neg (by omega)]
     refine .ret _ ?_
     (conv => whnf)
     refine ⟨_, ⟨?_, rfl⟩, trivial⟩
     conv => lhs; whnf
     rw [h2]; rfl)
end Go.Proofs.YteehenjdddlnnaaGreatDoor
namespace Go.Proofs
open Go.Shelf
def Tryz.lays106_ren : Go.Shelf.Ren := ⟨fun | 106 => 38 | 213 => 72 | 265 => 109 | n => n, fun | 9 => 9 | 3 => 3 | n => n, fun | n => n⟩
theorem Tryz.lays106 : Go.Proofs.Lays.n106 Tryz.prog Tryz.lays106_ren := {
 mixed := by kernel_rfl
 f106 := Tryz.func38.trans (congrArg some (by kernel_rfl))
 f213 := Tryz.func72.trans (congrArg some (by kernel_rfl))
 f265 := Tryz.func109.trans (congrArg some (by kernel_rfl))
 t3 := Tryz.underlying3
 a3 := Tryz.isAgg3
 z3 := Tryz.sizeOf3
 v3 := Tryz.zeroValue3
 t9 := Tryz.underlying9
 a9 := Tryz.isAgg9
 z9 := Tryz.sizeOf9
 v9 := Tryz.zeroValue9 }
end Go.Proofs
set_option maxRecDepth 20000
namespace Go.Proofs.YteehenjdddlnnaaGreatDoor
open Go Go.Eng Go.RowKit
theorem cmpB_S : ∀ (a b : List UInt8), Lib.compareBytes a b = cmpS a b := by
 intro a
 induction a with
 | nil => intro b; cases b <;> simp [Lib.compareBytes, cmpS, Op.bytesLess]
 | cons x a ih =>
   intro b
   cases b with
   | nil => simp [Lib.compareBytes, cmpS, Op.bytesLess]
   | cons y b =>
     have := ih b
     unfold cmpS at this ⊢
     simp only [Lib.compareBytes, Op.bytesLess]
     grind
theorem s190 (a b : List UInt8) : FSpec Tryz.prog 38 [.d (.str a), .d (.str b)] [] (fun x r => x = .d (.int .i64 (cmpS a b)) ∧ r = []) := by
 refine FSpec.ofBelow Tryz.call38 (fun G β w vs _ hl hd => ?_)
 match vs, hl with
 | [u, v], _ =>
   have hu := hd 0 _ _ rfl rfl
   have hv := hd 1 _ _ rfl rfl
   cases hu with | d _ _ hu => cases hu with | str _ =>
   cases hv with | d _ _ hv => cases hv with | str _ =>
   refine ⟨.int .i64 (Lib.compareBytes a b), fun G β => ?_, (Go.Proofs.Any.strings_Compare Go.Proofs.Tryz.lays106 ⟨a.toArray⟩ ⟨b.toArray⟩ w).mono ?_⟩
   · rw [← cmpB_S]; exact .d _ _ (.int _ _)
   · rintro e w' ⟨he, rfl⟩
     exact ⟨he, Below.refl _ _⟩
def oVMvA54_10 : List (Nat × List Nat) := [(0, []), (1, []), (2, []), (3, []), (4, [3]), (5, [3]), (6, []), (7, []), (8, []), (9, [3, 4, 5, 6, 7, 8]), (10, [3, 4, 5, 6, 7, 8, 9]), (11, [3, 4, 5, 6, 7, 8, 9]), (12, [3, 4, 5, 6, 7, 8]), (13, [3, 4, 5, 6, 7, 8]), (14, [3, 4, 5, 6, 7, 8]), (15, [3, 4, 5, 6, 7, 8, 9, 10, 11, 12, 13, 14]), (16, [3, 4, 5, 6, 7, 8, 9, 10, 11, 12, 13, 14]), (17, [3, 4, 5, 6, 7, 8, 9, 10, 11, 12, 13, 14, 15, 16]), (18, [3, 4, 5, 6, 7, 8, 9, 10, 11, 12, 13, 14, 15, 16]), (19, []), (20, []), (21, []), (22, [])]
def oVMvA15_10 : List (Nat × List Nat) := [(0, []), (1, []), (2, []), (3, []), (4, [3]), (5, [3]), (6, []), (7, []), (8, []), (9, [3, 4, 5, 6, 7, 8]), (10, [3, 4, 5, 6, 7, 8, 9]), (11, [3, 4, 5, 6, 7, 8, 9]), (12, [3, 4, 5, 6, 7, 8]), (13, [3, 4, 5, 6, 7, 8]), (14, [3, 4, 5, 6, 7, 8]), (15, [3, 4, 5, 6, 7, 8, 9, 10, 11, 12, 13, 14]), (16, [3, 4, 5, 6, 7, 8, 9, 10, 11, 12, 13, 14]), (17, [3, 4, 5, 6, 7, 8, 9, 10, 11, 12, 13, 14, 15, 16]), (18, [3, 4, 5, 6, 7, 8, 9, 10, 11, 12, 13, 14, 15, 16]), (19, []), (20, []), (21, []), (22, [])]
def oVMvA11_10 : List (Nat × List Nat) := [(0, []), (1, []), (2, []), (3, []), (4, [3]), (5, [3]), (6, []), (7, []), (8, []), (9, [3, 4, 5, 6, 7, 8]), (10, [3, 4, 5, 6, 7, 8, 9]), (11, [3, 4, 5, 6, 7, 8, 9]), (12, [3, 4, 5, 6, 7, 8]), (13, [3, 4, 5, 6, 7, 8]), (14, [3, 4, 5, 6, 7, 8]), (15, [3, 4, 5, 6, 7, 8, 9, 10, 11, 12, 13, 14]), (16, [3, 4, 5, 6, 7, 8, 9, 10, 11, 12, 13, 14]), (17, [3, 4, 5, 6, 7, 8, 9, 10, 11, 12, 13, 14, 15, 16]), (18, [3, 4, 5, 6, 7, 8, 9, 10, 11, 12, 13, 14, 15, 16]), (19, []), (20, []), (21, []), (22, [])]
def mvE (l : List Mov) (i : Nat) : Int :=
 let x := l.getD i mv0
 if isKeyB x.a = false ∨ isKeyB x.b = false then 5 else if x.a = x.b then 14 else if 0 < i ∧ 0 ≤ endsC (l.getD (i - 1) mv0).a (l.getD (i - 1) mv0).b x.a x.b then 7 else if ¬ (1 ≤ x.many ∧ x.many ≤ 20) then 1 else 0
def mvsE (l : List Mov) : Int := if 2500 < l.length then 2 else firstAt (mvE l) l.length
def mvK (x : Mov) : Prop := x.a.length ≤ 2^40 ∧ x.b.length ≤ 2^40
def mvOk (l : List Mov) : Prop := l.length ≤ 2^40 ∧ ∀ x ∈ l, mvK x
theorem mvs_all {l : List Mov} (h : mvsE l = 0) : l.length ≤ 2500 ∧ ∀ i, i < l.length → mvE l i = 0 := by
 unfold mvsE at h
 split at h
 · cases h
 · exact ⟨by omega, firstAt_all h⟩
theorem mov_bd {l : List Mov} (h : mvsE l = 0) {i : Nat} (hi : i < l.length) : 1 ≤ (l.getD i mv0).many ∧ (l.getD i mv0).many ≤ 20 := by
 have := (mvs_all h).2 i hi
 unfold mvE at this
 simp only at this
 grind
theorem z116 (l : List Mov) (hk : mvOk l) : FSpec Tryz.prog 54 [.d (movs l)] [] (fun x r => x = .d (.int .i64 (mvsE l)) ∧ r = []) := by
 refine spec_of hT (C := []) Tryz.func54 rfl Tryz.call54 rfl rfl rfl ?_
 conv => whnf
 refine br_intro (fun h0 => ?_) (fun h0 => ?_)
 · simp at h0
   conv => whnf
   refine .ret _ ?_
   conv => whnf
   refine ⟨[], ⟨?_, rfl⟩, trivial⟩
   conv => lhs; whnf
   unfold mvsE; rw [if_pos (by omega)]
 simp at h0
 conv => whnf
 refine LoopX.rule hT (C := []) (ι := Nat) (fun i => i ≤ l.length ∧ ∀ j, j < i → mvE l j = 0) (fun i => mkSt [(0, .d (movs l)), (8, .d (movs l)), (9, .d (.int .i64 l.length)), (10, .d (.int .i64 i))] []) (fun i => l.length - i) 0 ⟨by omega, by omega⟩ (by (refine Entails.mk' [] rfl rfl ?_ ?_ <;> repeat' (first | exact True.intro | exact lr | exact rr | exact SV.le_int (by omega) | exact SV.le_any _ | refine And.intro ?_ ?_)); done) ?_
 rintro i ⟨p1, p2⟩
 have hx : (i : Int) < l.length → mvK (l.getD (i : Int).toNat mv0) := fun hi => hk.2 _ (getD_mem (by omega))
 have e1 : (i : Int).toNat = i := Int.toNat_natCast i
 have hbad : ∀ e : Int, i < l.length → e ≠ 0 → mvE l i = e → mvsE l = e := fun e h h1 h2 => by
  unfold mvsE; rw [if_neg (by omega)]
  exact firstAt_eq h p2 h1 h2
 conv => whnf
 repeat' (first | (refine CallX.exact (s108 _ (hx (by omega)).1) rfl rfl ?_; rotate_right; conv => whnf) | (refine CallX.exact (s108 _ (hx (by omega)).2) rfl rfl ?_; rotate_right; conv => whnf) | (refine CallX.exact (s204 _ _ _ _) rfl rfl ?_; rotate_right; conv => whnf) | (refine CallX.exact (s119 _ _ _) rfl rfl ?_; rotate_right; conv => whnf) | (refine br_intro ?_ ?_ <;> intro hb <;> (try simp only [brs] at hb) <;> conv => whnf) | (refine RegX.rule (id := 10) hT rfl [] oVMvA54_10 (by decide +kernel) ?_; conv => whnf) | omega | (refine And.intro ?_ ?_; ((try dsimp only); first | omega | (refine szA rfl ?_; omega) | (refine szB rfl ?_; omega) | (unfold inI64; omega) | exact rfl | (simp only [lns] at *; omega) | decide | (unfold inI64; decide)); conv => whnf) | decide | assumption)
 all_goals first
  | (refine ⟨i + 1, ⟨by omega, first_step p2 (by clear p2 hbad hk hx; simp only [e1, toNat_pred] at *; unfold mvE ; grind)⟩, by omega, (by (refine Entails.mk' [] rfl rfl ?_ ?_ <;> repeat' (first | exact True.intro | exact lr | exact rr | exact SV.le_int (by omega) | exact SV.le_any _ | refine And.intro ?_ ?_)); done)⟩)
  | (refine .ret _ ?_
     conv => whnf
     refine ⟨[], ⟨?_, rfl⟩, trivial⟩
     conv => lhs; whnf
     congr 2
     first
      | exact (hbad _ (by omega) (by decide) (by clear p2 hbad hk hx; simp only [e1, toNat_pred] at *; unfold mvE ; grind)).symm
      | (have : i = l.length := by omega
         subst this
         unfold mvsE; rw [if_neg (by omega), firstAt_zero p2]))
def cmpSL : List (List UInt8) → List (List UInt8) → Int
 | [], [] => 0
 | [], _ :: _ => -1
 | _ :: _, [] => 1
 | x :: xs, y :: ys => if cmpS x y ≠ 0 then cmpS x y else cmpSL xs ys
theorem z204 (l m : List (List UInt8)) (hl : l.length ≤ 2^40) (hm : m.length ≤ 2^40) : FSpec Tryz.prog 76 [.d (strs l), .d (strs m)] [] (fun x r => x = .d (.int .i64 (cmpSL l m)) ∧ r = []) := by
 refine spec_of hT (C := []) Tryz.func76 rfl Tryz.call76 rfl rfl rfl ?_
 conv => whnf
 refine LoopX.rule hT (C := []) (ι := Nat) (fun i => i ≤ l.length ∧ i ≤ m.length ∧ cmpSL l m = cmpSL (l.drop i) (m.drop i)) (fun i => mkSt [(0, .d (strs l)), (1, .d (strs m)), (9, .d (strs l)), (10, .d (.int .i64 l.length)), (11, .d (.int .i64 i))] []) (fun i => l.length - i) 0 ⟨by omega, by omega, by simp⟩ (by (refine Entails.mk' [] rfl rfl ?_ ?_ <;> repeat' (first | exact True.intro | exact lr | exact rr | exact SV.le_int (by omega) | exact SV.le_any _ | refine And.intro ?_ ?_)); done) ?_
 rintro i ⟨p1, p2, p3⟩
 have hd : i < l.length → l.drop i = l.getD i [] :: l.drop (i + 1) := fun hi => by rw [List.drop_eq_getElem_cons hi, List.getD_eq_getElem?_getD, List.getElem?_eq_getElem hi]; rfl
 have hd2 : i < m.length → m.drop i = m.getD i [] :: m.drop (i + 1) := fun hi => by rw [List.drop_eq_getElem_cons hi, List.getD_eq_getElem?_getD, List.getElem?_eq_getElem hi]; rfl
 have e1 : (i : Int).toNat = i := Int.toNat_natCast i
 conv => whnf
 repeat' (first | (refine CallX.exact (s184 _ _) rfl rfl ?_; rotate_right; conv => whnf) | (refine br_intro ?_ ?_ <;> intro hb <;> (try simp only [brs] at hb) <;> conv => whnf) | omega | (refine And.intro ?_ ?_; ((try dsimp only); first | omega | (refine szA rfl ?_; omega) | (refine szB rfl ?_; omega) | (unfold inI64; omega) | exact rfl | (simp only [lns] at *; omega) | decide | (unfold inI64; decide)); conv => whnf) | decide | assumption)
 · refine .ret _ ?_
   conv => whnf
   refine ⟨[], ⟨?_, rfl⟩, trivial⟩
   conv => lhs; whnf
   congr 2
   rw [p3, hd (by omega), List.drop_eq_nil_iff.2 (by omega : m.length ≤ i)]; rfl
 · refine .ret _ ?_
   conv => whnf
   refine ⟨[], ⟨?_, rfl⟩, trivial⟩
   conv => lhs; whnf
   congr 2
   rw [p3, hd (by omega), hd2 (by omega), cmpSL, if_pos (by simpa using hb)]; simp only [e1]
 · refine ⟨i + 1, ⟨by omega, by omega, ?_⟩, by omega, (by (refine Entails.mk' [] rfl rfl ?_ ?_ <;> repeat' (first | exact True.intro | exact lr | exact rr | exact SV.le_int (by omega) | exact SV.le_any _ | refine And.intro ?_ ?_)); done)⟩
   rw [p3, hd (by omega), hd2 (by omega), cmpSL, if_neg (by simpa using hb)]
 · refine .ret _ ?_
   conv => whnf
   refine ⟨[], ⟨?_, rfl⟩, trivial⟩
   conv => lhs; whnf
   congr 2
   have hm : i < m.length := by omega
   rw [p3, hd2 hm, List.drop_eq_nil_iff.2 (by omega : l.length ≤ i)]; rfl
 · refine .ret _ ?_
   conv => whnf
   refine ⟨[], ⟨?_, rfl⟩, trivial⟩
   conv => lhs; whnf
   congr 2
   rw [p3, List.drop_eq_nil_iff.2 (by omega : m.length ≤ i), List.drop_eq_nil_iff.2 (by omega : l.length ≤ i)]; rfl
theorem z108 (a b c d : List UInt8) : FSpec Tryz.prog 46 [.d (.str a), .d (.str b), .d (.str c), .d (.str d)] [] (fun x r => x = .d (.int .i64 (endsC a b c d)) ∧ r = []) := by
 have h := z204 [a, b] [c, d] (by simp) (by simp)
 rw [show cmpSL [a, b] [c, d] = endsC a b c d from by unfold endsC; simp only [cmpSL, firstE]; by_cases h1 : cmpS a c = 0 <;> by_cases h2 : cmpS b d = 0 <;> simp [h1, h2]] at h
 refine spec_of hT (C := []) Tryz.func46 rfl Tryz.call46 rfl rfl rfl ?_
 conv => whnf
 repeat' (first | (refine CallX.pure h ⟨SV.le_lit (by rfl) (by rfl), SV.le_lit (by rfl) (by rfl), trivial⟩ rfl ?_; conv => whnf) | (refine br_intro ?_ ?_ <;> intro hb <;> (try simp only [brs] at hb) <;> conv => whnf) | omega | (refine And.intro ?_ ?_; ((try dsimp only); first | omega | (refine szA rfl ?_; omega) | (refine szB rfl ?_; omega) | (unfold inI64; omega) | exact rfl | (simp only [lns] at *; omega) | decide | (unfold inI64; decide)); conv => whnf) | decide | assumption)
 refine .ret _ ?_
 conv => whnf
 refine ⟨[], ⟨?_, rfl⟩, trivial⟩
 conv => lhs; whnf
theorem z25 (l : List Mov) (hk : mvOk l) : FSpec Tryz.prog 15 [.d (movs l)] [] (fun x r => x = .d (.int .i64 (mvsE l)) ∧ r = []) := by
 refine spec_of hT (C := []) Tryz.func15 rfl Tryz.call15 rfl rfl rfl ?_
 conv => whnf
 refine br_intro (fun h0 => ?_) (fun h0 => ?_)
 · simp at h0
   conv => whnf
   refine .ret _ ?_
   conv => whnf
   refine ⟨[], ⟨?_, rfl⟩, trivial⟩
   conv => lhs; whnf
   unfold mvsE; rw [if_pos (by omega)]
 simp at h0
 conv => whnf
 refine LoopX.rule hT (C := []) (ι := Nat) (fun i => i ≤ l.length ∧ ∀ j, j < i → mvE l j = 0) (fun i => mkSt [(0, .d (movs l)), (8, .d (movs l)), (9, .d (.int .i64 l.length)), (10, .d (.int .i64 i))] []) (fun i => l.length - i) 0 ⟨by omega, by omega⟩ (by (refine Entails.mk' [] rfl rfl ?_ ?_ <;> repeat' (first | exact True.intro | exact lr | exact rr | exact SV.le_int (by omega) | exact SV.le_any _ | refine And.intro ?_ ?_)); done) ?_
 rintro i ⟨p1, p2⟩
 have hx : (i : Int) < l.length → mvK (l.getD (i : Int).toNat mv0) := fun hi => hk.2 _ (getD_mem (by omega))
 have e1 : (i : Int).toNat = i := Int.toNat_natCast i
 have hbad : ∀ e : Int, i < l.length → e ≠ 0 → mvE l i = e → mvsE l = e := fun e h h1 h2 => by
  unfold mvsE; rw [if_neg (by omega)]
  exact firstAt_eq h p2 h1 h2
 conv => whnf
 repeat' (first | (refine CallX.exact (s21 _ (hx (by omega)).1) rfl rfl ?_; rotate_right; conv => whnf) | (refine CallX.exact (s21 _ (hx (by omega)).2) rfl rfl ?_; rotate_right; conv => whnf) | (refine CallX.exact (z108 _ _ _ _) rfl rfl ?_; rotate_right; conv => whnf) | (refine CallX.exact (s109 _ _ _) rfl rfl ?_; rotate_right; conv => whnf) | (refine br_intro ?_ ?_ <;> intro hb <;> (try simp only [brs] at hb) <;> conv => whnf) | (refine RegX.rule (id := 10) hT rfl [] oVMvA15_10 (by decide +kernel) ?_; conv => whnf) | omega | (refine And.intro ?_ ?_; ((try dsimp only); first | omega | (refine szA rfl ?_; omega) | (refine szB rfl ?_; omega) | (unfold inI64; omega) | exact rfl | (simp only [lns] at *; omega) | decide | (unfold inI64; decide)); conv => whnf) | decide | assumption)
 all_goals first
  | (refine ⟨i + 1, ⟨by omega, first_step p2 (by clear p2 hbad hk hx; simp only [e1, toNat_pred] at *; unfold mvE ; grind)⟩, by omega, (by (refine Entails.mk' [] rfl rfl ?_ ?_ <;> repeat' (first | exact True.intro | exact lr | exact rr | exact SV.le_int (by omega) | exact SV.le_any _ | refine And.intro ?_ ?_)); done)⟩)
  | (refine .ret _ ?_
     conv => whnf
     refine ⟨[], ⟨?_, rfl⟩, trivial⟩
     conv => lhs; whnf
     congr 2
     first
      | exact (hbad _ (by omega) (by decide) (by clear p2 hbad hk hx; simp only [e1, toNat_pred] at *; unfold mvE ; grind)).symm
      | (have : i = l.length := by omega
         subst this
         unfold mvsE; rw [if_neg (by omega), firstAt_zero p2]))
theorem z21 (l : List Roa) (hk : rdOk l) : FSpec Tryz.prog 11 [.d (roas l)] [] (fun x r => x = .d (.int .i64 (rdsE l)) ∧ r = []) := by
 refine spec_of hT (C := []) Tryz.func11 rfl Tryz.call11 rfl rfl rfl ?_
 conv => whnf
 refine br_intro (fun h0 => ?_) (fun h0 => ?_)
 · simp at h0
   conv => whnf
   refine .ret _ ?_
   conv => whnf
   refine ⟨[], ⟨?_, rfl⟩, trivial⟩
   conv => lhs; whnf
   unfold rdsE; rw [if_pos (by omega)]
 simp at h0
 conv => whnf
 refine LoopX.rule hT (C := []) (ι := Nat) (fun i => i ≤ l.length ∧ ∀ j, j < i → rdE l j = 0) (fun i => mkSt [(0, .d (roas l)), (8, .d (roas l)), (9, .d (.int .i64 l.length)), (10, .d (.int .i64 i))] []) (fun i => l.length - i) 0 ⟨by omega, by omega⟩ (by (refine Entails.mk' [] rfl rfl ?_ ?_ <;> repeat' (first | exact True.intro | exact lr | exact rr | exact SV.le_int (by omega) | exact SV.le_any _ | refine And.intro ?_ ?_)); done) ?_
 rintro i ⟨p1, p2⟩
 have hx : (i : Int) < l.length → rdK (l.getD (i : Int).toNat rd0) := fun hi => hk.2 _ (getD_mem (by omega))
 have e1 : (i : Int).toNat = i := Int.toNat_natCast i
 have hbad : ∀ e : Int, i < l.length → e ≠ 0 → rdE l i = e → rdsE l = e := fun e h h1 h2 => by
  unfold rdsE; rw [if_neg (by omega)]
  exact firstAt_eq h p2 h1 h2
 conv => whnf
 repeat' (first | (refine CallX.exact (s21 _ (hx (by omega)).1) rfl rfl ?_; rotate_right; conv => whnf) | (refine CallX.exact (s21 _ (hx (by omega)).2) rfl rfl ?_; rotate_right; conv => whnf) | (refine CallX.exact (z108 _ _ _ _) rfl rfl ?_; rotate_right; conv => whnf) | (refine CallX.exact (s109 _ _ _) rfl rfl ?_; rotate_right; conv => whnf) | (refine br_intro ?_ ?_ <;> intro hb <;> (try simp only [brs] at hb) <;> conv => whnf) | (refine RegX.rule (id := 10) hT rfl [] oVMvA11_10 (by decide +kernel) ?_; conv => whnf) | omega | (refine And.intro ?_ ?_; ((try dsimp only); first | omega | (refine szA rfl ?_; omega) | (refine szB rfl ?_; omega) | (unfold inI64; omega) | exact rfl | (simp only [lns] at *; omega) | decide | (unfold inI64; decide)); conv => whnf) | decide | assumption)
 all_goals first
  | (refine ⟨i + 1, ⟨by omega, first_step p2 (by clear p2 hbad hk hx; simp only [e1, toNat_pred] at *; unfold rdE ; grind)⟩, by omega, (by (refine Entails.mk' [] rfl rfl ?_ ?_ <;> repeat' (first | exact True.intro | exact lr | exact rr | exact SV.le_int (by omega) | exact SV.le_any _ | refine And.intro ?_ ?_)); done)⟩)
  | (refine .ret _ ?_
     conv => whnf
     refine ⟨[], ⟨?_, rfl⟩, trivial⟩
     conv => lhs; whnf
     congr 2
     first
      | exact (hbad _ (by omega) (by decide) (by clear p2 hbad hk hx; simp only [e1, toNat_pred] at *; unfold rdE ; grind)).symm
      | (have : i = l.length := by omega
         subst this
         unfold rdsE; rw [if_neg (by omega), firstAt_zero p2]))
theorem z20 (l : List Ned) (hk : ndOk l) : FSpec Tryz.prog 10 [.d (neds l)] [] (fun x r => x = .d (.int .i64 (ndsE l)) ∧ r = []) := by
 refine spec_of hT (C := []) Tryz.func10 rfl Tryz.call10 rfl rfl rfl ?_
 conv => whnf
 refine br_intro (fun h0 => ?_) (fun h0 => ?_)
 · simp at h0
   conv => whnf
   refine .ret _ ?_
   conv => whnf
   refine ⟨[], ⟨?_, rfl⟩, trivial⟩
   conv => lhs; whnf
   unfold ndsE; rw [if_pos (by omega)]
 simp at h0
 conv => whnf
 refine LoopX.rule hT (C := []) (ι := Nat) (fun i => i ≤ l.length ∧ ∀ j, j < i → ndE l j = 0) (fun i => mkSt [(3, .d (.str (if i = 0 then [] else (l.getD (i - 1) nd0).st))), (9, .d (neds l)), (10, .d (.int .i64 l.length)), (11, .d (.int .i64 i))] []) (fun i => l.length - i) 0 ⟨by omega, by omega⟩ (by (refine Entails.mk' [] rfl rfl ?_ ?_ <;> repeat' (first | exact True.intro | exact lr | exact rr | exact SV.le_int (by omega) | exact SV.le_any _ | refine And.intro ?_ ?_)); done) ?_
 rintro i ⟨p1, p2⟩
 have hx : (i : Int) < l.length → ndK (l.getD (i : Int).toNat nd0) := fun hi => hk.2 _ (getD_mem (by omega))
 have e1 : (i : Int).toNat = i := Int.toNat_natCast i
 have hbad : ∀ e : Int, i < l.length → e ≠ 0 → ndE l i = e → ndsE l = e := fun e h h1 h2 => by
  unfold ndsE; rw [if_neg (by omega)]
  exact firstAt_eq h p2 h1 h2
 conv => whnf
 repeat' (first | (refine CallX.exact (s21 _ (hx (by omega))) rfl rfl ?_; rotate_right; conv => whnf) | (refine CallX.exact (s109 _ _ _) rfl rfl ?_; rotate_right; conv => whnf) | (refine br_intro ?_ ?_ <;> intro hb <;> (try simp only [brs] at hb) <;> conv => whnf) | omega | (refine And.intro ?_ ?_; ((try dsimp only); first | omega | (refine szA rfl ?_; omega) | (refine szB rfl ?_; omega) | (unfold inI64; omega) | exact rfl | (simp only [lns] at *; omega) | decide | (unfold inI64; decide)); conv => whnf) | decide | assumption)
 all_goals first
  | (refine ⟨i + 1, ⟨by omega, first_step p2 (by clear p2 hbad hk hx; simp only [e1] at *; unfold ndE strLe; grind)⟩, by omega, Entails.mk' [] rfl rfl ⟨(by rw [show (if i + 1 = 0 then ([] : List UInt8) else (l.getD (i + 1 - 1) nd0).st) = (l.getD (i : Int).toNat nd0).st from by rw [if_neg (by omega), e1, Nat.add_sub_cancel]]; exact lr), lr, lr, lr, trivial⟩ trivial⟩)
  | (refine .ret _ ?_
     conv => whnf
     refine ⟨[], ⟨?_, rfl⟩, trivial⟩
     conv => lhs; whnf
     congr 2
     first
      | exact (hbad _ (by omega) (by decide) (by clear p2 hbad hk hx; simp only [e1] at *; unfold ndE strLe; grind [isKey_nil, less_nil])).symm
      | (have : i = l.length := by omega
         subst this
         unfold ndsE; rw [if_neg (by omega), firstAt_zero p2]))
def nedX (l : List Ned) (s : List UInt8) : Int := ixF (fun i => (l.getD i nd0).st == s) l.length
def manyN (l : List Ned) (s : List UInt8) : Int := if 0 ≤ nedX l s then (l.getD (nedX l s).toNat nd0).many else 0
theorem nds_all {l : List Ned} (h : ndsE l = 0) : l.length ≤ 10 ∧ ∀ i, i < l.length → ndE l i = 0 := by
 unfold ndsE at h
 split at h
 · cases h
 · exact ⟨by omega, firstAt_all h⟩
theorem nds_inc {l : List Ned} (h : ndsE l = 0) : ∀ {j i : Nat}, i < j → j < l.length → Op.bytesLess (l.getD i nd0).st (l.getD j nd0).st = true := by
 obtain ⟨_, h2⟩ := nds_all h
 have step : ∀ j, j + 1 < l.length → Op.bytesLess (l.getD j nd0).st (l.getD (j + 1) nd0).st = true := fun j hj => by
  have := h2 (j + 1) hj
  unfold ndE at this
  simp only [Nat.add_sub_cancel] at this
  have h3 : ¬ strLe (l.getD (j + 1) nd0).st (l.getD j nd0).st = true := by grind
  by_cases q : Op.bytesLess (l.getD j nd0).st (l.getD (j + 1) nd0).st = true
  · exact q
  · exfalso
    apply h3
    unfold strLe
    have q2 : Op.bytesLess (l.getD j nd0).st (l.getD (j + 1) nd0).st = false := by simpa using q
    by_cases e : (l.getD (j + 1) nd0).st = (l.getD j nd0).st
    · rw [e]; simp
    · rw [less_tri _ _ q2 (fun h => e h.symm)]; rfl
 intro j
 induction j with
 | zero => intro i h; omega
 | succ j ih =>
   intro i hi hj
   by_cases q : i = j
   · subst q; exact step i hj
   · exact less_trans (ih (by omega) (by omega)) (step j hj)
theorem ned_inj {l : List Ned} (h : ndsE l = 0) {i j : Nat} (hi : i < l.length) (hj : j < l.length) (he : (l.getD i nd0).st = (l.getD j nd0).st) : i = j := by
 rcases Nat.lt_trichotomy i j with q | q | q
 · have := nds_inc h q hj; rw [he, less_irr] at this; cases this
 · exact q
 · have := nds_inc h q hi; rw [he, less_irr] at this; cases this
theorem manyN_eq {l : List Ned} (h : ndsE l = 0) {i : Nat} (hi : i < l.length) : manyN l (l.getD i nd0).st = (l.getD i nd0).many := by
 have hb := ixF_bd (p := fun j => (l.getD j nd0).st == (l.getD i nd0).st) (n := l.length)
 have h0 : 0 ≤ nedX l (l.getD i nd0).st := ixF_pos (p := fun j => (l.getD j nd0).st == (l.getD i nd0).st) hi (by simp)
 have h1 := hb.2.2 h0
 have h2 : (l.getD (nedX l (l.getD i nd0).st).toNat nd0).st = (l.getD i nd0).st := eq_of_beq h1
 have hlt : nedX l (l.getD i nd0).st < l.length := hb.2.1
 have := ned_inj h (by omega) hi h2
 unfold manyN
 rw [if_pos h0, this]
theorem ned_bd {l : List Ned} (h : ndsE l = 0) {i : Nat} (hi : i < l.length) : -20 ≤ (l.getD i nd0).many ∧ (l.getD i nd0).many ≤ 20 := by
 have := (nds_all h).2 i hi
 unfold ndE at this
 simp only at this
 grind
def onPlan (n : List Ned) (r : List Roa) (l : List Mov) (i : Nat) : Int :=
 let x := l.getD i mv0
 if manyN n x.a ≤ 0 ∨ 0 ≤ manyN n x.b then 16 else if (roadO r x.a x.b).isSome = false then 8 else 0
def mvdN (l : List Mov) (s : List UInt8) : Nat → Int
 | 0 => 0
 | k + 1 => mvdN l s k + (if (l.getD k mv0).a = s then (l.getD k mv0).many else 0) - (if (l.getD k mv0).b = s then (l.getD k mv0).many else 0)
def awayN (l : List Mov) (s : List UInt8) : Nat → Int
 | 0 => 0
 | k + 1 => awayN l s k + (if (l.getD k mv0).a = s then (l.getD k mv0).many else 0)
def hereN (l : List Mov) (s : List UInt8) : Nat → Int
 | 0 => 0
 | k + 1 => hereN l s k + (if (l.getD k mv0).b = s then (l.getD k mv0).many else 0)
theorem mvdN_eq (l : List Mov) (s : List UInt8) : ∀ k, mvdN l s k = awayN l s k - hereN l s k := by
 intro k
 induction k with
 | zero => rfl
 | succ k ih => rw [mvdN, awayN, hereN, ih]; omega
theorem awayN_bd {l : List Mov} (h : mvsE l = 0) (s : List UInt8) : ∀ k, k ≤ l.length → 0 ≤ awayN l s k ∧ awayN l s k ≤ 20 * k := by
 intro k
 induction k with
 | zero => intro _; simp [awayN]
 | succ k ih =>
   intro hk
   have := ih (by omega)
   have := mov_bd h (i := k) (by omega)
   rw [awayN]; split <;> omega
theorem hereN_bd {l : List Mov} (h : mvsE l = 0) (s : List UInt8) : ∀ k, k ≤ l.length → 0 ≤ hereN l s k ∧ hereN l s k ≤ 20 * k := by
 intro k
 induction k with
 | zero => intro _; simp [hereN]
 | succ k ih =>
   intro hk
   have := ih (by omega)
   have := mov_bd h (i := k) (by omega)
   rw [hereN]; split <;> omega
theorem awayN_zero {l : List Mov} {s : List UInt8} : ∀ k, (∀ i, i < k → (l.getD i mv0).a ≠ s) → awayN l s k = 0 := by
 intro k
 induction k with
 | zero => intro _; rfl
 | succ k ih => intro h; rw [awayN, ih (fun i hi => h i (by omega)), if_neg (h k (by omega))]; rfl
theorem hereN_zero {l : List Mov} {s : List UInt8} : ∀ k, (∀ i, i < k → (l.getD i mv0).b ≠ s) → hereN l s k = 0 := by
 intro k
 induction k with
 | zero => intro _; rfl
 | succ k ih => intro h; rw [hereN, ih (fun i hi => h i (by omega)), if_neg (h k (by omega))]; rfl
def sumE (n : List Ned) (l : List Mov) (i : Nat) : Int :=
 let x := n.getD i nd0
 if (0 < x.many ∧ x.many < mvdN l x.st l.length) ∨ (x.many < 0 ∧ mvdN l x.st l.length ≠ x.many) then 15 else 0
def sumE2 (n : List Ned) (l : List Mov) (i : Nat) : Int :=
 let x := n.getD i nd0
 if (0 < x.many ∧ x.many < awayN l x.st l.length) ∨ (x.many < 0 ∧ hereN l x.st l.length ≠ -x.many) then 15 else 0
theorem sum_eq {n : List Ned} {r : List Roa} {l : List Mov} (hn : ndsE n = 0) (h : ∀ i, i < l.length → onPlan n r l i = 0) {i : Nat} (hi : i < n.length) : sumE n l i = sumE2 n l i := by
 have hm := manyN_eq hn hi
 have ha : (n.getD i nd0).many < 0 → awayN l (n.getD i nd0).st l.length = 0 := fun q => awayN_zero _ (fun j hj e => by
  have := h j hj
  unfold onPlan at this
  simp only [e, hm] at this
  grind)
 have hh : 0 < (n.getD i nd0).many → hereN l (n.getD i nd0).st l.length = 0 := fun q => hereN_zero _ (fun j hj e => by
  have := h j hj
  unfold onPlan at this
  simp only [e, hm] at this
  grind)
 unfold sumE sumE2
 simp only [mvdN_eq]
 generalize (n.getD i nd0).many = m at ha hh
 generalize awayN l (n.getD i nd0).st l.length = x at ha
 generalize hereN l (n.getD i nd0).st l.length = y at hh
 have : ((0 < m ∧ m < x - y) ∨ (m < 0 ∧ x - y ≠ m)) ↔ ((0 < m ∧ m < x) ∨ (m < 0 ∧ y ≠ -m)) := by
  rcases Int.lt_trichotomy m 0 with q | q | q
  · have := ha q; omega
  · omega
  · have := hh q; omega
 simp only [this]
def planE (n : List Ned) (r : List Roa) (l : List Mov) : Int := if firstAt (onPlan n r l) l.length ≠ 0 then firstAt (onPlan n r l) l.length else firstAt (sumE n l) n.length
theorem firstAt_congr {f g : Nat → Int} {n : Nat} (h : ∀ i, i < n → f i = g i) : firstAt f n = firstAt g n := by
 induction n with
 | zero => rfl
 | succ n ih => rw [firstAt, firstAt, ih (fun i hi => h i (by omega)), h n (by omega)]
theorem planE_eq {n : List Ned} {r : List Roa} {l : List Mov} (hn : ndsE n = 0) : planE n r l = if firstAt (onPlan n r l) l.length ≠ 0 then firstAt (onPlan n r l) l.length else firstAt (sumE2 n l) n.length := by
 unfold planE
 split
 · rfl
 · rename_i h
   exact firstAt_congr (fun i hi => sum_eq (r := r) hn (firstAt_all (f := onPlan n r l) (n := l.length) (by omega)) hi)
def costN (r : List Roa) (l : List Mov) : Nat → Int
 | 0 => 0
 | k + 1 => costN r l k + (l.getD k mv0).many * ((roadO r (l.getD k mv0).a (l.getD k mv0).b).getD rd0).car
def havF (n : List Ned) (i : Nat) : Int := max (manyP n i) 0
def wntF (n : List Ned) (i : Nat) : Int := max (0 - manyP n i) 0
def havL (n : List Ned) : List Int := fillA 0 (havF n) n.length n.length
def wntL (n : List Ned) : List Int := fillA 0 (wntF n) n.length n.length
def arcO (x : Ar3) : Arc := ⟨x.fr, x.to, x.car, 0⟩
def arcs (n : List Ned) (r : List Roa) : List Arc := (arL n r).map arcO
theorem ned_many {n : List Ned} (h : ndsE n = 0) (i : Nat) : -20 ≤ manyP n i ∧ manyP n i ≤ 20 := by
 unfold manyP
 rcases Nat.lt_or_ge i n.length with q | q
 · exact ned_bd h q
 · rw [List.getD_eq_getElem?_getD, List.getElem?_eq_none q]; simp [nd0]
def vapp : List Int → (Nat → Int) → Nat → Int
 | [], y => y
 | u :: us, y => vcons u (vapp us y)
def lsU {μ : Type} (m : Nat → Int → μ) : Nat → List Int → List μ
 | _, [] => []
 | a, u :: us => (if 0 < u then [m a u] else []) ++ lsU m (a + 1) us
theorem lsV_vapp {μ : Type} (m : Nat → Int → μ) (y : Nat → Int) : ∀ (us : List Int) (a : Nat), lsV m us.length a (vapp us y) = lsU m a us
 | [], _ => rfl
 | u :: us, a => by
   show (if 0 < u then [m a u] else []) ++ lsV m us.length (a + 1) (vtl (vcons u (vapp us y))) = _
   rw [vtl_cons, lsV_vapp m y us (a + 1)]; rfl
theorem arcs_get (n : List Ned) (r : List Roa) (k : Nat) : (arcs n r).getD k ar0 = arcO ((arL n r).getD k a30) := by
 unfold arcs
 rw [List.getD_eq_getElem?_getD, List.getD_eq_getElem?_getD, List.getElem?_map]
 cases (arL n r)[k]? <;> rfl
theorem ArOk.drop {N : Nat} {A : List Arc} (h : ArOk N A) (a : Nat) : ArOk N (A.drop a) := by
 have e : ∀ k, (A.drop a).getD k ar0 = A.getD (a + k) ar0 := fun k => by rw [List.getD_eq_getElem?_getD, List.getD_eq_getElem?_getD, List.getElem?_drop]
 have hl : (A.drop a).length = A.length - a := List.length_drop
 exact ⟨by have := h.len; omega, fun k hk => by rw [e]; exact h.fr _ (by omega), fun k hk => by rw [e]; exact h.to _ (by omega), fun k hk => by rw [e]; exact h.car _ (by omega)⟩
theorem Sm.drop {A B : List Arc} (h : Sm A B) (a : Nat) : Sm (A.drop a) (B.drop a) := by
 refine ⟨by rw [List.length_drop, List.length_drop, h.len], fun k => ?_⟩
 rw [List.getD_eq_getElem?_getD, List.getD_eq_getElem?_getD, List.getElem?_drop, List.getElem?_drop, ← List.getD_eq_getElem?_getD, ← List.getD_eq_getElem?_getD]
 exact h.fld _
theorem Sm.trans {A B C : List Arc} (h : Sm A B) (k : Sm B C) : Sm A C := ⟨k.len.trans h.len, fun i => ⟨(k.fld i).1.trans (h.fld i).1, (k.fld i).2.1.trans (h.fld i).2.1, (k.fld i).2.2.trans (h.fld i).2.2⟩⟩
theorem getI_hav {n : List Ned} {v : Nat} (hv : v < n.length) : getI (havL n) v = havF n v := fillA_get hv
theorem getI_wnt {n : List Ned} {v : Nat} (hv : v < n.length) : getI (wntL n) v = wntF n v := fillA_get hv
structure PlnI (n : List Ned) (r : List Roa) (a : Nat) (us hl wl : List Int) (C : List Arc) (c : Int) : Prop where
 len : us.length = a
 aK : a ≤ (arcs n r).length
 sm : Sm ((arcs n r).drop a) C
 l1 : hl.length = n.length
 l2 : wl.length = n.length
 hb : ∀ v, v < n.length → 0 ≤ getI hl v ∧ getI hl v ≤ 20
 wb : ∀ v, v < n.length → 0 ≤ getI wl v ∧ getI wl v ≤ 20
 hz : ∀ v, v < n.length → kindB n v = false → getI hl v = 0
 wz : ∀ v, v < n.length → kindB n v = true → getI wl v = 0
 opt : ((nwG n r).sh a).IsOpt (kindB n) (getI hl) (getI wl) c
 cb : 0 ≤ c ∧ c ≤ 1000000000000000
 best : ∀ y, ((nwG n r).sh a).Best (kindB n) (getI hl) (getI wl) c y → ∃ c0, (nwG n r).Best (kindB n) (getI (havL n)) (getI (wntL n)) c0 (vapp us y)
theorem kindB_get {n : List Ned} {v : Nat} : (kindB n v = false → manyP n v < 0) ∧ (kindB n v = true → 0 ≤ manyP n v) := by
 unfold kindB
 constructor
 · intro h; simpa using h
 · intro h; simpa using h
theorem havF_bd {n : List Ned} (hn : ndsE n = 0) (v : Nat) : (0 ≤ havF n v ∧ havF n v ≤ 20) ∧ 0 ≤ wntF n v ∧ wntF n v ≤ 20 := by
 have := ned_many hn v
 unfold havF wntF; omega
theorem PlnI.first {n : List Ned} {r : List Roa} {a : Nat} {us hl wl : List Int} {C : List Arc} {c : Int} (h : PlnI n r a us hl wl C c) (ha : a < (arcs n r).length) (hn : ndsE n = 0) (hr : rdsE r = 0) :
 (C.getD 0 ar0).fr = ((nwG n r).fr a : Nat) ∧ (C.getD 0 ar0).to = ((nwG n r).to a : Nat) ∧ (C.getD 0 ar0).car = (nwG n r).c a ∧ (nwG n r).fr a < n.length ∧ (nwG n r).to a < n.length ∧ 0 ≤ (nwG n r).c a ∧ (nwG n r).c a ≤ 1000000 := by
 have h1 := h.sm.fld 0
 rw [List.getD_eq_getElem?_getD (l := (arcs n r).drop a), List.getElem?_drop, ← List.getD_eq_getElem?_getD, Nat.add_zero, arcs_get] at h1
 have hlen : (arcs n r).length = (arL n r).length := List.length_map _
 have hm := arL_mem (nwG_at (k := a) (by show a < (arL n r).length; omega))
 have hk := nwG_ok (n := n) hr
 exact ⟨h1.1, h1.2.1, h1.2.2, hm.1.1, hm.2.1.1, hk.1.c0 a (by show a < (arL n r).length; omega), hk.2 a (by show a < (arL n r).length; omega)⟩
theorem PlnI.done {n : List Ned} {r : List Roa} {us hl wl : List Int} {C : List Arc} {c : Int} (h : PlnI n r (arcs n r).length us hl wl C c) : ∃ c0 x, (nwG n r).Best (kindB n) (getI (havL n)) (getI (wntL n)) c0 x ∧ lsU (mvN n r) 0 us = lsV (mvN n r) (nwG n r).K 0 x := by
 have hK : (arcs n r).length = (nwG n r).K := List.length_map _
 obtain ⟨c0, hc⟩ := h.best (fun _ => 0) (by rw [hK]; exact Nw.best_end (by have := h.opt; rw [hK] at this; exact this) _)
 refine ⟨c0, _, hc, ?_⟩
 rw [← lsV_vapp (mvN n r) (fun _ => 0) us 0, h.len, hK]
theorem Entails.freeze {s : St} (d e kk n : Nat) (g : Nat → List DV) (hd : s.res d = some (.buf e kk n g)) : Entails s (s.app ⟨none, .any, [(d, some (.fro kk n g))], []⟩) := ⟨fun A a w => by
 rintro ⟨h0, G, β, hm⟩
 obtain ⟨G', _, hm'⟩ := hm.freeze hd
 exact ⟨h0, G', β, hm'⟩⟩
theorem firstE_two {a b : Int} (h : firstE [a, b] = 0) : a = 0 ∧ b = 0 := by
 by_cases ha : a = 0
 · rw [firstE, if_pos ha] at h
   by_cases hb : b = 0
   · exact ⟨ha, hb⟩
   · rw [firstE, if_neg hb] at h; exact absurd h hb
 · rw [firstE, if_neg ha] at h; exact absurd h ha
end Go.Proofs.YteehenjdddlnnaaGreatDoor
namespace Go.Eng
open Go
theorem RowIn.fro {G G' : Hp} {w : World} {e k n : Nat} {v : Value} {get : Nat → List DV} (h : RowIn G w e k v n get) (hle : G.le G') (hg : ∀ b o, blk v = some b → w.heap[b]? = some o → G' b = some o) : DV.Den G' (.ro k n get) v := by
 obtain ⟨xs, hown, hlen, hden⟩ := h
 rcases hown.2 with ⟨rfl, rfl⟩ | ⟨g, cap, cur, rfl, _, hh, hnc, hcm, hcs, htake⟩
 · exact .ronil _ _
 · refine .ro k n get _ cap (fun i j => xs.getD (i * k + j) Go.undef) rfl hnc hcm hlen ?_ ?_
   · intro i j x hi hx
     obtain ⟨u, hu, _⟩ := hden i j x hi hx
     have hlt : i * k + j < n * k := by
      have := (List.getElem?_eq_some_iff.1 hx).1
      rw [hlen i hi] at this
      calc i * k + j < i * k + k := by omega
       _ = (i + 1) * k := by rw [Nat.add_mul, Nat.one_mul]
       _ ≤ n * k := Nat.mul_le_mul_right _ hi
     refine ⟨cur, e, (0, 0), ?_, ?_, ?_⟩
     · rw [Addr.add_block]; exact hg g _ rfl hh
     · exact Addr.add_spot _ rfl _
     · rw [Addr.add_lit]
       simp only [Nat.zero_add]
       rw [← htake, List.getElem?_take_of_lt hlt] at hu
       rw [← Array.getElem?_toList, hu]
       rw [← htake, List.getD_eq_getElem?_getD, List.getElem?_take_of_lt hlt, hu]
       rfl
   · intro i j x hi hx
     obtain ⟨u, hu, hdu⟩ := hden i j x hi hx
     simp only [List.getD_eq_getElem?_getD, hu, Option.getD_some]
     exact hdu.mono hle
end Go.Eng
namespace Go.Eng
open Go
def DV.flat : DV → Bool
 | .bool _ | .int .. | .str _ | .nilsl => true
 | _ => false
theorem DV.Den.flat {G G' : Hp} {x : DV} {v : Value} (h : DV.Den G x v) (hf : x.flat = true) : DV.Den G' x v := by
 cases h <;> first | (constructor; done) | (cases hf)
def SV.flat1 (d : Nat) : SV → Bool
 | .d x => x.flat
 | .buf c => !(Nat.beq c d)
 | _ => false
def SV.flat (d : Nat) : SV → Bool
 | .agg l => l.all (SV.flat1 d)
 | .tup l => l.all (SV.flat1 d)
 | x => SV.flat1 d x
theorem SV.Den.flat1 {G G' : Hp} {β β' : Env} {d : Nat} (hb : ∀ c, c ≠ d → β' c = β c) {x : SV} {v : Value} (h : SV.Den G β x v) (hf : SV.flat1 d x = true) : SV.Den G' β' x v := by
 cases h with
 | d x v hx => exact .d _ _ (hx.flat hf)
 | buf c v hv h1 =>
   refine .buf _ _ ?_ h1
   rw [hb c (by rintro rfl; simp [SV.flat1] at hf)]; exact hv
 | _ => cases hf
theorem SV.Den.flat {G G' : Hp} {β β' : Env} {d : Nat} (hb : ∀ c, c ≠ d → β' c = β c) {x : SV} {v : Value} (h : SV.Den G β x v) (hf : SV.flat d x = true) : SV.Den G' β' x v := by
 cases h with
 | agg l vs hl h =>
   refine .agg _ _ hl (fun i x v hx hv => (h i x v hx hv).flat1 hb ?_)
   exact List.all_eq_true.1 hf x (List.mem_of_getElem? hx)
 | tup l vs hl h =>
   refine .tup _ _ hl (fun i x v hx hv => (h i x v hx hv).flat1 hb ?_)
   exact List.all_eq_true.1 hf x (List.mem_of_getElem? hx)
 | d x v hx => exact (SV.Den.d (β := β) x v hx).flat1 (d := d) hb hf
 | buf c v hv h1 => exact (SV.Den.buf (G := G) c v hv h1).flat1 hb hf
 | _ => cases hf
def Res.flat : Res → Prop
 | .buf _ _ n g => ∀ i, i < n → (g i).all DV.flat = true
 | _ => False
theorem ResOk.flat {G G' : Hp} {β β' : Env} {w : World} {c : Nat} {r : Res} (hb : β' c = β c) (h : ResOk G β w c r) (hf : r.flat) : ResOk G' β' w c r := by
 cases r with
 | buf e k n g =>
   obtain ⟨v, xs, h1, h2, h3, h4, h5⟩ := h
   refine ⟨v, xs, hb.trans h1, h2, h3, h4, fun i j x hi hx => ?_⟩
   obtain ⟨u, hu, hd⟩ := h5 i j x hi hx
   exact ⟨u, hu, hd.flat (List.all_eq_true.1 (hf i hi) x (List.mem_of_getElem? hx))⟩
 | _ => exact hf.elim
end Go.Eng
namespace Go.Eng
open Go
theorem DV.Den.unfrs {G : Hp} {e k n : Nat} {X : Nat → Prop} {get : Nat → List DV} {v : Value} (h : DV.Den G (.frs e k n X get) v) : DV.Den G (.ro k n get) v := by
 cases h with
 | frsnil => exact .ronil _ _
 | frse _ _ _ _ a cap hs hmax => exact .ro _ _ _ _ _ (fun _ _ => Go.undef) hs (Nat.zero_le _) hmax (fun i hi => absurd hi (Nat.not_lt_zero _)) (fun i _ _ hi => absurd hi (Nat.not_lt_zero _)) (fun i _ _ hi => absurd hi (Nat.not_lt_zero _))
 | frs _ _ _ _ _ b cap cur vals hX hb hcap hmax hsz hl hc hd =>
   refine .ro _ _ _ ⟨b, 0, none⟩ cap vals rfl hcap hmax hl (fun i j x hi hx => ?_) hd
   refine ⟨cur, e, (0, 0), ?_, ?_, ?_⟩
   · rw [Addr.add_block]; exact hb
   · exact Addr.add_spot _ rfl _
   · rw [Addr.add_lit]; simpa using hc i j x hi hx
theorem SV.le_frs {e k n : Nat} {X : Nat → Prop} {get : Nat → List DV} : SV.le (.d (.frs e k n X get)) (.d (.ro k n get)) := fun G β v h => by
 cases h with | d _ _ h => exact .d _ _ h.unfrs
theorem SV.le_nilF {e k : Nat} {X : Nat → Prop} {get : Nat → List DV} : SV.le (.d .nilsl) (.d (.frs e k 0 X get)) := fun G β v h => by
 cases h with | d _ _ h => cases h; exact .d _ _ (.frsnil _ _ _ _)
theorem FSpec.thaw {α : Type} {P : Program} {f : FuncId} {args : List SV} {e k : Nat} {S : α → Prop} {N : α → Nat} {Gt : α → Nat → List DV} {B : α → Bool} (hk : 0 < k)
 (h : ∀ X, FSpec P f args [(1000007, .inX X)] (fun y r => (∃ a, S a ∧ y = .tup [.d (.frs e k (N a) X (Gt a)), .d (.bool (B a))]) ∧ r = [(1000007, .inX X)]))
 (hflat : ∀ a, S a → ∀ (i j : Nat) (x : DV), i < N a → (Gt a i)[j]? = some x → DV.flat x = true) :
 FSpec P f args [] (fun y r => ∃ a, S a ∧ ((N a = 0 ∧ y = .tup [.d (.ro k 0 (Gt a)), .d (.bool (B a))] ∧ r = []) ∨ (0 < N a ∧ y = .tup [.buf 7, .d (.bool (B a))] ∧ r = [(7, .buf e k (N a) (Gt a))]))) := by
 refine ⟨(h fun _ => False).enter, fun G β w vs hpre hvl hvd => ?_⟩
 have hβ : ∀ d, β d = none := fun d => by
  cases hb : β d with
  | none => rfl
  | some v => obtain ⟨r, hr⟩ := hpre.sc d v hb; cases hr
 obtain ⟨X, hX⟩ : ∃ X : Nat → Prop, X = fun b => (G b).isSome = true := ⟨_, rfl⟩
 have hle : β.le (fun d => if d = 1000007 then some (.bool true) else none) := fun d v hd => by rw [hβ d] at hd; cases hd
 have hlk : ∀ d r, lookL [((1000007 : Nat), Res.inX X)] d = some r → d = 1000007 ∧ r = .inX X := fun d r hd => by
  simp only [lookL] at hd
  cases hq : Nat.beq d 1000007 with
  | false => rw [hq] at hd; cases hd
  | true => rw [hq] at hd; cases hd; exact ⟨Nat.eq_of_beq_eq_true hq, rfl⟩
 have hpre2 : Pre G (fun d => if d = 1000007 then some (.bool true) else none) w (lookL [((1000007 : Nat), Res.inX X)]) := by
  refine ⟨hpre.gw, fun d r hd => ?_, fun d d' r r' v v' b h1 h2 o1 => ?_, fun d r v b h1 o1 => ?_, fun d v hd => ?_⟩
  · obtain ⟨rfl, rfl⟩ := hlk d r hd
    exact ⟨⟨_, if_pos rfl⟩, fun b hb => by rw [hX] at hb; exact hb⟩
  · obtain ⟨_, rfl⟩ := hlk d r h1; cases o1
  · obtain ⟨_, rfl⟩ := hlk d r h1; cases o1
  · by_cases q : d = 1000007
    · subst q; exact ⟨_, rfl⟩
    · rw [if_neg q] at hd; cases hd
 have hT : ∀ b, ¬ Tin w (fun d => if d = 1000007 then some (.bool true) else none) (lookL [((1000007 : Nat), Res.inX X)]) b := by
  rintro b ⟨d, r, v, h1, h2, _⟩
  obtain ⟨_, rfl⟩ := hlk d r h1; cases h2
 have hT0 : Tin w (fun d => if d = 1000007 then some (.bool true) else none) (lookL [((1000007 : Nat), Res.inX X)]) = Tin w β (lookL []) := by
  funext b
  refine propext ⟨fun z => absurd z (hT b), ?_⟩
  rintro ⟨d, r, v, h1, _⟩; cases h1
 refine ((h X).calls G _ w vs hpre2 hvl (fun i x v hx hv => (hvd i x v hx hv).mono (Hp.le_refl G) hle)).mono ?_
 rintro e' w' ⟨v, y, rout, G', β2, he, ⟨⟨a, hS, rfl⟩, rfl⟩, ho, hden⟩
 have hgn : ∀ b o, G' b = some o → G b = some o ∨ w.heap.size ≤ b := fun b o hb => by
  rcases ho.gn b o hb with q | q | q
  · exact .inl q
  · exact absurd q (hT b)
  · exact .inr q
 have hkeep := ho.keep
 rw [hT0] at hkeep
 cases hden with | tup _ us hul hu =>
 have hul : us.length = 2 := hul
 obtain ⟨v0, v1, rfl⟩ : ∃ v0 v1, us = [v0, v1] := by
  match us, hul with
  | [v0, v1], _ => exact ⟨v0, v1, rfl⟩
 have d0 := hu 0 _ _ rfl rfl
 have d1 := hu 1 _ _ rfl rfl
 cases d0 with | d _ _ d0 =>
 cases d1 with | d _ _ d1 =>
 cases d1 with | bool =>
 rcases Nat.eq_zero_or_pos (N a) with hz | hz
 · refine ⟨_, .tup [.d (.ro k 0 (Gt a)), .d (.bool (B a))], [], G', β, he, ⟨a, hS, .inl ⟨hz, rfl, rfl⟩⟩, ⟨ho.gle, Env.le_refl β, ho.gw, fun b o hb => (hgn b o hb).imp id .inr, hkeep, (fun d r hd => by cases hd), (fun d d' r r' v v' b hd => by cases hd), (fun d r v b hd => by cases hd)⟩, ?_⟩
   refine .tup _ _ rfl (fun i x v hx hv => ?_)
   match i, hx, hv with
   | 0, hx, hv => cases hx; cases hv; rw [hz] at d0; exact .d _ _ d0.unfrs
   | 1, hx, hv => cases hx; cases hv; exact .d _ _ (.bool _)
 · obtain ⟨m, hNm⟩ : ∃ m, N a = m := ⟨_, rfl⟩
   obtain ⟨gt, hGm⟩ : ∃ gt, Gt a = gt := ⟨_, rfl⟩
   have hfl := fun (i j : Nat) (x : DV) (hi : i < m) (hx : (gt i)[j]? = some x) => hflat a hS i j x (by omega) (by rw [hGm]; exact hx)
   rw [hNm, hGm] at d0
   rw [hNm] at hz
   cases d0 with
   | frsnil _ _ _ _ => omega
   | frse _ _ _ _ _ _ _ _ => omega
   | frs _ _ _ _ _ b cap cur vals hXb hb hcap hmax hsz hl hc hd =>
     have hGb : G b = none := by
      cases hg : G b with
      | none => rfl
      | some o => exact absurd (by rw [hX]; show (G b).isSome = true; rw [hg]; rfl) hXb
     have hbs : w.heap.size ≤ b := by
      rcases hgn b _ hb with q | q
      · rw [hGb] at q; cases q
      · exact q
     refine ⟨_, .tup [.buf 7, .d (.bool (B a))], [(7, .buf e k m gt)], fun c => if c = b then none else G' c, fun d => if d = 7 then some (.slice (some ⟨b, 0, none⟩) m cap) else none, he, ⟨a, hS, .inr ⟨by omega, rfl, by rw [hNm, hGm]⟩⟩, ?_, ?_⟩
     · have hlk7 : ∀ d r, lookL [((7 : Nat), Res.buf e k m gt)] d = some r → d = 7 ∧ r = .buf e k m gt := fun d r hd => by
        simp only [lookL] at hd
        cases hq : Nat.beq d 7 with
        | false => rw [hq] at hd; cases hd
        | true => rw [hq] at hd; cases hd; exact ⟨Nat.eq_of_beq_eq_true hq, rfl⟩
       refine ⟨fun c o hg => ?_, (fun d v hd => by rw [hβ d] at hd; cases hd), fun c o hg => ?_, fun c o hg => ?_, hkeep, fun d r hdl => ?_, fun d d' r r' v v' c h1 h2 _ _ _ _ _ _ => ?_, fun d r v c h1 o1 hv hbk => ?_⟩
       · have : c ≠ b := fun q => by rw [q, hGb] at hg; cases hg
         show (if c = b then none else G' c) = some o
         rw [if_neg this]; exact ho.gle c o hg
       · have hg : (if c = b then none else G' c) = some o := hg
         split at hg
         · cases hg
         · exact ho.gw c o hg
       · have hg : (if c = b then none else G' c) = some o := hg
         split at hg
         · cases hg
         · exact (hgn c o hg).imp id .inr
       · obtain ⟨rfl, rfl⟩ := hlk7 d r hdl
         have hlen : m * k ≤ cur.size := by rw [hsz]; exact Nat.mul_le_mul_right _ hcap
         refine ⟨_, cur.toList.take (m * k), if_pos rfl, ⟨?_, .inr ⟨b, cap, cur, rfl, by omega, ho.gw _ _ hb, hcap, hmax, hsz, rfl⟩⟩, hk, hl, fun i j x hi hx => ?_⟩
         · simp; omega
         · have hlt : i * k + j < m * k := by
            have := (List.getElem?_eq_some_iff.1 hx).1
            rw [hl i hi] at this
            calc i * k + j < i * k + k := by omega
             _ = (i + 1) * k := by rw [Nat.add_mul, Nat.one_mul]
             _ ≤ m * k := Nat.mul_le_mul_right _ hi
           refine ⟨vals i j, ?_, (hd i j x hi hx).flat (hfl i j x hi hx)⟩
           rw [List.getElem?_take_of_lt hlt, Array.getElem?_toList]; exact hc i j x hi hx
       · rw [(hlk7 d r h1).1, (hlk7 d' r' h2).1]
       · obtain ⟨rfl, rfl⟩ := hlk7 d r h1
         have hv : (if 7 = 7 then some (Value.slice (some ⟨b, 0, none⟩) m cap) else none) = some v := hv
         rw [if_pos rfl] at hv; cases hv
         have : b = c := by have := hbk.plain rfl; cases this; rfl
         subst this
         exact ⟨if_pos rfl, .inr hbs⟩
     · refine .tup _ _ rfl (fun i x v hx hv => ?_)
       match i, hx, hv with
       | 0, hx, hv => cases hx; cases hv; exact .buf _ _ (if_pos rfl) rfl
       | 1, hx, hv => cases hx; cases hv; exact .d _ _ (.bool _)
end Go.Eng
set_option maxRecDepth 20000
namespace Go.Proofs.YteehenjdddlnnaaGreatDoor
open Go Go.Eng
theorem p138 (n : Int) : FSpec Tryz.prog 138 [.d (.int .i64 n)] [] (fun y r => y = .d (.int .i64 (sgnI n)) ∧ r = []) := by
 refine spec_of hT (C := []) Tryz.func138 rfl Tryz.call138 rfl rfl rfl ?_
 conv => whnf
 repeat' (first | (refine br_intro ?_ ?_ <;> intro hb <;> (try simp only [brs] at hb) <;> conv => whnf) | omega | (refine And.intro ?_ ?_; ((try dsimp only); first | omega | (refine szA rfl ?_; omega) | (refine szB rfl ?_; omega) | (unfold inI64; omega) | exact rfl | (simp only [lns] at *; omega) | decide | (unfold inI64; decide)); conv => whnf) | decide | assumption)
 all_goals
  refine .ret _ ?_
  conv => whnf
  refine ⟨[], ⟨?_, rfl⟩, trivial⟩
  conv => lhs; whnf
  unfold sgnI
  first
   | (rw [if_pos (by omega)]; done)
   | (rw [if_neg (by omega), if_pos (by omega)]; done)
   | (rw [if_neg (by omega), if_neg (by omega)]; done)
def mvS (x : Mov) : Prop := -1000000 ≤ x.many ∧ x.many ≤ 1000000
theorem p121 (x y : Mov) (hx : mvS x) (hy : mvS y) : FSpec Tryz.prog 121 [.agg ((mvF x).map .d), .agg ((mvF y).map .d)] [] (fun v r => v = .d (.int .i64 (mvC x y)) ∧ r = []) := by
 obtain ⟨hx1, hx2⟩ := hx
 obtain ⟨hy1, hy2⟩ := hy
 obtain ⟨c, hc⟩ : ∃ c, endsC x.a x.b y.a y.b = c := ⟨_, rfl⟩
 have h108 := z108 x.a x.b y.a y.b
 rw [hc] at h108
 refine spec_of hT (C := []) Tryz.func121 rfl Tryz.call121 rfl rfl rfl ?_
 conv => whnf
 repeat' (first | (refine CallX.exact (h108) rfl rfl ?_; rotate_right; conv => whnf) | (refine CallX.exact (p138 _) rfl rfl ?_; rotate_right; conv => whnf) | (refine br_intro ?_ ?_ <;> intro hb <;> (try simp only [brs] at hb) <;> conv => whnf) | omega | (refine And.intro ?_ ?_; ((try dsimp only); first | omega | (refine szA rfl ?_; omega) | (refine szB rfl ?_; omega) | (unfold inI64; omega) | exact rfl | (simp only [lns] at *; omega) | decide | (unfold inI64; decide)); conv => whnf) | decide | assumption)
 all_goals
  refine .ret _ ?_
  conv => whnf
  refine ⟨[], ⟨?_, rfl⟩, trivial⟩
  conv => lhs; whnf
  unfold mvC
  rw [hc]
  first
   | (rw [if_pos (by omega)]; done)
   | (rw [if_neg (by omega)]; done)
theorem cmpF_drop {α : Type} {c : α → α → Int} {d : α} {a b : List α} {i : Nat} (h1 : i < a.length) (h2 : i < b.length) : cmpF c (a.drop i) (b.drop i) = if c (a.getD i d) (b.getD i d) = 0 then cmpF c (a.drop (i + 1)) (b.drop (i + 1)) else c (a.getD i d) (b.getD i d) := by
 rw [List.drop_eq_getElem_cons h1, List.drop_eq_getElem_cons h2, cmpF]
 have e1 : a.getD i d = a[i] := by simp [List.getD_eq_getElem?_getD, h1]
 have e2 : b.getD i d = b[i] := by simp [List.getD_eq_getElem?_getD, h2]
 rw [e1, e2]
set_option maxHeartbeats 4000000 in
theorem p120 (a b : List Mov) (ha : a.length ≤ 2^40) (hb0 : b.length ≤ 2^40) (h1 : ∀ m ∈ a, mvS m) (h2 : ∀ m ∈ b, mvS m) : FSpec Tryz.prog 120 [.d (movs a), .d (movs b), .fn 121 []] [] (fun v r => v = .d (.int .i64 (cmpF mvC a b)) ∧ r = []) := by
 refine spec_of hT (C := []) Tryz.func120 rfl Tryz.call120 rfl rfl rfl ?_
 conv => whnf
 refine LoopX.rule hT (C := []) (ι := Nat) (fun i => (i ≤ a.length ∧ i ≤ b.length) ∧ cmpF mvC a b = cmpF mvC (a.drop i) (b.drop i)) (fun i => mkSt [(0, .d (movs a)), (1, .d (movs b)), (2, .fn 121 []), (11, .d (movs a)), (12, .d (.int .i64 a.length)), (13, .d (.int .i64 i))] []) (fun i => a.length - i) 0 ⟨⟨Nat.zero_le _, Nat.zero_le _⟩, rfl⟩ ?_ ?_
 · exact Entails.mk' [] rfl rfl ⟨lr, lr, lr, lr, lr, lr, trivial⟩ trivial
 rintro i ⟨⟨hi1, hi2⟩, hc⟩
 have hi1 : i ≤ a.length := hi1
 have hi2 : i ≤ b.length := hi2
 have ei : (i : Int).toNat = i := Int.toNat_natCast i
 have hx : i < a.length → mvS (a.getD (i : Int).toNat mv0) := fun h => h1 _ (getD_mem (by rw [ei]; exact h))
 have hy : i < b.length → mvS (b.getD (i : Int).toNat mv0) := fun h => h2 _ (getD_mem (by rw [ei]; exact h))
 rcases Nat.lt_or_ge i a.length with hia | hia
 · rcases Nat.lt_or_ge i b.length with hib | hib
   · obtain ⟨c, hcc⟩ : ∃ c, mvC (a.getD (i : Int).toNat mv0) (b.getD (i : Int).toNat mv0) = c := ⟨_, rfl⟩
     have h121 := p121 _ _ (hx hia) (hy hib)
     rw [hcc] at h121
     have hd := cmpF_drop (c := mvC) (d := mv0) hia hib
     rw [ei] at hcc
     rw [hcc] at hd
     conv => whnf
     repeat' (first | (refine CallX.exact (h121) rfl rfl ?_; rotate_right; conv => whnf) | (refine br_intro ?_ ?_ <;> intro hb <;> (try simp only [brs] at hb) <;> conv => whnf) | omega | (refine And.intro ?_ ?_; ((try dsimp only); first | omega | (refine szA rfl ?_; omega) | (refine szB rfl ?_; omega) | (unfold inI64; omega) | exact rfl | (simp only [lns] at *; omega) | decide | (unfold inI64; decide)); conv => whnf) | decide | assumption)
     all_goals try (exfalso; omega)
     · refine .ret _ ?_
       conv => whnf
       refine ⟨[], ⟨?_, rfl⟩, trivial⟩
       conv => lhs; whnf
       rw [hc, hd, if_neg (by omega)]
     · rw [if_pos (by omega)] at hd
       exact ⟨i + 1, ⟨⟨hia, hib⟩, by rw [hc, hd]⟩, by omega, Entails.mk' [] rfl rfl ⟨lr, lr, lr, lr, lr, lr, trivial⟩ trivial⟩
   · conv => whnf
     repeat' (first | (refine br_intro ?_ ?_ <;> intro hb <;> (try simp only [brs] at hb) <;> conv => whnf) | omega | (refine And.intro ?_ ?_; ((try dsimp only); first | omega | (refine szA rfl ?_; omega) | (refine szB rfl ?_; omega) | (unfold inI64; omega) | exact rfl | (simp only [lns] at *; omega) | decide | (unfold inI64; decide)); conv => whnf) | decide | assumption)
     all_goals try (exfalso; omega)
     refine .ret _ ?_
     conv => whnf
     refine ⟨[], ⟨?_, rfl⟩, trivial⟩
     conv => lhs; whnf
     rw [hc, List.drop_eq_nil_of_le hib, List.drop_eq_getElem_cons hia]; rfl
 · conv => whnf
   repeat' (first | (refine br_intro ?_ ?_ <;> intro hb <;> (try simp only [brs] at hb) <;> conv => whnf) | omega | (refine And.intro ?_ ?_; ((try dsimp only); first | omega | (refine szA rfl ?_; omega) | (refine szB rfl ?_; omega) | (unfold inI64; omega) | exact rfl | (simp only [lns] at *; omega) | decide | (unfold inI64; decide)); conv => whnf) | decide | assumption)
   all_goals try (exfalso; omega)
   all_goals
    refine .ret _ ?_
    conv => whnf
    refine ⟨[], ⟨?_, rfl⟩, trivial⟩
    conv => lhs; whnf
    rw [hc, List.drop_eq_nil_of_le hia]
   · rw [List.drop_eq_getElem_cons (by omega)]; rfl
   · rw [List.drop_eq_nil_of_le (by omega)]; rfl
abbrev pmF (p : Pla Mov) : List DV := [movs p.l, .int .i64 p.cost]
abbrev frsM (X : Nat → Prop) (l : List Mov) : DV := .frs 70 3 l.length X (rowF mvF mv0 l)
abbrev pzF (X : Nat → Prop) (p : Pla Mov) : List DV := [frsM X p.l, .int .i64 p.cost]
def pzB (p : Pla Mov) : Prop := p.l.length ≤ 1000 ∧ ∀ m ∈ p.l, mvS m
theorem p96 (p q : Pla Mov) (hp : pzB p) (hq : pzB q) : FSpec Tryz.prog 96 [.agg ((pmF p).map .d), .agg ((pmF q).map .d)] [] (fun v r => v = .d (.bool (lessP mvC p q)) ∧ r = []) := by
 have hp1 := hp.1
 have hq1 := hq.1
 refine spec_of hT (C := []) Tryz.func96 rfl Tryz.call96 rfl rfl rfl ?_
 conv => whnf
 repeat' (first | (refine CallX.exact (p120 p.l q.l (by omega) (by omega) hp.2 hq.2) rfl rfl ?_; rotate_right; conv => whnf) | (refine br_intro ?_ ?_ <;> intro hb <;> (try simp only [brs] at hb) <;> conv => whnf) | omega | (refine And.intro ?_ ?_; ((try dsimp only); first | omega | (refine szA rfl ?_; omega) | (refine szB rfl ?_; omega) | (unfold inI64; omega) | exact rfl | (simp only [lns] at *; omega) | decide | (unfold inI64; decide)); conv => whnf) | decide | assumption)
 all_goals
  refine .ret _ ?_
  conv => whnf
  refine ⟨[], ⟨?_, rfl⟩, trivial⟩
  conv => lhs; whnf
  unfold lessP
  first
   | (rw [if_pos (by omega)]; done)
   | (rw [if_neg (by omega)]; done)
abbrev bys (l : List UInt8) : DV := seqD 1 byteD 0 l
theorem p97 (l : List UInt8) (hl : l.length ≤ 2^20) : FSpec Tryz.prog 97 [.d (bys l)] [] (fun y r => y = .buf 7 ∧ r = [(7, seqB 5 1 byteD 0 l)]) := by
 refine spec_of hT (C := [5]) Tryz.func97 rfl Tryz.call97 rfl rfl rfl ?_
 conv => whnf
 rintro b hbn
 conv => whnf
 repeat' (first | (refine br_intro ?_ ?_ <;> intro hb <;> (try simp only [brs] at hb) <;> conv => whnf) | omega | (refine And.intro ?_ ?_; ((try dsimp only); first | omega | (refine szA rfl ?_; omega) | (refine szB rfl ?_; omega) | (unfold inI64; omega) | exact rfl | (simp only [lns] at *; omega) | decide | (unfold inI64; decide)); conv => whnf) | decide | assumption)
 · have h0 : l = [] := List.eq_nil_of_length_eq_zero (hbn (by assumption))
   subst h0
   refine .ent _ _ (Entails.nil 2 7 5 1 (rowF byteD 0 []) rfl rfl (by decide)) (.ret _ ?_)
   conv => whnf
   exact ⟨_, ⟨rfl, rfl⟩, rr, trivial⟩
 · refine .ret _ ?_
   conv => whnf
   refine ⟨_, ⟨rfl, rfl⟩, Res.le_buf (by simp) (fun i hi => ?_), trivial⟩
   rw [appGet_ge (by omega)]; rfl
theorem p98 (l : List Mov) (hl : l.length ≤ 2^20) : FSpec Tryz.prog 98 [.d (movs l)] [] (fun y r => y = .buf 7 ∧ r = [(7, seqB 70 3 mvF mv0 l)]) := by
 refine spec_of hT (C := [5]) Tryz.func98 rfl Tryz.call98 rfl rfl rfl ?_
 conv => whnf
 rintro b hbn
 conv => whnf
 repeat' (first | (refine br_intro ?_ ?_ <;> intro hb <;> (try simp only [brs] at hb) <;> conv => whnf) | omega | (refine And.intro ?_ ?_; ((try dsimp only); first | omega | (refine szA rfl ?_; omega) | (refine szB rfl ?_; omega) | (unfold inI64; omega) | exact rfl | (simp only [lns] at *; omega) | decide | (unfold inI64; decide)); conv => whnf) | decide | assumption)
 · have h0 : l = [] := List.eq_nil_of_length_eq_zero (hbn (by assumption))
   subst h0
   refine .ent _ _ (Entails.nil 2 7 70 3 (rowF mvF mv0 []) rfl rfl (by decide)) (.ret _ ?_)
   conv => whnf
   exact ⟨_, ⟨rfl, rfl⟩, rr, trivial⟩
 · refine .ret _ ?_
   conv => whnf
   refine ⟨_, ⟨rfl, rfl⟩, Res.le_buf (by simp) (fun i hi => ?_), trivial⟩
   rw [appGet_ge (by omega)]; rfl
def keyS : List DV → List UInt8
 | [.str s] => s
 | _ => []
theorem wk_str {K : List DV} (h : wk [.str] K = true) : ∃ s, K = [.str s] := by
 cases K with
 | nil => simp [wk] at h
 | cons x r =>
   cases r with
   | cons y r => simp [wk] at h
   | nil => cases x <;> simp [wk, wk1] at h; exact ⟨_, rfl⟩
def pzV (X : Nat → Prop) : Option (Pla Mov) → List DV
 | some p => pzF X p
 | none => [.nilsl, .int .i64 0]
def pmH (M : PMap Mov) (K : List DV) : Bool := (M (keyS K)).isSome
def pmV (X : Nat → Prop) (M : PMap Mov) (K : List DV) : List DV := pzV X (M (keyS K))
abbrev pmR (X : Nat → Prop) (M : PMap Mov) : Res := .map false true [.str] [.nilsl, .int .i64 0] (pmH M) (pmV X M)
theorem SV.le_frsx {e k n m : Nat} {X : Nat → Prop} {g h : Nat → List DV} (hn : n = m) (hg : ∀ i, i < n → g i = h i) : SV.le (.d (.frs e k n X g)) (.d (.frs e k m X h)) := by
 subst hn
 intro G β v hv
 cases hv with | d _ _ hv =>
 refine .d _ _ ?_
 cases hv with
 | frsnil => exact .frsnil _ _ _ _
 | frse _ _ _ _ a cap hs hmax => exact .frse _ _ _ _ a cap hs hmax
 | frs _ _ _ _ _ b cap cur vals hX hb hcap hmax hsz hl hc hd => exact .frs _ _ _ _ _ b cap cur vals hX hb hcap hmax hsz (fun i hi => by rw [← hg i hi]; exact hl i hi) (fun i j x hi hx => hc i j x hi (by rw [hg i hi]; exact hx)) (fun i j x hi hx => hd i j x hi (by rw [hg i hi]; exact hx))
theorem keyEq_str (s x : List UInt8) : keyEq [.str s] [.str x] = decide (s = x) := by rw [Bool.eq_iff_iff]; simp [keyEq, keyEq1]
theorem pmR_ins {X : Nat → Prop} {M M' : PMap Mov} {x : List UInt8} {p : Pla Mov} (h : ∀ s, M' s = if s = x then some p else M s) :
 Res.le (.map false true [.str] [.nilsl, .int .i64 0] (fun q => keyEq q [.str x] || pmH M q) (fun q => bif keyEq q [.str x] then pzF X p else pmV X M q)) (pmR X M') := Res.le_map fun K hK => by
 obtain ⟨s, rfl⟩ := wk_str hK
 rw [keyEq_str]
 unfold pmH pmV
 show (decide (s = x) || (M s).isSome) = (M' s).isSome ∧ (bif decide (s = x) then pzF X p else pzV X (M s)) = pzV X (M' s)
 rw [h s]
 by_cases q : s = x
 · rw [if_pos q, decide_eq_true q]; exact ⟨rfl, rfl⟩
 · rw [if_neg q, decide_eq_false q]; exact ⟨Bool.false_or _, rfl⟩
theorem pmR_eq {X : Nat → Prop} {M M' : PMap Mov} (h : ∀ s, M' s = M s) : Res.le (pmR X M) (pmR X M') := by
 have : M' = M := funext h
 rw [this]; exact rr
def oVPfT69_12 : List (Nat × List Nat) := [(0, []), (1, []), (3, [0, 1]), (4, [0, 1, 3]), (5, [0, 1, 3, 4]), (6, [0, 1, 3]), (7, [0, 1, 3]), (8, [0, 1, 3, 4, 5, 6, 7]), (9, [0, 1]), (10, [0, 1]), (12, [0, 1, 3, 4, 5, 6, 7, 8, 9, 10]), (13, [0, 1, 3, 4, 5, 6, 7, 8, 9, 10]), (14, [0, 1, 3, 4, 5, 6, 7, 8, 9, 10, 12, 13]), (15, [0, 1, 3, 4, 5, 6, 7, 8, 9, 10, 12, 13, 14]), (16, [0, 1, 3, 4, 5, 6, 7, 8, 9, 10, 12, 13, 14]), (17, [0, 1, 3, 4, 5, 6, 7, 8, 9, 10, 12, 13]), (18, [0, 1, 3, 4, 5, 6, 7, 8, 9, 10]), (20, [0, 1, 3, 4, 5, 6, 7, 8, 9, 10, 12, 13, 14, 15, 16, 17, 18]), (2, [3, 4, 5, 6, 7, 8, 9, 10, 12, 13, 14, 15, 16, 17, 18, 20]), (11, [12, 13, 14, 15, 16, 17, 18, 20]), (19, [20]), (21, [])]
def mapB (M : PMap Mov) : Prop := ∀ σ q, M σ = some q → pzB q
theorem insM_b {M : PMap Mov} (h : mapB M) {σ : List UInt8} {p : Pla Mov} (hp : pzB p) : mapB (insM mvC M σ p) := by
 intro τ q hq
 unfold insM at hq
 split at hq
 · cases hM : M σ with
   | none => rw [hM] at hq; cases hq; exact hp
   | some old =>
     rw [hM] at hq
     simp only at hq
     split at hq
     · cases hq; exact hp
     · cases hq; exact h σ _ hM
 · exact h τ q hq
theorem rep_b {F : Int → PMap Mov → PMap Mov} : ∀ {n : Nat} {M : PMap Mov}, mapB M → (∀ k M, 1 ≤ k → k ≤ (n : Int) → mapB M → mapB (F k M)) → mapB (rep F n M)
 | 0, _, h, _ => h
 | n + 1, M, h, hF => by
   rw [rep]
   exact hF _ _ (by omega) (by omega) (rep_b h fun k M h1 h2 hM => hF k M h1 (by omega) hM)
def roomP (p : Pla Mov) (left : Int) (d : Nat) : Prop := (p.l.length + d ≤ 1000 ∧ ∀ m ∈ p.l, mvS m) ∧ (0 ≤ left ∧ left ≤ 20) ∧ 0 ≤ p.cost ∧ p.cost + left * 1000000 ≤ 1000000000000
theorem roomP.b {p : Pla Mov} {left : Int} {d : Nat} (h : roomP p left d) : pzB p := ⟨by have := h.1.1; omega, h.1.2⟩
theorem roomP.skip {p : Pla Mov} {left : Int} {d : Nat} (h : roomP p left (d + 1)) : roomP p left d := ⟨⟨by have := h.1.1; omega, h.1.2⟩, h.2⟩
theorem roomP.app {p : Pla Mov} {left n car : Int} {d : Nat} (h : roomP p left (d + 1)) (h1 : 1 ≤ n) (h2 : n ≤ left) (hc : 0 ≤ car ∧ car ≤ 1000000) {a b : List UInt8} : roomP (p.app [⟨a, b, n⟩] (n * car)) (left - n) d := by
 obtain ⟨⟨q1, q2⟩, q3, q4, q5⟩ := h
 have hm : 0 ≤ n * car := Int.mul_nonneg (by omega) hc.1
 have hm2 : n * car ≤ n * 1000000 := Int.mul_le_mul_of_nonneg_left hc.2 (by omega)
 refine ⟨⟨?_, fun m hm => ?_⟩, by omega, ?_, ?_⟩
 · show (p.l ++ _).length + d ≤ 1000
   rw [List.length_append]; simp; omega
 · rcases List.mem_append.1 hm with z | z
   · exact q2 m z
   · have : m = ⟨a, b, n⟩ := by simpa using z
     subst this
     exact ⟨by show -1000000 ≤ n; omega, by show n ≤ 1000000; omega⟩
 · show 0 ≤ p.cost + n * car; omega
 · show p.cost + n * car + (left - n) * 1000000 ≤ 1000000000000
   have : (left - n) * 1000000 = left * 1000000 - n * 1000000 := Int.sub_mul _ _ _
   omega
structure SndO (r : List Roa) (fr : List UInt8) (want : List (List UInt8)) (s : Stn Mov) : Prop where
 way : ∀ k, k < want.length → s.way k = (roadO r fr (want.getD k [])).map (·.car)
 mv : ∀ k v, k < want.length → s.mv k v = ⟨fr, want.getD k [], v⟩
theorem stL_len (st : List UInt8) (k : Nat) (n : Int) : (stL st k n).length = st.length := by unfold stL; rw [List.length_set]
theorem sendM_b {r : List Roa} {fr : List UInt8} {want : List (List UInt8)} {s : Stn Mov} (hs : SndO r fr want s) (hr : rdsE r = 0) : ∀ (d k : Nat) (st : List UInt8) (left : Int) (p : Pla Mov) (M : PMap Mov), k + d = want.length → roomP p left d → mapB M → mapB (sendM mvC s d k st left p M) := by
 intro d
 induction d with
 | zero => intro k st left p M _ hp hM; rw [sendM]; exact insM_b hM hp.b
 | succ d ih =>
   intro k st left p M hk hp hM
   have h1 := ih (k + 1) st left p M (by omega) hp.skip hM
   rw [sendM, hs.way k (by omega)]
   cases q : roadO r fr (want.getD k []) with
   | none => exact h1
   | some x =>
     have hx := (roadO_bd hr q).1
     refine rep_b h1 fun n M' n1 n2 hM' => ?_
     refine ih (k + 1) _ _ _ _ (by omega) ?_ hM'
     rw [hs.mv k n (by omega)]
     exact hp.app n1 (by omega) hx
set_option maxHeartbeats 8000000 in
theorem p69 {X : Nat → Prop} {r : List Roa} {fr : List UInt8} {want : List (List UInt8)} {s : Stn Mov} (hs : SndO r fr want s) (hr : rdsE r = 0) (hw : want.length ≤ 1000) : ∀ (d k : Nat) (st : List UInt8) (left : Int) (p : Pla Mov) (M : PMap Mov), k + d = want.length → st.length = want.length → roomP p left d → mapB M →
 FSpec Tryz.prog 69 [.d (roas r), .d (.str fr), .d (strs want), .d (bys st), .d (.int .i64 k), .d (.int .i64 left), .agg ((pzF X p).map .d), .mp 1000000] [(1000000, pmR X M), (1000007, .inX X)] (fun y q => y = .tup [] ∧ q = [(1000000, pmR X (sendM mvC s d k st left p M)), (1000007, .inX X)]) := by
 intro d
 induction d with
 | zero =>
   intro k st left p M hk hst hp hM
   cases hMs : M st with
   | none =>
     have hm2 : M (keyS [.str st]) = none := hMs
     have hv : pmV X M [.str st] = [.nilsl, .int .i64 0] := by unfold pmV; rw [hm2]; rfl
     have hh : pmH M [.str st] = false := by unfold pmH; rw [hm2]; rfl
     refine spec_of hT (C := []) Tryz.func69 rfl Tryz.call69 rfl rfl rfl ?_
     conv => whnf
     repeat' (first | (refine And.intro (rfl : zrow _ = some [.nilsl, .int .i64 0]) ?_; conv => whnf) | (refine ⟨st, ⟨rfl, fun _ _ => rfl⟩, ?_⟩; conv => whnf) | (rw [hv, hh]; conv => whnf) | (refine br_intro ?_ ?_ <;> intro hb <;> (try simp only [brs] at hb) <;> conv => whnf) | (refine RegX.rule (id := 12) hT rfl [] oVPfT69_12 (by decide +kernel) ?_; conv => whnf) | omega | (refine And.intro ?_ ?_; ((try dsimp only); first | omega | (refine szA rfl ?_; omega) | (refine szB rfl ?_; omega) | (unfold inI64; omega) | exact rfl | (simp only [lns] at *; omega) | decide | (unfold inI64; decide)); conv => whnf) | decide | assumption)
     all_goals try (exfalso; omega)
     refine .ret _ ?_
     conv => whnf
     refine ⟨_, ⟨rfl, rfl⟩, ?_, rr, trivial⟩
     refine pmR_ins fun s' => ?_
     rw [sendM, insM, hMs]
   | some old =>
     have hm2 : M (keyS [.str st]) = some old := hMs
     have hv : pmV X M [.str st] = pzF X old := by unfold pmV; rw [hm2]; rfl
     have hh : pmH M [.str st] = true := by unfold pmH; rw [hm2]; rfl
     refine spec_of hT (C := []) Tryz.func69 rfl Tryz.call69 rfl rfl rfl ?_
     conv => whnf
     repeat' (first | (refine And.intro (rfl : zrow _ = some [.nilsl, .int .i64 0]) ?_; conv => whnf) | (refine ⟨st, ⟨rfl, fun _ _ => rfl⟩, ?_⟩; conv => whnf) | (rw [hv, hh]; conv => whnf) | (refine CallX.pure (p96 p old hp.b (hM _ _ hMs)) ⟨SV.le_agg ⟨SV.le_frs, lr, trivial⟩, SV.le_agg ⟨SV.le_frs, lr, trivial⟩, trivial⟩ rfl ?_; conv => whnf) | (refine br_intro ?_ ?_ <;> intro hb <;> (try simp only [brs] at hb) <;> conv => whnf) | (refine RegX.rule (id := 12) hT rfl [] oVPfT69_12 (by decide +kernel) ?_; conv => whnf) | omega | (refine And.intro ?_ ?_; ((try dsimp only); first | omega | (refine szA rfl ?_; omega) | (refine szB rfl ?_; omega) | (unfold inI64; omega) | exact rfl | (simp only [lns] at *; omega) | decide | (unfold inI64; decide)); conv => whnf) | decide | assumption)
     all_goals try (exfalso; omega)
     · refine .ret _ ?_
       conv => whnf
       refine ⟨_, ⟨rfl, rfl⟩, ?_, rr, trivial⟩
       refine pmR_ins fun s' => ?_
       rw [sendM, insM, hMs]
       simp only [hb, if_true]
     · refine .ret _ ?_
       conv => whnf
       refine ⟨_, ⟨rfl, rfl⟩, ?_, rr, trivial⟩
       refine pmR_eq fun s' => ?_
       rw [sendM, insM, hMs]
       simp only [hb]
       by_cases q : s' = st
       · rw [if_pos q, q, hMs]; rfl
       · rw [if_neg q]
 | succ d ih =>
   intro k st left p M hk hst hp hM
   have hrl := (rds_all hr).1
   have ek : (k : Int).toNat = k := Int.toNat_natCast k
   obtain ⟨⟨hp1, hp2⟩, hp3, hp4, hp5⟩ := hp
   have hp : roomP p left (d + 1) := ⟨⟨hp1, hp2⟩, hp3, hp4, hp5⟩
   have hway := hs.way k (by omega)
   have hM1 := sendM_b hs hr d (k + 1) st left p M (by omega) hp.skip hM
   have h113 := z113 r (by omega) fr (want.getD (k : Int).toNat [])
   have hih := ih (k + 1) st left p M (by omega) hst hp.skip hM
   cases hro : roadO r fr (want.getD k []) with
   | none =>
     rw [hro] at hway
     rw [ek, hro] at h113
     rw [← ek] at h113
     refine spec_of hT (C := []) Tryz.func69 rfl Tryz.call69 rfl rfl rfl ?_
     conv => whnf
     repeat' (first | (refine CallX.of hih [(1000000, 1000000), (1000007, 1000007)] rfl ⟨lr, lr, lr, lr, SV.le_int (by omega), lr, lr, lr, trivial⟩ ⟨rr, rr, trivial⟩ rfl rfl ?_; rintro x rout ⟨rfl, rfl⟩; refine ⟨rfl, ?_⟩; conv => whnf) | (refine CallX.exact (h113) rfl rfl ?_; rotate_right; conv => whnf) | (refine br_intro ?_ ?_ <;> intro hb <;> (try simp only [brs] at hb) <;> conv => whnf) | (refine RegX.rule (id := 12) hT rfl [] oVPfT69_12 (by decide +kernel) ?_; conv => whnf) | omega | (refine And.intro ?_ ?_; ((try dsimp only); first | omega | (refine szA rfl ?_; omega) | (refine szB rfl ?_; omega) | (unfold inI64; omega) | exact rfl | (simp only [lns] at *; omega) | decide | (unfold inI64; decide)); conv => whnf) | decide | assumption)
     all_goals try (exfalso; omega)
     refine LoopX.rule hT (C := []) (ι := Unit) (fun _ => True) (fun _ => mkSt [(0, .d (roas r)), (1, .d (.str fr)), (2, .d (strs want)), (3, .d (bys st)), (4, .d (.int .i64 k)), (5, .d (.int .i64 left)), (7, .mp 1000000), (14, .ptr 14 0), (18, .ptr 18 0), (19, .d (.bool false)), (20, .d (.int .i64 1))] [(1000000, pmR X (sendM mvC s d (k + 1) st left p M)), (1000007, .inX X), (14, .cells 124 ((pzF X p).map .d)), (18, .cells 64 ((rdF rd0).map .d))]) (fun _ => 0) () trivial ?_ ?_
     · exact Entails.mk' [(1000000, 1000000), (1000007, 1000007), (14, 14), (18, 18)] rfl rfl ⟨lr, lr, lr, lr, lr, lr, lr, lr, lr, lr, lr, trivial⟩ ⟨rr, rr, rr, rr, trivial⟩
     rintro _ _
     conv => whnf
     repeat' (first | (refine br_intro ?_ ?_ <;> intro hb <;> (try simp only [brs] at hb) <;> conv => whnf) | (refine RegX.rule (id := 12) hT rfl [] oVPfT69_12 (by decide +kernel) ?_; conv => whnf) | omega | (refine And.intro ?_ ?_; ((try dsimp only); first | omega | (refine szA rfl ?_; omega) | (refine szB rfl ?_; omega) | (unfold inI64; omega) | exact rfl | (simp only [lns] at *; omega) | decide | (unfold inI64; decide)); conv => whnf) | decide | assumption)
     all_goals try (exfalso; omega)
     refine .ret _ ?_
     conv => whnf
     refine ⟨_, ⟨rfl, rfl⟩, ?_, rr, trivial⟩
     refine pmR_eq fun s' => ?_
     rw [sendM, hway]; rfl
   | some x =>
     have hxc := (roadO_bd hr hro).1
     rw [hro] at hway
     rw [ek, hro] at h113
     rw [← ek] at h113
     refine spec_of hT (C := []) Tryz.func69 rfl Tryz.call69 rfl rfl rfl ?_
     conv => whnf
     repeat' (first | (refine CallX.of hih [(1000000, 1000000), (1000007, 1000007)] rfl ⟨lr, lr, lr, lr, SV.le_int (by omega), lr, lr, lr, trivial⟩ ⟨rr, rr, trivial⟩ rfl rfl ?_; rintro x rout ⟨rfl, rfl⟩; refine ⟨rfl, ?_⟩; conv => whnf) | (refine CallX.exact (h113) rfl rfl ?_; rotate_right; conv => whnf) | (refine br_intro ?_ ?_ <;> intro hb <;> (try simp only [brs] at hb) <;> conv => whnf) | (refine RegX.rule (id := 12) hT rfl [] oVPfT69_12 (by decide +kernel) ?_; conv => whnf) | omega | (refine And.intro ?_ ?_; ((try dsimp only); first | omega | (refine szA rfl ?_; omega) | (refine szB rfl ?_; omega) | (unfold inI64; omega) | exact rfl | (simp only [lns] at *; omega) | decide | (unfold inI64; decide)); conv => whnf) | decide | assumption)
     all_goals try (exfalso; omega)
     refine LoopX.rule hT (C := []) (ι := Nat) (fun j => (j : Int) ≤ left ∧ j ≤ (st.getD k 0).toNat) (fun j => mkSt [(0, .d (roas r)), (1, .d (.str fr)), (2, .d (strs want)), (3, .d (bys st)), (4, .d (.int .i64 k)), (5, .d (.int .i64 left)), (7, .mp 1000000), (14, .ptr 14 0), (18, .ptr 18 0), (19, .d (.bool true)), (20, .d (.int .i64 (j + 1 : Nat)))] [(1000000, pmR X (rep (fun n M => sendM mvC s d (k + 1) (stL st k n) (left - n) (p.app [s.mv k n] (n * x.car)) M) j (sendM mvC s d (k + 1) st left p M))), (1000007, .inX X), (14, .cells 124 ((pzF X p).map .d)), (18, .cells 64 ((rdF x).map .d))]) (fun j => 30 - j) 0 ⟨hp3.1, Nat.zero_le _⟩ ?_ ?_
     · exact Entails.mk' [(1000000, 1000000), (1000007, 1000007), (14, 14), (18, 18)] rfl rfl ⟨lr, lr, lr, lr, lr, lr, lr, lr, lr, lr, lr, trivial⟩ ⟨rr, rr, rr, rr, trivial⟩
     rintro j ⟨hj1, hj2⟩
     have hj1 : (j : Int) ≤ left := hj1
     have hj2 : j ≤ (st.getD k 0).toNat := hj2
     have hbt : (st.getD k 0).toNat < 256 := (st.getD k 0).toNat_lt
     have hbt' : (st.getD (k : Int).toNat 0).toNat < 256 := (st.getD (k : Int).toNat 0).toNat_lt
     by_cases hjj : ((j + 1 : Nat) : Int) ≤ left ∧ j + 1 ≤ (st.getD k 0).toNat
     · have hmul : 0 ≤ ((j + 1 : Nat) : Int) * x.car ∧ ((j + 1 : Nat) : Int) * x.car ≤ 20 * 1000000 := ⟨Int.mul_nonneg (by omega) hxc.1, Int.mul_le_mul (by omega) hxc.2 hxc.1 (by omega)⟩
       have hroom : roomP (p.app [⟨fr, want.getD k [], ((j + 1 : Nat) : Int)⟩] (((j + 1 : Nat) : Int) * x.car)) (left - ((j + 1 : Nat) : Int)) d := hp.app (by omega) hjj.1 hxc
       have hMj : mapB (rep (fun n M => sendM mvC s d (k + 1) (stL st k n) (left - n) (p.app [s.mv k n] (n * x.car)) M) j (sendM mvC s d (k + 1) st left p M)) := by
        refine rep_b hM1 fun n M' n1 n2 hM' => ?_
        refine sendM_b hs hr d (k + 1) _ _ _ _ (by omega) ?_ hM'
        rw [hs.mv k n (by omega)]
        exact hp.app n1 (by omega) hxc
       have hwr : IntKind.u8.wrap (((st.getD (k : Int).toNat 0).toNat : Int) - IntKind.u8.wrap ((j + 1 : Nat) : Int)) = ((UInt8.ofNat ((st.getD k 0).toNat - (j + 1))).toNat : Int) := by
        rw [ek, IntWalk.u8_in ((j + 1 : Nat) : Int) (by omega), IntWalk.u8_in _ (by omega), UInt8.toNat_ofNat']
        omega
       have hih2 := ih (k + 1) (stL st k ((j + 1 : Nat) : Int)) (left - ((j + 1 : Nat) : Int)) _ _ (by omega) (by rw [stL_len]; exact hst) hroom hMj
       conv => whnf
       repeat' (first | (refine CallX.of (p97 st (by omega)) [(7, 83)] rfl ⟨lr, trivial⟩ trivial rfl rfl ?_; rintro x rout ⟨rfl, rfl⟩; refine ⟨rfl, ?_⟩; conv => whnf) | (refine CallX.of (p98 p.l (by omega)) [(7, 94)] rfl ⟨SV.le_frs, trivial⟩ trivial rfl rfl ?_; rintro x rout ⟨rfl, rfl⟩; refine ⟨rfl, ?_⟩; conv => whnf) | (refine br_intro ?_ ?_ <;> intro hb <;> (try simp only [brs] at hb) <;> conv => whnf) | (refine RegX.rule (id := 12) hT rfl [] oVPfT69_12 (by decide +kernel) ?_; conv => whnf) | omega | (refine And.intro ?_ ?_; ((try dsimp only); first | omega | (refine szA rfl ?_; omega) | (refine szB rfl ?_; omega) | (unfold inI64; omega) | exact rfl | (simp only [lns] at *; omega) | decide | (unfold inI64; decide)); conv => whnf) | decide | assumption)
       all_goals try (exfalso; omega)
       refine CallX.freeze _ _ _ _ 83 5 1 _ _ rfl rfl ?_
       refine CallX.freezeF _ _ _ _ 1000007 103 70 3 _ _ _ rfl rfl rfl rfl ?_
       refine CallX.of hih2 [(1000000, 1000000), (1000007, 1000007)] rfl ⟨lr, lr, lr, ?_, ?_, lr, SV.le_agg ⟨?_, ?_, trivial⟩, lr, trivial⟩ ⟨rr, rr, trivial⟩ rfl rfl ?_
       · exact (SV.le_putF (x := UInt8.ofNat ((st.getD k 0).toNat - (j + 1))) (fun y _ => congrArg (fun z => [DV.int IntKind.u8 z]) hwr))
       · exact SV.le_int (by omega)
       · exact (SV.le_frsx (by show _ = (p.l ++ [_]).length; simp) (rows_snocF (f := mvF) (d := mv0) (l := p.l) (x := (⟨fr, want.getD k [], ((j + 1 : Nat) : Int)⟩ : Mov)) (by rfl)))
       · exact lr
       rintro x' rout ⟨rfl, rfl⟩
       refine ⟨rfl, ?_⟩
       conv => whnf
       repeat' (first | (refine br_intro ?_ ?_ <;> intro hb <;> (try simp only [brs] at hb) <;> conv => whnf) | (refine RegX.rule (id := 12) hT rfl [] oVPfT69_12 (by decide +kernel) ?_; conv => whnf) | omega | (refine And.intro ?_ ?_; ((try dsimp only); first | omega | (refine szA rfl ?_; omega) | (refine szB rfl ?_; omega) | (unfold inI64; omega) | exact rfl | (simp only [lns] at *; omega) | decide | (unfold inI64; decide)); conv => whnf) | decide | assumption)
       all_goals try (exfalso; omega)
       refine ⟨j + 1, ⟨hjj.1, hjj.2⟩, by omega, Entails.mk' [(1000000, 1000000), (1000007, 1000007), (14, 14), (18, 18)] rfl rfl ⟨lr, lr, lr, lr, lr, lr, lr, lr, lr, lr, lr, trivial⟩ ⟨?_, rr, rr, rr, trivial⟩⟩
       refine pmR_eq fun s' => ?_
       rw [rep, hs.mv k _ (by omega)]; rfl
     · conv => whnf
       repeat' (first | (refine br_intro ?_ ?_ <;> intro hb <;> (try simp only [brs] at hb) <;> conv => whnf) | (refine RegX.rule (id := 12) hT rfl [] oVPfT69_12 (by decide +kernel) ?_; conv => whnf) | omega | (refine And.intro ?_ ?_; ((try dsimp only); first | omega | (refine szA rfl ?_; omega) | (refine szB rfl ?_; omega) | (unfold inI64; omega) | exact rfl | (simp only [lns] at *; omega) | decide | (unfold inI64; decide)); conv => whnf) | decide | assumption)
       all_goals try (exfalso; omega)
       all_goals
        refine .ret _ ?_
        conv => whnf
        refine ⟨_, ⟨rfl, rfl⟩, ?_, rr, trivial⟩
        refine pmR_eq fun s' => ?_
        rw [sendM, hway]
        have ej : (min left ((st.getD k 0).toNat : Int)).toNat = j := by omega
        simp only [Option.map_some, ej]
theorem Res.le_mapW {ag va : Bool} {ks : List KK} {zr : List DV} {has has' : List DV → Bool} {val val' : List DV → List DV} (h : ∀ key, wk ks key = true → has key = has' key ∧ (has key = true → ∀ G v, RowDen G va (val key) v → RowDen G va (val' key) v) ∧ (has key = false → val' key = zr)) :
 Res.le (.map ag va ks zr has val) (.map ag va ks zr has' val') := by
 refine ⟨rfl, fun G β w d => ?_⟩
 rintro ⟨r, es, clock, l, h1, h2, h3, h4, h5, h6⟩
 refine ⟨r, es, clock, l, h1, h2, h3, h4, h5, fun key hk => ?_⟩
 have := h6 key hk
 obtain ⟨q1, q2, q3⟩ := h key hk
 split at this
 · exact ⟨by rw [← q1]; exact this.1, q2 this.1 _ _ this.2⟩
 · exact ⟨by rw [← q1]; exact this.1, q3 this.1⟩
theorem KB_stamp {ks : List KK} {has : List DV → Bool} {clock : Nat} {kb : List (List DV × Nat)} (hk : KB ks has clock kb) {p q : List DV × Nat} (hp : p ∈ kb) (hq : q ∈ kb) : (p.2 = q.2 ↔ p.1 = q.1) := by
 obtain ⟨i, hi, rfl⟩ := List.getElem_of_mem hp
 obtain ⟨j, hj, rfl⟩ := List.getElem_of_mem hq
 have h1 : ∀ i j (hi : i < kb.length) (hj : j < kb.length), i < j → kb[i].2 < kb[j].2 := fun i j hi hj hij => by
  have := List.pairwise_iff_getElem.1 hk.ki i j (by simpa using hi) (by simpa using hj) hij
  simpa using this
 have h2 : ∀ i j (hi : i < kb.length) (hj : j < kb.length), i < j → kb[i].1 ≠ kb[j].1 := fun i j hi hj hij e => by
  have := List.pairwise_iff_getElem.1 hk.kd i j (by simpa using hi) (by simpa using hj) hij
  rw [List.getElem_map, List.getElem_map, ← e, keyEq_refl (hk.kw _ (List.getElem_mem hi))] at this
  cases this
 rcases Nat.lt_trichotomy i j with c | c | c
 · have := h1 i j hi hj c
   exact ⟨fun e => by omega, fun e => absurd e (h2 i j hi hj c)⟩
 · subst c; exact ⟨fun _ => rfl, fun _ => rfl⟩
 · have := h1 j i hj hi c
   exact ⟨fun e => by omega, fun e => absurd e.symm (h2 j i hj hi c)⟩
def bndM (J L : Nat) (C : Int) (M : PMap Mov) : Prop := ∀ σ q, M σ = some q → (q.l.length ≤ L ∧ ∀ m ∈ q.l, mvS m) ∧ (0 ≤ q.cost ∧ q.cost ≤ C) ∧ σ.length = J
theorem insM_c {J L : Nat} {C : Int} {M : PMap Mov} (h : bndM J L C M) {σ : List UInt8} {p : Pla Mov} (hp : (p.l.length ≤ L ∧ ∀ m ∈ p.l, mvS m) ∧ (0 ≤ p.cost ∧ p.cost ≤ C) ∧ σ.length = J) : bndM J L C (insM mvC M σ p) := by
 intro τ q hq
 unfold insM at hq
 split at hq
 · rename_i e
   subst e
   cases hM : M τ with
   | none => rw [hM] at hq; cases hq; exact hp
   | some old =>
     rw [hM] at hq
     simp only at hq
     split at hq
     · cases hq; exact hp
     · cases hq; exact h τ _ hM
 · exact h τ q hq
theorem rep_c {J L : Nat} {C : Int} {F : Int → PMap Mov → PMap Mov} : ∀ {n : Nat} {M : PMap Mov}, bndM J L C M → (∀ k M, 1 ≤ k → k ≤ (n : Int) → bndM J L C M → bndM J L C (F k M)) → bndM J L C (rep F n M)
 | 0, _, h, _ => h
 | n + 1, M, h, hF => by
   rw [rep]
   exact hF _ _ (by omega) (by omega) (rep_c h fun k M h1 h2 hM => hF k M h1 (by omega) hM)
theorem sendM_c {r : List Roa} {fr : List UInt8} {want : List (List UInt8)} {s : Stn Mov} (hs : SndO r fr want s) (hr : rdsE r = 0) {L : Nat} {C : Int} : ∀ (d k : Nat) (st : List UInt8) (left : Int) (p : Pla Mov) (M : PMap Mov), k + d = want.length → st.length = want.length → (p.l.length + d ≤ L ∧ ∀ m ∈ p.l, mvS m) → (0 ≤ left ∧ left ≤ 20) → 0 ≤ p.cost → p.cost + left * 1000000 ≤ C → bndM want.length L C M → bndM want.length L C (sendM mvC s d k st left p M) := by
 intro d
 induction d with
 | zero => intro k st left p M _ hst hp h1 h2 h3 hM; rw [sendM]; exact insM_c hM ⟨⟨by omega, hp.2⟩, ⟨h2, by omega⟩, hst⟩
 | succ d ih =>
   intro k st left p M hk hst hp h1 h2 h3 hM
   have h0 := ih (k + 1) st left p M (by omega) hst ⟨by omega, hp.2⟩ h1 h2 h3 hM
   rw [sendM, hs.way k (by omega)]
   cases q : roadO r fr (want.getD k []) with
   | none => exact h0
   | some x =>
     have hx := (roadO_bd hr q).1
     refine rep_c h0 fun n M' n1 n2 hM' => ?_
     have hm : 0 ≤ n * x.car := Int.mul_nonneg (by omega) hx.1
     have hm2 : n * x.car ≤ n * 1000000 := Int.mul_le_mul_of_nonneg_left hx.2 (by omega)
     have hm3 : (left - n) * 1000000 = left * 1000000 - n * 1000000 := Int.sub_mul _ _ _
     rw [hs.mv k n (by omega)]
     refine ih (k + 1) _ _ _ _ (by omega) (by rw [stL_len]; exact hst) ⟨?_, fun m hm => ?_⟩ (by omega) ?_ ?_ hM'
     · show (p.l ++ _).length + d ≤ L
       rw [List.length_append]; simp; omega
     · rcases List.mem_append.1 hm with z | z
       · exact hp.2 m z
       · have : m = ⟨fr, want.getD k [], n⟩ := by simpa using z
         subst this
         exact ⟨by show -1000000 ≤ n; omega, by show n ≤ 1000000; omega⟩
     · show 0 ≤ p.cost + n * x.car; omega
     · show p.cost + n * x.car + (left - n) * 1000000 ≤ C; omega
def filK (p : Nat → Bool) (i : Nat) : List Nat := (List.range i).filter p
theorem filK_succ (p : Nat → Bool) (i : Nat) : filK p (i + 1) = filK p i ++ (if p i = true then [i] else []) := by
 unfold filK
 rw [List.range_succ, List.filter_append]
 by_cases h : p i = true
 · rw [if_pos h, List.filter_cons_of_pos h]; rfl
 · rw [if_neg h, List.filter_cons_of_neg h]; rfl
theorem filK_len (p : Nat → Bool) (i : Nat) : (filK p i).length ≤ i := by
 have := List.length_filter_le p (List.range i)
 rw [List.length_range] at this; exact this
theorem filK_at (p : Nat → Bool) {i : Nat} (hp : p i = true) : ∀ {N : Nat}, i < N → (filK p N)[(filK p i).length]? = some i
 | 0, h => absurd h (Nat.not_lt_zero _)
 | N + 1, h => by
   rw [filK_succ]
   by_cases e : i = N
   · subst e
     rw [if_pos hp, List.getElem?_append_right (Nat.le_refl _)]; simp
   · have := filK_at p hp (N := N) (by omega)
     rw [List.getElem?_append_left (List.getElem?_eq_some_iff.1 this).1]; exact this
def srcP (n : List Ned) (i : Nat) : Bool := decide (0 < manyP n i)
def dstP (n : List Ned) (i : Nat) : Bool := decide (manyP n i < 0)
def wanS (n : List Ned) (i : Nat) : List (List UInt8) := (filK (dstP n) i).map fun k => (n.getD k nd0).st
def byS (n : List Ned) (i : Nat) : List UInt8 := (filK (dstP n) i).map fun k => UInt8.ofNat (0 - manyP n k).toNat
theorem nsN_at {n : List Ned} {i : Nat} (hi : i < n.length) (h : srcP n i = true) : nsN n (filK (srcP n) i).length = i := by
 have := filK_at (srcP n) h hi
 unfold nsN
 rw [List.getD_eq_getElem?_getD, show srcL n = filK (srcP n) n.length from rfl, this]; rfl
theorem sndO_at {n : List Ned} {r : List Roa} {i : Nat} (hi : i < n.length) (h : srcP n i = true) : SndO r (n.getD i nd0).st (wanS n n.length) (stnN n r (filK (srcP n) i).length) := by
 have e : ∀ k, k < (wanS n n.length).length → (wanS n n.length).getD k [] = (n.getD (nwN n k) nd0).st := fun k hk => by
  unfold wanS at hk ⊢
  rw [List.length_map] at hk
  unfold nwN
  have e2 : (dstL n).getD k 0 = (filK (dstP n) n.length)[k] := by rw [show dstL n = filK (dstP n) n.length from rfl, List.getD_eq_getElem?_getD, List.getElem?_eq_getElem hk]; rfl
  rw [e2, List.getD_eq_getElem?_getD, List.getElem?_map, List.getElem?_eq_getElem hk]; rfl
 refine ⟨fun k hk => ?_, fun k v hk => ?_⟩
 · show wayO n r (nsN n _) (nwN n k) = _
   rw [nsN_at hi h, e k hk]; rfl
 · show Mov.mk (n.getD (nsN n _) nd0).st (n.getD (nwN n k) nd0).st v = _
   rw [nsN_at hi h, e k hk]
def plL : Option (Pla Mov) → List Mov
 | none => []
 | some q => q.l
theorem plan_nil {X : Nat → Prop} {G : Hp} {v : Value} (h : RowDen G true [.nilsl, .int .i64 0] v) : RowDen G true (pzF X ⟨[], 0⟩) v := by
 obtain ⟨vs, h1, h2, h3⟩ := h
 refine ⟨vs, h1, h2, fun i x u hx hu => ?_⟩
 match i, hx with
 | 0, hx =>
   have := h3 0 .nilsl u rfl hu
   cases this
   cases hx
   exact .frsnil _ _ _ _
 | 1, hx => cases hx; exact h3 1 _ u rfl hu
theorem pmR_one {X : Nat → Prop} (σ0 : List UInt8) : Res.le (.map false true [.str] [.nilsl, .int .i64 0] (fun q => keyEq q [.str σ0] || false) (fun q => bif keyEq q [.str σ0] then [.nilsl, .int .i64 0] else [.nilsl, .int .i64 0])) (pmR X fun τ => if τ = σ0 then some ⟨[], 0⟩ else none) := Res.le_mapW fun K hK => by
 obtain ⟨s, rfl⟩ := wk_str hK
 rw [keyEq_str]
 unfold pmH pmV
 show (decide (s = σ0) || false) = (if s = σ0 then some (⟨[], 0⟩ : Pla Mov) else none).isSome ∧ _ ∧ _
 by_cases q : s = σ0
 · rw [decide_eq_true q, if_pos q]
   refine ⟨rfl, fun _ G v h => ?_, fun h => (by cases h)⟩
   show RowDen G true (pzV X (if s = σ0 then some ⟨[], 0⟩ else none)) v
   rw [if_pos q]; exact plan_nil h
 · rw [decide_eq_false q, if_neg q]
   refine ⟨rfl, fun h => (by cases h), fun _ => ?_⟩
   show pzV X (if s = σ0 then some ⟨[], 0⟩ else none) = _
   rw [if_neg q]; rfl
theorem runPM_snoc (s : Stn Mov) (J : Nat) (E : List (List UInt8 × Pla Mov)) (e : List UInt8 × Pla Mov) (M : PMap Mov) : runPM mvC s J (E ++ [e]) M = sendM mvC s J 0 e.1 s.many e.2 (runPM mvC s J E M) := by
 unfold runPM; rw [List.foldl_append]; rfl
theorem wanS_succ (n : List Ned) (i : Nat) : wanS n (i + 1) = wanS n i ++ (if manyP n i < 0 then [(n.getD i nd0).st] else []) := by
 unfold wanS
 rw [filK_succ, List.map_append]
 congr 1
 unfold dstP
 by_cases h : manyP n i < 0
 · rw [if_pos h, if_pos (decide_eq_true h)]; rfl
 · rw [if_neg h, if_neg (by simpa using h)]; rfl
theorem byS_succ (n : List Ned) (i : Nat) : byS n (i + 1) = byS n i ++ (if manyP n i < 0 then [UInt8.ofNat (0 - manyP n i).toNat] else []) := by
 unfold byS
 rw [filK_succ, List.map_append]
 congr 1
 unfold dstP
 by_cases h : manyP n i < 0
 · rw [if_pos h, if_pos (decide_eq_true h)]; rfl
 · rw [if_neg h, if_neg (by simpa using h)]; rfl
theorem byS_len (n : List Ned) (i : Nat) : (byS n i).length = (wanS n i).length := by unfold byS wanS; rw [List.length_map, List.length_map]
theorem wanS_len (n : List Ned) (i : Nat) : (wanS n i).length ≤ i := by unfold wanS; rw [List.length_map]; exact filK_len _ _
structure NowI (n : List Ned) (r : List Roa) (i : Nat) (M : PMap Mov) : Prop where
 min : MinOf mvC M (Full (wanS n n.length).length (byS n n.length) (firstL (stnN n r) (filK (srcP n) i).length))
 bnd : bndM (wanS n n.length).length (i * (wanS n n.length).length) ((i : Int) * 20000000) M
theorem nowI_init (n : List Ned) (r : List Roa) : NowI n r 0 (fun τ => if τ = byS n n.length then some ⟨[], 0⟩ else none) := by
 refine ⟨now_init mvC mvC_ord _ _, fun σ q h => ?_⟩
 split at h
 · rename_i e
   cases h
   refine ⟨⟨by simp, fun m hm => by cases hm⟩, ⟨Int.le_refl _, by simp⟩, by rw [e]; exact byS_len _ _⟩
 · cases h
theorem NowI.skip {n : List Ned} {r : List Roa} {i : Nat} {M : PMap Mov} (h : NowI n r i M) (hp : ¬ 0 < manyP n i) : NowI n r (i + 1) M := by
 have e : filK (srcP n) (i + 1) = filK (srcP n) i := by
  rw [filK_succ, if_neg (by unfold srcP; simpa using hp), List.append_nil]
 refine ⟨by rw [e]; exact h.min, fun σ q hq => ?_⟩
 obtain ⟨⟨h1, h2⟩, h3, h4⟩ := h.bnd σ q hq
 have e2 : (i + 1) * (wanS n n.length).length = i * (wanS n n.length).length + (wanS n n.length).length := Nat.succ_mul _ _
 exact ⟨⟨by omega, h2⟩, ⟨h3.1, by omega⟩, h4⟩
theorem NowI.next {n : List Ned} {r : List Roa} {i : Nat} {M : PMap Mov} (h : NowI n r i M) (hi : i < n.length) (hp : 0 < manyP n i) (hp2 : manyP n i ≤ 20) (hr : rdsE r = 0) {E : List (List UInt8 × Pla Mov)} (hE : ∀ σ p, (σ, p) ∈ E ↔ M σ = some p) :
 NowI n r (i + 1) (runPM mvC (stnN n r (filK (srcP n) i).length) (wanS n n.length).length E fun _ => none) := by
 have hs : srcP n i = true := decide_eq_true hp
 have hns := nsN_at hi hs
 have hlen : (filK (srcP n) (i + 1)).length = (filK (srcP n) i).length + 1 := by rw [filK_succ, if_pos hs, List.length_append]; rfl
 refine ⟨?_, ?_⟩
 · rw [hlen]
   exact now_step (num := fun m : Mov => m.many) mvC_ord (fun s hs k v => by obtain ⟨j, _, rfl⟩ := firstL_mem hs; rfl) _ h.min hE
 · have e2 : (i + 1) * (wanS n n.length).length = i * (wanS n n.length).length + (wanS n n.length).length := Nat.succ_mul _ _
   have hmany : (stnN n r (filK (srcP n) i).length).many = manyP n i := by show manyP n (nsN n _) = _; rw [hns]
   have key : ∀ E' : List (List UInt8 × Pla Mov), (∀ e ∈ E', M e.1 = some e.2) → ∀ N, bndM (wanS n n.length).length ((i + 1) * (wanS n n.length).length) (((i + 1 : Nat) : Int) * 20000000) N → bndM (wanS n n.length).length ((i + 1) * (wanS n n.length).length) (((i + 1 : Nat) : Int) * 20000000) (runPM mvC (stnN n r (filK (srcP n) i).length) (wanS n n.length).length E' N) := by
    intro E'
    induction E' with
    | nil => intro _ N hN; exact hN
    | cons e E' ih =>
      intro hE' N hN
      obtain ⟨⟨h1, h2⟩, h3, h4⟩ := h.bnd _ _ (hE' e (by simp))
      show bndM _ _ _ (runPM mvC _ _ E' (sendM mvC _ _ 0 e.1 _ e.2 N))
      refine ih (fun e' he' => hE' e' (by simp [he'])) _ ?_
      rw [hmany]
      exact sendM_c (sndO_at hi hs) hr _ 0 _ _ _ _ (Nat.zero_add _) h4 ⟨by omega, h2⟩ ⟨by omega, hp2⟩ h3.1 (by omega) hN
   exact key E (fun e he => (hE e.1 e.2).1 he) _ (fun σ q hq => by cases hq)
theorem Entails.froSlot {s : St} (i d kk n : Nat) (g : Nat → List DV) (hi : s.tmps i = .buf d) (hd : s.res d = some (.fro kk n g)) :
 Entails s (s.app ⟨some i, .d (.ro kk n g), [], []⟩) := by
 refine ⟨fun A a w => ?_⟩
 rintro ⟨h0, G, β, h⟩
 refine ⟨h0, G, β, h.sz, h.g0, h.e0, h.gw, h.gn, h.keep, fun j => ?_, h.rs, h.dj, h.og, h.sc⟩
 simp only [St.app, putT_apply]
 by_cases e : i = j
 · subst e
   simp only [if_true]
   have ht := h.tm i
   rw [hi] at ht
   generalize a.tmps.getD i Go.undef = v at ht
   obtain ⟨u, hu, hro⟩ := h.rs _ _ hd
   cases ht with | buf _ _ hb _ =>
   rw [hb] at hu; cases hu
   exact .d _ _ hro
 · rw [if_neg (by simp [e])]
   exact h.tm j
theorem bytes_zero (J : Nat) {g : Nat → List DV} (hg : ∀ i, g i = [.int .u8 0]) : bytesOf ((J : Int).toNat) g (List.replicate J 0) := by
 refine ⟨by simp, fun i hi => ?_⟩
 have hi : i < J := by simpa using hi
 rw [hg, List.getD_eq_getElem?_getD, List.getElem?_replicate, if_pos hi]; rfl
set_option maxHeartbeats 16000000 in
theorem p35x (X : Nat → Prop) (n : List Ned) (r : List Roa) (hn : ndsE n = 0) (hr : rdsE r = 0) : FSpec Tryz.prog 35 [.d (neds n), .d (roas r)] [(1000007, .inX X)]
 (fun y q => (∃ o, (∃ M, NowI n r n.length M ∧ o = M (List.replicate (wanS n n.length).length 0)) ∧ y = .tup [.d (.frs 70 3 (plL o).length X (rowF mvF mv0 (plL o))), .d (.bool o.isSome)]) ∧ q = [(1000007, .inX X)]) := by
 have hl := (nds_all hn).1
 have hrl := (rds_all hr).1
 have hmn := ned_many hn
 refine spec_of hT (C := [18]) Tryz.func35 rfl Tryz.call35 rfl rfl rfl ?_
 conv => whnf
 repeat' (first | (refine br_intro ?_ ?_ <;> intro hb <;> (try simp only [brs] at hb) <;> conv => whnf) | omega | (refine And.intro ?_ ?_; ((try dsimp only); first | omega | (refine szA rfl ?_; omega) | (refine szB rfl ?_; omega) | (unfold inI64; omega) | exact rfl | (simp only [lns] at *; omega) | decide | (unfold inI64; decide)); conv => whnf) | decide | assumption)
 refine LoopX.rule hT (C := [18]) (ι := Nat) (fun i => i ≤ n.length) (fun i => mkSt [(0, .d (neds n)), (1, .d (roas r)), (6, .buf 601), (7, .buf 602), (19, .d (neds n)), (20, .d (.int .i64 n.length)), (21, .d (.int .i64 i))] [(1000007, .inX X), (601, seqB 9 1 sF [] (wanS n i)), (602, seqB 5 1 byteD 0 (byS n i))]) (fun i => n.length - i) 0 (by show 0 ≤ _; omega) ?_ ?_
 · refine (Entails.nil 6 601 9 1 (rowF sF [] []) rfl rfl (by decide)).trans ?_
   exact Entails.mk' [(1000007, 1000007), (601, 601), (602, 18)] rfl rfl ⟨lr, lr, lr, lr, lr, lr, lr, trivial⟩ ⟨rr, rr, Res.le_lit rfl rfl, trivial⟩
 rintro i hi
 have hi : i ≤ n.length := hi
 have e1 : (i : Int).toNat = i := Int.toNat_natCast i
 have hmi := hmn i
 unfold manyP at hmi
 rw [← e1] at hmi
 have hwl := wanS_len n i
 have hbl := byS_len n i
 rcases Nat.lt_or_ge i n.length with hin | hin
 · conv => whnf
   repeat' (first | (refine br_intro ?_ ?_ <;> intro hb <;> (try simp only [brs] at hb) <;> conv => whnf) | omega | (refine And.intro ?_ ?_; ((try dsimp only); first | omega | (refine szA rfl ?_; omega) | (refine szB rfl ?_; omega) | (unfold inI64; omega) | exact rfl | (simp only [lns] at *; omega) | decide | (unfold inI64; decide)); conv => whnf) | decide | assumption)
   all_goals try (exfalso; omega)
   · have hbm : manyP n i < 0 := hb
     refine ⟨i + 1, by omega, by omega, Entails.mk' [(1000007, 1000007), (601, 32), (602, 39)] rfl rfl ⟨lr, lr, lr, lr, lr, lr, lr, trivial⟩ ⟨rr, ?_, ?_, trivial⟩⟩
     · show Res.le _ (seqB 9 1 sF [] (wanS n (i + 1)))
       rw [wanS_succ, if_pos hbm]
       exact Res.le_snocF rfl
     · show Res.le _ (seqB 5 1 byteD 0 (byS n (i + 1)))
       rw [byS_succ, if_pos hbm]
       refine Res.le_snocF ?_
       have hv : IntKind.u8.wrap (0 - manyP n i) = ((UInt8.ofNat (0 - manyP n i).toNat).toNat : Int) := by
        have := hmn i
        rw [IntWalk.u8_in _ (by omega), UInt8.toNat_ofNat']; omega
       exact congrArg (fun z => [DV.int IntKind.u8 z]) hv
   · have hbm : ¬ manyP n i < 0 := by unfold manyP; omega
     refine ⟨i + 1, by omega, by omega, Entails.mk' [(1000007, 1000007), (601, 601), (602, 602)] rfl rfl ⟨lr, lr, lr, lr, lr, lr, lr, trivial⟩ ⟨rr, ?_, ?_, trivial⟩⟩
     · show Res.le _ (seqB 9 1 sF [] (wanS n (i + 1)))
       rw [wanS_succ, if_neg hbm, List.append_nil]; exact rr
     · show Res.le _ (seqB 5 1 byteD 0 (byS n (i + 1)))
       rw [byS_succ, if_neg hbm, List.append_nil]; exact rr
 · have hin : i = n.length := by omega
   rw [hin] at hwl hbl ⊢
   clear hmi
   conv => whnf
   repeat' (first | (refine ⟨byS n n.length, ⟨rfl, fun _ _ => rfl⟩, ?_⟩; conv => whnf) | (refine br_intro ?_ ?_ <;> intro hb <;> (try simp only [brs] at hb) <;> conv => whnf) | omega | (refine And.intro ?_ ?_; ((try dsimp only); first | omega | (refine szA rfl ?_; omega) | (refine szB rfl ?_; omega) | (unfold inI64; omega) | exact rfl | (simp only [lns] at *; omega) | decide | (unfold inI64; decide)); conv => whnf) | decide | assumption)
   all_goals try (exfalso; omega)
   refine LoopX.freeze 601 9 1 _ _ rfl ?_
   refine LoopX.rule hT (C := [18]) (ι := Nat × PMap Mov) (fun (i, M) => i ≤ n.length ∧ NowI n r i M) (fun (i, M) => mkSt [(1, .d (roas r)), (6, .d (strs (wanS n n.length))), (10, .mp 41), (46, .d (neds n)), (47, .d (.int .i64 n.length)), (48, .d (.int .i64 i))] [(1000007, .inX X), (41, pmR X M)]) (fun (i, _) => n.length - i) (0, fun τ => if τ = byS n n.length then some ⟨[], 0⟩ else none) ⟨by show 0 ≤ _; omega, nowI_init n r⟩ ?_ ?_
   · refine (Entails.froSlot 6 601 1 _ _ rfl rfl).trans ?_
     exact Entails.mk' [(1000007, 1000007), (41, 41)] rfl rfl ⟨lr, lr, lr, lr, lr, lr, trivial⟩ ⟨rr, pmR_one _, trivial⟩
   clear hin e1
   rintro ⟨i, M⟩ ⟨hi, hN⟩
   have hi : i ≤ n.length := hi
   have hN : NowI n r i M := hN
   have e1 : (i : Int).toNat = i := Int.toNat_natCast i
   have hmi := hmn i
   unfold manyP at hmi
   rw [← e1] at hmi
   rcases Nat.lt_or_ge i n.length with hin | hin
   · by_cases hpos : 0 < manyP n i
     · have hso := sndO_at (r := r) hin (decide_eq_true hpos)
       obtain ⟨s, hs⟩ : ∃ s, s = stnN n r (filK (srcP n) i).length := ⟨_, rfl⟩
       have hsm : s.many = (n.getD (i : Int).toNat nd0).many := by rw [hs, e1]; show manyP n (nsN n _) = _; rw [nsN_at hin (decide_eq_true hpos)]; rfl
       rw [← hs] at hso
       rw [← e1] at hso
       conv => whnf
       repeat' (first | (intro clock kb hkb; conv => whnf) | (refine br_intro ?_ ?_ <;> intro hb <;> (try simp only [brs] at hb) <;> conv => whnf) | omega | (refine And.intro ?_ ?_; ((try dsimp only); first | omega | (refine szA rfl ?_; omega) | (refine szB rfl ?_; omega) | (unfold inI64; omega) | exact rfl | (simp only [lns] at *; omega) | decide | (unfold inI64; decide)); conv => whnf) | decide | assumption)
       all_goals try (exfalso; unfold manyP at hpos; omega)
       refine LoopX.rule hT (C := [18]) (ι := List Nat × List (List UInt8 × Pla Mov)) (fun (seen, E) => (∀ e ∈ E, M e.1 = some e.2) ∧ (∀ σ b, ([DV.str σ], b) ∈ kb → b ∈ seen → ∃ p, (σ, p) ∈ E) ∧ mapB (runPM mvC s (wanS n n.length).length E fun _ => none))
        (fun (seen, E) => mkSt [(1, .d (roas r)), (6, .d (strs (wanS n n.length))), (12, .ptr 12 0), (13, .mp 55), (46, .d (neds n)), (47, .d (.int .i64 n.length)), (48, .d (.int .i64 i)), (57, .ptr 57 0)] [(1000007, .inX X), (41, .mapB false true [.str] [.nilsl, .int .i64 0] (pmH M) (pmV X M) clock kb), (55, pmR X (runPM mvC s (wanS n n.length).length E fun _ => none)), (57, .iter 41 clock seen), (12, .cells 58 ((ndF (n.getD (i : Int).toNat nd0)).map .d))])
        (fun (seen, _) => (kb.filter fun p => !seen.contains p.2).length) ([], []) ⟨(fun e he => by cases he), (fun σ b _ hb => by cases hb), (fun σ q hq => by cases hq)⟩ ?_ ?_
       · exact Entails.mk' [(1000007, 1000007), (41, 41), (55, 55), (57, 57), (12, 12)] rfl rfl ⟨lr, lr, lr, lr, lr, lr, lr, lr, trivial⟩ ⟨rr, rr, Res.le_map (fun _ _ => ⟨rfl, rfl⟩), rr, rr, trivial⟩
       rintro ⟨seen, E⟩ ⟨g1, g2, g3⟩
       have g1 : ∀ e ∈ E, M e.1 = some e.2 := g1
       have g2 : ∀ σ b, ([DV.str σ], b) ∈ kb → b ∈ seen → ∃ p, (σ, p) ∈ E := g2
       have g3 : mapB (runPM mvC s (wanS n n.length).length E fun _ => none) := g3
       conv => whnf
       repeat' (first | (refine br_intro ?_ ?_ <;> intro hb <;> (try simp only [brs] at hb) <;> conv => whnf) | omega | (refine And.intro ?_ ?_; ((try dsimp only); first | omega | (refine szA rfl ?_; omega) | (refine szB rfl ?_; omega) | (unfold inI64; omega) | exact rfl | (simp only [lns] at *; omega) | decide | (unfold inI64; decide)); conv => whnf) | decide | assumption)
       refine ⟨rfl, fun key b hkb1 hseen => ?_, fun hall => ?_⟩
       · obtain ⟨σ, rfl⟩ := wk_str (hkb.kw _ hkb1)
         have hhas : pmH M [.str σ] = true := (hkb.kh _ (hkb.kw _ hkb1)).2 ⟨_, hkb1⟩
         obtain ⟨p, hMp⟩ : ∃ p, M σ = some p := by
          have : (M σ).isSome = true := hhas
          cases h : M σ with
          | none => rw [h] at this; cases this
          | some p => exact ⟨p, rfl⟩
         have hv : pmV X M [.str σ] = pzF X p := by unfold pmV; rw [show M (keyS [.str σ]) = some p from hMp]; rfl
         obtain ⟨⟨b1, b2⟩, b3, b4⟩ := hN.bnd σ p hMp
         have hij : i * (wanS n n.length).length ≤ 10 * 10 := Nat.mul_le_mul (by omega) (by omega)
         have hroom : roomP p (n.getD (i : Int).toNat nd0).many (wanS n n.length).length := ⟨⟨by omega, b2⟩, ⟨by have : 0 < (n.getD i nd0).many := hpos; rw [e1]; omega, by omega⟩, b3.1, by omega⟩
         have h69 := p69 (X := X) hso hr (by omega) (wanS n n.length).length 0 σ (n.getD (i : Int).toNat nd0).many p (runPM mvC s (wanS n n.length).length E fun _ => none) (Nat.zero_add _) b4 hroom g3
         have hg3 : mapB (runPM mvC s (wanS n n.length).length (E ++ [(σ, p)]) fun _ => none) := by
          rw [runPM_snoc]
          refine sendM_b hso hr _ 0 _ _ _ _ (Nat.zero_add _) ?_ g3
          rw [hsm]; exact hroom
         conv => whnf
         repeat' (first | (rw [hv]; conv => whnf) | (refine ⟨rfl, _, hkb1, ?_⟩; conv => whnf) | (refine CallX.of h69 [(1000000, 55), (1000007, 1000007)] rfl ⟨lr, lr, lr, lr, lr, lr, lr, lr, trivial⟩ ⟨rr, rr, trivial⟩ rfl rfl ?_; rintro x' rout ⟨rfl, rfl⟩; refine ⟨rfl, ?_⟩; conv => whnf) | (refine br_intro ?_ ?_ <;> intro hb <;> (try simp only [brs] at hb) <;> conv => whnf) | omega | (refine And.intro ?_ ?_; ((try dsimp only); first | omega | (refine szA rfl ?_; omega) | (refine szB rfl ?_; omega) | (unfold inI64; omega) | exact rfl | (simp only [lns] at *; omega) | decide | (unfold inI64; decide)); conv => whnf) | decide | assumption)
         all_goals try (exfalso; omega)
         refine ⟨(b :: seen, E ++ [(σ, p)]), ⟨fun e he => ?_, fun τ b2' hk2 hb2 => ?_, hg3⟩, ?_, Entails.mk' [(1000007, 1000007), (41, 41), (55, 55), (57, 57), (12, 12)] rfl rfl ⟨lr, lr, lr, lr, lr, lr, lr, lr, trivial⟩ ⟨rr, rr, ?_, rr, rr, trivial⟩⟩
         · rcases List.mem_append.1 he with q | q
           · exact g1 e q
           · have : e = (σ, p) := by simpa using q
             rw [this]; exact hMp
         · rcases List.mem_cons.1 hb2 with q | q
           · have hst := KB_stamp hkb hk2 hkb1
             have : ([DV.str τ] : List DV) = [.str σ] := hst.1 q
             have : τ = σ := by simpa using this
             exact ⟨p, List.mem_append_right _ (by rw [this]; simp)⟩
           · obtain ⟨p', hp'⟩ := g2 τ b2' hk2 q
             exact ⟨p', List.mem_append_left _ hp'⟩
         · show (kb.filter fun p => !(b :: seen).contains p.2).length < (kb.filter fun p => !seen.contains p.2).length
           have e : kb.filter (fun p => !(b :: seen).contains p.2) = (kb.filter fun p => !seen.contains p.2).filter fun p => !(p.2 == b) := by
            rw [List.filter_filter]
            refine List.filter_congr fun p _ => ?_
            simp [List.contains_cons, Bool.and_comm]
            rfl
           rw [e]
           refine Nat.lt_of_le_of_ne (List.length_filter_le _ _) (fun q => ?_)
           have := (List.length_filter_eq_length_iff.1 q) ([.str σ], b) (List.mem_filter.2 ⟨hkb1, by simpa using hseen⟩)
           simp at this
         · show Res.le _ (pmR X (runPM mvC s (wanS n n.length).length (E ++ [(σ, p)]) fun _ => none))
           refine pmR_eq fun s' => ?_
           rw [runPM_snoc, hsm]
       · have hE : ∀ σ p, (σ, p) ∈ E ↔ M σ = some p := fun σ p => ⟨fun h => g1 _ h, fun h => by
          have hhas : pmH M [.str σ] = true := by unfold pmH; rw [show M (keyS [.str σ]) = some p from h]; rfl
          obtain ⟨b, hb⟩ := (hkb.kh [.str σ] (by simp [wk, wk1])).1 hhas
          obtain ⟨p', hp'⟩ := g2 σ b hb (hall _ hb)
          have := g1 _ hp'
          have h3 : M σ = some p' := this
          rw [h] at h3; cases h3; exact hp'⟩
         have hnx := hN.next hin hpos (by have := hmn i; omega) hr hE
         rw [← hs] at hnx
         conv => whnf
         repeat' (first | (refine br_intro ?_ ?_ <;> intro hb <;> (try simp only [brs] at hb) <;> conv => whnf) | omega | (refine And.intro ?_ ?_; ((try dsimp only); first | omega | (refine szA rfl ?_; omega) | (refine szB rfl ?_; omega) | (unfold inI64; omega) | exact rfl | (simp only [lns] at *; omega) | decide | (unfold inI64; decide)); conv => whnf) | decide | assumption)
         all_goals try (exfalso; omega)
         exact ⟨(i + 1, runPM mvC s (wanS n n.length).length E fun _ => none), ⟨by show i + 1 ≤ n.length; omega, hnx⟩, by show n.length - (i + 1) < n.length - i; omega, Entails.mk' [(1000007, 1000007), (41, 55)] rfl rfl ⟨lr, lr, lr, lr, lr, lr, trivial⟩ ⟨rr, rr, trivial⟩⟩
     · conv => whnf
       repeat' (first | (refine br_intro ?_ ?_ <;> intro hb <;> (try simp only [brs] at hb) <;> conv => whnf) | omega | (refine And.intro ?_ ?_; ((try dsimp only); first | omega | (refine szA rfl ?_; omega) | (refine szB rfl ?_; omega) | (unfold inI64; omega) | exact rfl | (simp only [lns] at *; omega) | decide | (unfold inI64; decide)); conv => whnf) | decide | assumption)
       all_goals try (exfalso; unfold manyP at hpos; omega)
       exact ⟨(i + 1, M), ⟨by show i + 1 ≤ n.length; omega, hN.skip hpos⟩, by show n.length - (i + 1) < n.length - i; omega, Entails.mk' [(1000007, 1000007), (41, 41)] rfl rfl ⟨lr, lr, lr, lr, lr, lr, trivial⟩ ⟨rr, rr, trivial⟩⟩
   · have hin : i = n.length := by omega
     subst hin
     have hZ : ∀ o, M (List.replicate (wanS n n.length).length 0) = o → pmV X M [.str (List.replicate (wanS n n.length).length 0)] = pzV X o ∧ pmH M [.str (List.replicate (wanS n n.length).length 0)] = o.isSome := fun o h => by
      unfold pmV pmH
      rw [show M (keyS [.str (List.replicate (wanS n n.length).length 0)]) = o from h]
      exact ⟨rfl, rfl⟩
     cases hMo : M (List.replicate (wanS n n.length).length 0) with
     | none =>
       obtain ⟨hv, hh⟩ := hZ _ hMo
       have hv : pmV X M [.str (List.replicate (wanS n n.length).length 0)] = [.nilsl, .int .i64 0] := hv
       have hh : pmH M [.str (List.replicate (wanS n n.length).length 0)] = false := hh
       conv => whnf
       repeat' (first | (refine And.intro (rfl : zrow _ = some [.nilsl, .int .i64 0]) ?_; conv => whnf) | (refine ⟨List.replicate (wanS n n.length).length 0, bytes_zero _ (fun _ => rfl), ?_⟩; conv => whnf) | (rw [hv, hh]; conv => whnf) | (refine br_intro ?_ ?_ <;> intro hb <;> (try simp only [brs] at hb) <;> conv => whnf) | omega | (refine And.intro ?_ ?_; ((try dsimp only); first | omega | (refine szA rfl ?_; omega) | (refine szB rfl ?_; omega) | (unfold inI64; omega) | exact rfl | (simp only [lns] at *; omega) | decide | (unfold inI64; decide)); conv => whnf) | decide | assumption)
       all_goals try (exfalso; omega)
       refine .weak _ ?_
       conv => whnf
       exact ⟨.tup [.d (frsM X []), .d (.bool false)], _, SV.le_tup ⟨SV.le_nilF, lr, trivial⟩, ⟨⟨none, ⟨M, hN, hMo.symm⟩, rfl⟩, rfl⟩, rr, trivial⟩
     | some q =>
       obtain ⟨hv, hh⟩ := hZ _ hMo
       have hv : pmV X M [.str (List.replicate (wanS n n.length).length 0)] = pzF X q := hv
       have hh : pmH M [.str (List.replicate (wanS n n.length).length 0)] = true := hh
       conv => whnf
       repeat' (first | (refine And.intro (rfl : zrow _ = some [.nilsl, .int .i64 0]) ?_; conv => whnf) | (refine ⟨List.replicate (wanS n n.length).length 0, bytes_zero _ (fun _ => rfl), ?_⟩; conv => whnf) | (rw [hv, hh]; conv => whnf) | (refine br_intro ?_ ?_ <;> intro hb <;> (try simp only [brs] at hb) <;> conv => whnf) | omega | (refine And.intro ?_ ?_; ((try dsimp only); first | omega | (refine szA rfl ?_; omega) | (refine szB rfl ?_; omega) | (unfold inI64; omega) | exact rfl | (simp only [lns] at *; omega) | decide | (unfold inI64; decide)); conv => whnf) | decide | assumption)
       all_goals try (exfalso; omega)
       refine .weak _ ?_
       conv => whnf
       exact ⟨.tup [.d (frsM X q.l), .d (.bool true)], _, SV.le_tup ⟨lr, lr, trivial⟩, ⟨⟨some q, ⟨M, hN, hMo.symm⟩, rfl⟩, rfl⟩, rr, trivial⟩
theorem p35 (n : List Ned) (r : List Roa) (hn : ndsE n = 0) (hr : rdsE r = 0) : FSpec Tryz.prog 35 [.d (neds n), .d (roas r)] []
 (fun y q => ∃ o, (∃ M, NowI n r n.length M ∧ o = M (List.replicate (wanS n n.length).length 0)) ∧ (((plL o).length = 0 ∧ y = .tup [.d (.ro 3 0 (rowF mvF mv0 (plL o))), .d (.bool o.isSome)] ∧ q = []) ∨ (0 < (plL o).length ∧ y = .tup [.buf 7, .d (.bool o.isSome)] ∧ q = [(7, .buf 70 3 (plL o).length (rowF mvF mv0 (plL o)))]))) :=
 FSpec.thaw (S := fun o => ∃ M, NowI n r n.length M ∧ o = M (List.replicate (wanS n n.length).length 0)) (N := fun o => (plL o).length) (Gt := fun o => rowF mvF mv0 (plL o)) (B := fun o => o.isSome) (by decide) (fun X => p35x X n r hn hr) fun o _ i j x _ hx => by
  unfold rowF mvF at hx
  match j, hx with
  | 0, hx => cases hx; rfl
  | 1, hx => cases hx; rfl
  | 2, hx => cases hx; rfl
theorem pof_best {n : List Ned} {r : List Roa} {M : PMap Mov} (hn : ndsE n = 0) (hr : rdsE r = 0) (h : NowI n r n.length M) :
 match M (List.replicate (wanS n n.length).length 0) with
 | none => ∀ x, ¬ (nwG n r).Fl (kindB n) (getI (havL n)) (getI (wntL n)) x
 | some q => ∃ x, (nwG n r).Best (kindB n) (getI (havL n)) (getI (wntL n)) q.cost x ∧ q.l = lsV (mvN n r) (nwG n r).K 0 x := by
 have hJ : (wanS n n.length).length = (dstL n).length := by unfold wanS; rw [List.length_map]; rfl
 have hS : (filK (srcP n) n.length).length = (srcL n).length := rfl
 have hnow := h.min
 rw [hJ, hS] at hnow
 rw [hJ]
 have z1 : ∀ i, i < (srcL n).length → 0 ≤ (stnN n r i).many := fun i hi => by
  have := (srcL_at hi).2
  show 0 ≤ manyP n (nsN n i); omega
 have z2 : (byS n n.length).length = (dstL n).length := by
  rw [byS_len, hJ]
 have z3 : ∀ i, i < (srcL n).length → getI (havL n) (nsN n i) = (stnN n r i).many := fun i hi => by
  have := srcL_at hi
  rw [getI_hav this.1]
  show havF n (nsN n i) = manyP n (nsN n i)
  unfold havF; omega
 have z4 : ∀ v, v < (nwG n r).N → kindB n v = true → (∀ j, j < (srcL n).length → v ≠ nsN n j) → 0 ≤ getI (havL n) v := fun v hv _ _ => by
  rw [getI_hav hv]; exact (havF_bd hn v).1.1
 have z5 : ∀ k, k < (dstL n).length → getI (wntL n) (nwN n k) = (((byS n n.length).getD k 0).toNat : Int) := fun k hk => by
  have h1 := dstL_at hk
  rw [getI_wnt h1.1]
  have h2 := ned_many hn (nwN n k)
  have h3 : (byS n n.length).getD k 0 = UInt8.ofNat (0 - manyP n (nwN n k)).toNat := by
   have e2 : (dstL n).getD k 0 = (dstL n)[k] := by rw [List.getD_eq_getElem?_getD, List.getElem?_eq_getElem hk]; rfl
   unfold byS nwN
   rw [e2, List.getD_eq_getElem?_getD, List.getElem?_map, show filK (dstP n) n.length = dstL n from rfl, List.getElem?_eq_getElem hk]; rfl
  rw [h3, UInt8.toNat_ofNat']
  unfold wntF; omega
 have z6 : ∀ a b u v, a < b → b < (nwG n r).K → mvC (mvN n r a u) (mvN n r b v) < 0 := fun a b u v hab hb => by
  have h1 := nwG_inc (n := n) (r := r) hab hb
  refine mvC_ends ?_
  rcases h1 with q | ⟨q1, q2⟩
  · exact .inl (nds_inc hn q (arL_mem (nwG_at hb)).1.1)
  · exact .inr ⟨by rw [q1], nds_inc hn q2 (arL_mem (nwG_at hb)).2.1.1⟩
 have key := planOf_best (h := getI (havL n)) (w := getI (wntL n)) mvC_ord (num := fun m : Mov => m.many) (nwG_bip n r) (layN n r) (posN_zero n r) z1 z2 z3 z4 z5 (fun _ _ => rfl) (fun _ _ _ => rfl) (fun a u v huv => mvC_many huv) z6 hnow
 cases hM : M (List.replicate (dstL n).length 0) with
 | none => rw [hM] at key; exact key
 | some q => rw [hM] at key; exact key
theorem s221_0 : FSpec Tryz.prog 108 [.d (.int .u64 0)] [] (fun y r => (∃ m : Int, y = .d (.int .i64 m)) ∧ r = []) := by
 refine spec_of hT (C := []) Tryz.func108 rfl Tryz.call108 rfl rfl rfl ?_
 conv => whnf
 repeat' (first | (refine br_intro ?_ ?_ <;> intro hb <;> (try simp only [brs] at hb) <;> conv => whnf) | omega | (refine And.intro ?_ ?_; ((try dsimp only); first | omega | (refine szA rfl ?_; omega) | (refine szB rfl ?_; omega) | (unfold inI64; omega) | exact rfl | (simp only [lns] at *; omega) | decide | (unfold inI64; decide)); conv => whnf) | decide | assumption)
 refine .ret _ ?_
 conv => whnf
 exact ⟨[], ⟨⟨_, rfl⟩, rfl⟩, trivial⟩
theorem s221_1 : FSpec Tryz.prog 108 [.d (.int .u64 1)] [] (fun y r => (∃ m : Int, y = .d (.int .i64 m)) ∧ r = []) := by
 refine spec_of hT (C := []) Tryz.func108 rfl Tryz.call108 rfl rfl rfl ?_
 conv => whnf
 repeat' (first | (refine br_intro ?_ ?_ <;> intro hb <;> (try simp only [brs] at hb) <;> conv => whnf) | omega | (refine And.intro ?_ ?_; ((try dsimp only); first | omega | (refine szA rfl ?_; omega) | (refine szB rfl ?_; omega) | (unfold inI64; omega) | exact rfl | (simp only [lns] at *; omega) | decide | (unfold inI64; decide)); conv => whnf) | decide | assumption)
 refine .ret _ ?_
 conv => whnf
 exact ⟨[], ⟨⟨_, rfl⟩, rfl⟩, trivial⟩
theorem s221_2 : FSpec Tryz.prog 108 [.d (.int .u64 2)] [] (fun y r => (∃ m : Int, y = .d (.int .i64 m)) ∧ r = []) := by
 refine spec_of hT (C := []) Tryz.func108 rfl Tryz.call108 rfl rfl rfl ?_
 conv => whnf
 repeat' (first | (refine br_intro ?_ ?_ <;> intro hb <;> (try simp only [brs] at hb) <;> conv => whnf) | omega | (refine And.intro ?_ ?_; ((try dsimp only); first | omega | (refine szA rfl ?_; omega) | (refine szB rfl ?_; omega) | (unfold inI64; omega) | exact rfl | (simp only [lns] at *; omega) | decide | (unfold inI64; decide)); conv => whnf) | decide | assumption)
 refine .ret _ ?_
 conv => whnf
 exact ⟨[], ⟨⟨_, rfl⟩, rfl⟩, trivial⟩
theorem s221_3 : FSpec Tryz.prog 108 [.d (.int .u64 3)] [] (fun y r => (∃ m : Int, y = .d (.int .i64 m)) ∧ r = []) := by
 refine spec_of hT (C := []) Tryz.func108 rfl Tryz.call108 rfl rfl rfl ?_
 conv => whnf
 repeat' (first | (refine br_intro ?_ ?_ <;> intro hb <;> (try simp only [brs] at hb) <;> conv => whnf) | omega | (refine And.intro ?_ ?_; ((try dsimp only); first | omega | (refine szA rfl ?_; omega) | (refine szB rfl ?_; omega) | (unfold inI64; omega) | exact rfl | (simp only [lns] at *; omega) | decide | (unfold inI64; decide)); conv => whnf) | decide | assumption)
 refine .ret _ ?_
 conv => whnf
 exact ⟨[], ⟨⟨_, rfl⟩, rfl⟩, trivial⟩
theorem s221_4 : FSpec Tryz.prog 108 [.d (.int .u64 4)] [] (fun y r => (∃ m : Int, y = .d (.int .i64 m)) ∧ r = []) := by
 refine spec_of hT (C := []) Tryz.func108 rfl Tryz.call108 rfl rfl rfl ?_
 conv => whnf
 repeat' (first | (refine br_intro ?_ ?_ <;> intro hb <;> (try simp only [brs] at hb) <;> conv => whnf) | omega | (refine And.intro ?_ ?_; ((try dsimp only); first | omega | (refine szA rfl ?_; omega) | (refine szB rfl ?_; omega) | (unfold inI64; omega) | exact rfl | (simp only [lns] at *; omega) | decide | (unfold inI64; decide)); conv => whnf) | decide | assumption)
 refine .ret _ ?_
 conv => whnf
 exact ⟨[], ⟨⟨_, rfl⟩, rfl⟩, trivial⟩
theorem s221_5 : FSpec Tryz.prog 108 [.d (.int .u64 5)] [] (fun y r => (∃ m : Int, y = .d (.int .i64 m)) ∧ r = []) := by
 refine spec_of hT (C := []) Tryz.func108 rfl Tryz.call108 rfl rfl rfl ?_
 conv => whnf
 repeat' (first | (refine br_intro ?_ ?_ <;> intro hb <;> (try simp only [brs] at hb) <;> conv => whnf) | omega | (refine And.intro ?_ ?_; ((try dsimp only); first | omega | (refine szA rfl ?_; omega) | (refine szB rfl ?_; omega) | (unfold inI64; omega) | exact rfl | (simp only [lns] at *; omega) | decide | (unfold inI64; decide)); conv => whnf) | decide | assumption)
 refine .ret _ ?_
 conv => whnf
 exact ⟨[], ⟨⟨_, rfl⟩, rfl⟩, trivial⟩
theorem s221_6 : FSpec Tryz.prog 108 [.d (.int .u64 6)] [] (fun y r => (∃ m : Int, y = .d (.int .i64 m)) ∧ r = []) := by
 refine spec_of hT (C := []) Tryz.func108 rfl Tryz.call108 rfl rfl rfl ?_
 conv => whnf
 repeat' (first | (refine br_intro ?_ ?_ <;> intro hb <;> (try simp only [brs] at hb) <;> conv => whnf) | omega | (refine And.intro ?_ ?_; ((try dsimp only); first | omega | (refine szA rfl ?_; omega) | (refine szB rfl ?_; omega) | (unfold inI64; omega) | exact rfl | (simp only [lns] at *; omega) | decide | (unfold inI64; decide)); conv => whnf) | decide | assumption)
 refine .ret _ ?_
 conv => whnf
 exact ⟨[], ⟨⟨_, rfl⟩, rfl⟩, trivial⟩
theorem s221_7 : FSpec Tryz.prog 108 [.d (.int .u64 7)] [] (fun y r => (∃ m : Int, y = .d (.int .i64 m)) ∧ r = []) := by
 refine spec_of hT (C := []) Tryz.func108 rfl Tryz.call108 rfl rfl rfl ?_
 conv => whnf
 repeat' (first | (refine br_intro ?_ ?_ <;> intro hb <;> (try simp only [brs] at hb) <;> conv => whnf) | omega | (refine And.intro ?_ ?_; ((try dsimp only); first | omega | (refine szA rfl ?_; omega) | (refine szB rfl ?_; omega) | (unfold inI64; omega) | exact rfl | (simp only [lns] at *; omega) | decide | (unfold inI64; decide)); conv => whnf) | decide | assumption)
 refine .ret _ ?_
 conv => whnf
 exact ⟨[], ⟨⟨_, rfl⟩, rfl⟩, trivial⟩
theorem s221_8 : FSpec Tryz.prog 108 [.d (.int .u64 8)] [] (fun y r => (∃ m : Int, y = .d (.int .i64 m)) ∧ r = []) := by
 refine spec_of hT (C := []) Tryz.func108 rfl Tryz.call108 rfl rfl rfl ?_
 conv => whnf
 repeat' (first | (refine br_intro ?_ ?_ <;> intro hb <;> (try simp only [brs] at hb) <;> conv => whnf) | omega | (refine And.intro ?_ ?_; ((try dsimp only); first | omega | (refine szA rfl ?_; omega) | (refine szB rfl ?_; omega) | (unfold inI64; omega) | exact rfl | (simp only [lns] at *; omega) | decide | (unfold inI64; decide)); conv => whnf) | decide | assumption)
 refine .ret _ ?_
 conv => whnf
 exact ⟨[], ⟨⟨_, rfl⟩, rfl⟩, trivial⟩
theorem s221_9 : FSpec Tryz.prog 108 [.d (.int .u64 9)] [] (fun y r => (∃ m : Int, y = .d (.int .i64 m)) ∧ r = []) := by
 refine spec_of hT (C := []) Tryz.func108 rfl Tryz.call108 rfl rfl rfl ?_
 conv => whnf
 repeat' (first | (refine br_intro ?_ ?_ <;> intro hb <;> (try simp only [brs] at hb) <;> conv => whnf) | omega | (refine And.intro ?_ ?_; ((try dsimp only); first | omega | (refine szA rfl ?_; omega) | (refine szB rfl ?_; omega) | (unfold inI64; omega) | exact rfl | (simp only [lns] at *; omega) | decide | (unfold inI64; decide)); conv => whnf) | decide | assumption)
 refine .ret _ ?_
 conv => whnf
 exact ⟨[], ⟨⟨_, rfl⟩, rfl⟩, trivial⟩
theorem s221_10 : FSpec Tryz.prog 108 [.d (.int .u64 10)] [] (fun y r => (∃ m : Int, y = .d (.int .i64 m)) ∧ r = []) := by
 refine spec_of hT (C := []) Tryz.func108 rfl Tryz.call108 rfl rfl rfl ?_
 conv => whnf
 repeat' (first | (refine br_intro ?_ ?_ <;> intro hb <;> (try simp only [brs] at hb) <;> conv => whnf) | omega | (refine And.intro ?_ ?_; ((try dsimp only); first | omega | (refine szA rfl ?_; omega) | (refine szB rfl ?_; omega) | (unfold inI64; omega) | exact rfl | (simp only [lns] at *; omega) | decide | (unfold inI64; decide)); conv => whnf) | decide | assumption)
 refine .ret _ ?_
 conv => whnf
 exact ⟨[], ⟨⟨_, rfl⟩, rfl⟩, trivial⟩
theorem s221_11 : FSpec Tryz.prog 108 [.d (.int .u64 11)] [] (fun y r => (∃ m : Int, y = .d (.int .i64 m)) ∧ r = []) := by
 refine spec_of hT (C := []) Tryz.func108 rfl Tryz.call108 rfl rfl rfl ?_
 conv => whnf
 repeat' (first | (refine br_intro ?_ ?_ <;> intro hb <;> (try simp only [brs] at hb) <;> conv => whnf) | omega | (refine And.intro ?_ ?_; ((try dsimp only); first | omega | (refine szA rfl ?_; omega) | (refine szB rfl ?_; omega) | (unfold inI64; omega) | exact rfl | (simp only [lns] at *; omega) | decide | (unfold inI64; decide)); conv => whnf) | decide | assumption)
 refine .ret _ ?_
 conv => whnf
 exact ⟨[], ⟨⟨_, rfl⟩, rfl⟩, trivial⟩
theorem s221_12 : FSpec Tryz.prog 108 [.d (.int .u64 12)] [] (fun y r => (∃ m : Int, y = .d (.int .i64 m)) ∧ r = []) := by
 refine spec_of hT (C := []) Tryz.func108 rfl Tryz.call108 rfl rfl rfl ?_
 conv => whnf
 repeat' (first | (refine br_intro ?_ ?_ <;> intro hb <;> (try simp only [brs] at hb) <;> conv => whnf) | omega | (refine And.intro ?_ ?_; ((try dsimp only); first | omega | (refine szA rfl ?_; omega) | (refine szB rfl ?_; omega) | (unfold inI64; omega) | exact rfl | (simp only [lns] at *; omega) | decide | (unfold inI64; decide)); conv => whnf) | decide | assumption)
 refine .ret _ ?_
 conv => whnf
 exact ⟨[], ⟨⟨_, rfl⟩, rfl⟩, trivial⟩
theorem s221 (n : Nat) (hn : n ≤ 12) : FSpec Tryz.prog 108 [.d (.int .u64 n)] [] (fun y r => (∃ m : Int, y = .d (.int .i64 m)) ∧ r = []) := by
 match n, hn with
 | 0, _ => exact s221_0
 | 1, _ => exact s221_1
 | 2, _ => exact s221_2
 | 3, _ => exact s221_3
 | 4, _ => exact s221_4
 | 5, _ => exact s221_5
 | 6, _ => exact s221_6
 | 7, _ => exact s221_7
 | 8, _ => exact s221_8
 | 9, _ => exact s221_9
 | 10, _ => exact s221_10
 | 11, _ => exact s221_11
 | 12, _ => exact s221_12
 | n + 13, h => omega
theorem wrap_u64 (n : Nat) (hn : n ≤ 12) : IntKind.u64.wrap n = n := by
 match n, hn with
 | 0, _ | 1, _ | 2, _ | 3, _ | 4, _ | 5, _ | 6, _ | 7, _ | 8, _ | 9, _ | 10, _ | 11, _ | 12, _ => decide
 | n + 13, h => omega
theorem sBitsLen (n : Nat) (hn : n ≤ 12) : FSpec Tryz.prog 71 [.d (.int .u64 (IntKind.u64.wrap n))] [] (fun y r => (∃ m : Int, y = .d (.int .i64 m)) ∧ r = []) := by
 rw [wrap_u64 n hn]
 refine spec_of hT (C := []) Tryz.func71 rfl Tryz.call71 rfl rfl rfl ?_
 conv => whnf
 repeat' (first | (refine br_intro ?_ ?_ <;> intro hb <;> (try simp only [brs] at hb) <;> conv => whnf) | omega | (refine And.intro ?_ ?_; ((try dsimp only); first | omega | (refine szA rfl ?_; omega) | (refine szB rfl ?_; omega) | (unfold inI64; omega) | exact rfl | (simp only [lns] at *; omega) | decide | (unfold inI64; decide)); conv => whnf) | decide | assumption)
 refine CallX.of (s221 n hn) [] rfl ⟨lr, trivial⟩ trivial rfl rfl ?_
 rintro x rout ⟨⟨m, rfl⟩, rfl⟩
 refine ⟨rfl, ?_⟩
 conv => whnf
 refine .ret _ ?_
 conv => whnf
 exact ⟨[], ⟨⟨_, rfl⟩, rfl⟩, trivial⟩
structure Prg where
 a : Int
 b : Int
theorem prg_eq {a b : Prg} : a = b ↔ a.a = b.a ∧ a.b = b.b := by cases a; cases b; simp
instance : DecidableEq Prg := fun _ _ => decidable_of_iff _ prg_eq.symm
abbrev MSt := List Prg × Int
structure mOk (a b : List Mrk) (m : MSt) : Prop where
 ins : ∀ p ∈ m.1, ∃ i k : Nat, p = ⟨i, k⟩ ∧ i < a.length ∧ k < b.length
 sum : 0 ≤ m.2 ∧ m.2 ≤ 100000000 * m.1.length
def oVMvB99_4 : List (Nat × List Nat) := [(0, []), (1, [0]), (2, []), (3, []), (4, []), (5, [4]), (6, [4, 5]), (7, [4]), (8, [4]), (9, [4, 5, 6, 7, 8]), (10, [4, 5, 6, 7, 8, 9]), (11, [4, 5, 6, 7, 8, 9]), (12, [4, 5, 6, 7, 8]), (13, [4, 5, 6, 7, 8]), (14, []), (15, []), (16, [])]
def oVMvB99_6 : List (Nat × List Nat) := [(0, []), (1, [0]), (2, [0, 1]), (3, [0, 1, 2]), (4, [0, 1, 2]), (5, [0, 1, 2, 3, 4]), (6, [0, 1, 2, 3, 4, 5]), (7, [0, 1, 2, 3, 4, 5]), (8, [0, 1, 2, 3, 4]), (9, [0, 1, 2, 3, 4]), (10, [0, 1, 2, 3, 4, 5, 6, 7, 8, 9]), (11, [0, 1, 2, 3, 4, 5, 6, 7, 8, 9, 10]), (12, [0, 1, 2, 3, 4, 5, 6, 7, 8, 9]), (13, [0, 1, 2, 3, 4, 5, 6, 7, 8, 9]), (14, [2, 3, 4]), (15, [2, 3, 4]), (16, []), (17, [])]
def oVMvB70_17 : List (Nat × List Nat) := [(0, []), (1, []), (2, []), (3, []), (4, [3]), (5, [3, 4]), (6, [3, 4]), (7, [3]), (8, [3]), (9, [3, 4, 5, 6, 7, 8]), (10, [3, 4, 5, 6, 7, 8, 9]), (11, [3, 4, 5, 6, 7, 8]), (12, [3, 4, 5, 6, 7, 8]), (13, []), (14, []), (15, []), (16, [])]
def oVMvB39_6 : List (Nat × List Nat) := [(0, []), (1, [0]), (2, [0, 1]), (3, [0]), (4, [0]), (5, [0, 1, 2, 3, 4]), (6, [0, 1, 2, 3, 4, 5]), (7, [0, 1, 2, 3, 4, 5]), (8, [0, 1, 2, 3, 4]), (9, [0, 1, 2, 3, 4]), (10, [])]
def oVMvB39_11 : List (Nat × List Nat) := [(0, []), (1, [0]), (2, [0, 1]), (3, [0]), (4, [0]), (5, [0, 1, 2, 3, 4]), (6, [0, 1, 2, 3, 4, 5]), (7, [0, 1, 2, 3, 4, 5]), (8, [0, 1, 2, 3, 4]), (9, [0, 1, 2, 3, 4]), (10, []), (11, [])]
abbrev mvB (l : List Mov) : Res := seqB 70 3 mvF mv0 l
theorem z249 (g : FuncId) (cmp : Mov → Mov → Int) (l : List Mov) (hl : l.length ≤ 2^40)
 (hcmp : ∀ p q, p ∈ l → q ∈ l → FSpec Tryz.prog g [.agg ((mvF p).map .d), .agg ((mvF q).map .d)] [] (fun y r => y = .d (.int .i64 (cmp p q)) ∧ r = [])) :
 FSpec Tryz.prog 99 [.buf 1000001, .d (.int .i64 0), .d (.int .i64 l.length), .fn g []] [(1000001, seqB 70 3 mvF mv0 l)]
  (fun y r => y = .tup [] ∧ ∃ c, sameL l c ∧ r = [(1000001, seqB 70 3 mvF mv0 c)]) := by
 refine spec_of hT (C := []) Tryz.func99 rfl Tryz.call99 rfl rfl rfl ?_
 conv => whnf
 repeat' (first | (refine br_intro ?_ ?_ <;> intro hb <;> (try simp only [brs] at hb) <;> conv => whnf) | (refine RegX.rule (id := 4) hT rfl [] oVMvB99_4 (by decide +kernel) ?_; conv => whnf) | (refine RegX.rule (id := 6) hT rfl [] oVMvB99_6 (by decide +kernel) ?_; conv => whnf) | omega | (refine And.intro ?_ ?_; ((try dsimp only); first | omega | (refine szA rfl ?_; omega) | (refine szB rfl ?_; omega) | (unfold inI64; omega) | exact rfl | (simp only [lns] at *; omega) | decide | (unfold inI64; decide)); conv => whnf) | decide | assumption)
 refine LoopX.rule hT (C := []) (ι := Nat × List Mov) (fun (i, c) => 1 ≤ i ∧ (i ≤ l.length ∨ i = 1) ∧ sameL l c)
  (fun (i, c) => mkSt [(0, .buf 1000001), (1, .d (.int .i64 0)), (2, .d (.int .i64 l.length)), (3, .fn g []), (8, .d (.int .i64 i))] [(1000001, seqB 70 3 mvF mv0 c)])
  (fun (i, _) => l.length - i) (1, l) ⟨by simp, by simp, rfl, fun x h => h⟩ (by (refine Entails.mk' [(1000001, 1000001)] rfl rfl ?_ ?_ <;> repeat' (first | exact True.intro | exact lr | exact rr | exact SV.le_int (by omega) | exact SV.le_any _ | refine And.intro ?_ ?_)); done) ?_
 rintro ⟨i, c⟩ ⟨p1, p2, p3⟩
 have hc0 := p3.1
 conv => whnf
 repeat' (first | (refine br_intro ?_ ?_ <;> intro hb <;> (try simp only [brs] at hb) <;> conv => whnf) | (refine RegX.rule (id := 4) hT rfl [] oVMvB99_4 (by decide +kernel) ?_; conv => whnf) | (refine RegX.rule (id := 6) hT rfl [] oVMvB99_6 (by decide +kernel) ?_; conv => whnf) | omega | (refine And.intro ?_ ?_; ((try dsimp only); first | omega | (refine szA rfl ?_; omega) | (refine szB rfl ?_; omega) | (unfold inI64; omega) | exact rfl | (simp only [lns] at *; omega) | decide | (unfold inI64; decide)); conv => whnf) | decide | assumption)
 · refine LoopX.rule hT (C := []) (ι := Nat × List Mov) (fun (j, c) => j ≤ i ∧ sameL l c)
    (fun (j, c) => mkSt [(0, .buf 1000001), (1, .d (.int .i64 0)), (2, .d (.int .i64 l.length)), (3, .fn g []), (8, .d (.int .i64 i)), (9, .d (.int .i64 j))] [(1000001, seqB 70 3 mvF mv0 c)])
    (fun (j, _) => j) (i, c) ⟨Nat.le_refl _, p3⟩ (by (refine Entails.mk' [(1000001, 1000001)] rfl rfl ?_ ?_ <;> repeat' (first | exact True.intro | exact lr | exact rr | exact SV.le_int (by omega) | exact SV.le_any _ | refine And.intro ?_ ?_)); done) ?_
   rintro ⟨j, b⟩ ⟨q1, q3⟩
   have hb0 := q3.1
   conv => whnf
   repeat' (first | (refine br_intro ?_ ?_ <;> intro hb <;> (try simp only [brs] at hb) <;> conv => whnf) | (refine RegX.rule (id := 4) hT rfl [] oVMvB99_4 (by decide +kernel) ?_; conv => whnf) | (refine RegX.rule (id := 6) hT rfl [] oVMvB99_6 (by decide +kernel) ?_; conv => whnf) | omega | (refine And.intro ?_ ?_; ((try dsimp only); first | omega | (refine szA rfl ?_; omega) | (refine szB rfl ?_; omega) | (unfold inI64; omega) | exact rfl | (simp only [lns] at *; omega) | decide | (unfold inI64; decide)); conv => whnf) | decide | assumption)
   · refine CallX.of (hcmp (b.getD (j : Int).toNat mv0) (b.getD ((j : Int) - 1).toNat mv0) (q3.2 _ (getD_mem (by omega))) (q3.2 _ (getD_mem (by omega)))) [] rfl ⟨lr, lr, trivial⟩ trivial rfl rfl ?_
     rintro x rout ⟨rfl, rfl⟩
     refine ⟨rfl, ?_⟩
     conv => whnf
     repeat' (first | (refine br_intro ?_ ?_ <;> intro hb <;> (try simp only [brs] at hb) <;> conv => whnf) | (refine RegX.rule (id := 4) hT rfl [] oVMvB99_4 (by decide +kernel) ?_; conv => whnf) | (refine RegX.rule (id := 6) hT rfl [] oVMvB99_6 (by decide +kernel) ?_; conv => whnf) | omega | (refine And.intro ?_ ?_; ((try dsimp only); first | omega | (refine szA rfl ?_; omega) | (refine szB rfl ?_; omega) | (unfold inI64; omega) | exact rfl | (simp only [lns] at *; omega) | decide | (unfold inI64; decide)); conv => whnf) | decide | assumption)
     · refine ⟨(j - 1, _), ⟨by omega, sameL_set (sameL_set q3 (q3.2 _ (getD_mem (i := ((j : Int) - 1).toNat) (x := mv0) (by omega)))) (q3.2 _ (getD_mem (i := (j : Int).toNat) (x := mv0) (by omega)))⟩, by show j - 1 < j; omega, Entails.mk' [(1000001, 1000001)] rfl rfl ⟨lr, lr, lr, lr, lr, SV.le_int (by omega), trivial⟩ ⟨Res.le_put2 (fun _ => rfl) (fun _ => rfl), trivial⟩⟩
     · exact ⟨(i + 1, b), ⟨by omega, by omega, q3⟩, by show l.length - (i + 1) < l.length - i; omega, (by (refine Entails.mk' [(1000001, 1000001)] rfl rfl ?_ ?_ <;> repeat' (first | exact True.intro | exact lr | exact rr | exact SV.le_int (by omega) | exact SV.le_any _ | refine And.intro ?_ ?_)); done)⟩
   · exact ⟨(i + 1, b), ⟨by omega, by omega, q3⟩, by show l.length - (i + 1) < l.length - i; omega, (by (refine Entails.mk' [(1000001, 1000001)] rfl rfl ?_ ?_ <;> repeat' (first | exact True.intro | exact lr | exact rr | exact SV.le_int (by omega) | exact SV.le_any _ | refine And.intro ?_ ?_)); done)⟩
 · refine .ret _ ?_
   conv => whnf
   exact ⟨_, ⟨rfl, c, p3, rfl⟩, rr, trivial⟩
theorem z200 (g : FuncId) (cmp : Mov → Mov → Int) (l : List Mov) (hl : l.length ≤ 12) (lim : Int)
 (hcmp : ∀ p q, p ∈ l → q ∈ l → FSpec Tryz.prog g [.agg ((mvF p).map .d), .agg ((mvF q).map .d)] [] (fun y r => y = .d (.int .i64 (cmp p q)) ∧ r = [])) :
 FSpec Tryz.prog 70 [.buf 1000001, .d (.int .i64 0), .d (.int .i64 l.length), .d (.int .i64 lim), .fn g []] [(1000001, seqB 70 3 mvF mv0 l)]
  (fun y r => y = .tup [] ∧ ∃ c, sameL l c ∧ r = [(1000001, seqB 70 3 mvF mv0 c)]) := by
 refine spec_of hT (C := []) Tryz.func70 rfl Tryz.call70 rfl rfl rfl ?_
 conv => whnf
 refine LoopX.unroll hT (C := []) (fun _ _ h => h) (fun _ h => h) ?_
 conv => whnf
 repeat' (first | (refine br_intro ?_ ?_ <;> intro hb <;> (try simp only [brs] at hb) <;> conv => whnf) | (refine RegX.rule (id := 17) hT rfl [] oVMvB70_17 (by decide +kernel) ?_; conv => whnf) | omega | (refine And.intro ?_ ?_; ((try dsimp only); first | omega | (refine szA rfl ?_; omega) | (refine szB rfl ?_; omega) | (unfold inI64; omega) | exact rfl | (simp only [lns] at *; omega) | decide | (unfold inI64; decide)); conv => whnf) | decide | assumption)
 refine CallX.of (z249 g cmp l (by omega) hcmp) [(1000001, 1000001)] rfl ⟨lr, lr, lr, lr, trivial⟩ ⟨rr, trivial⟩ rfl rfl ?_
 rintro x rout ⟨rfl, c, hc, rfl⟩
 refine ⟨rfl, ?_⟩
 conv => whnf
 refine .ret _ ?_
 conv => whnf
 exact ⟨_, ⟨rfl, c, hc, rfl⟩, rr, trivial⟩
theorem z99 (g : FuncId) (cmp : Mov → Mov → Int) (l : List Mov) (hl : l.length ≤ 12)
 (hcmp : ∀ p q, p ∈ l → q ∈ l → FSpec Tryz.prog g [.agg ((mvF p).map .d), .agg ((mvF q).map .d)] [] (fun y r => y = .d (.int .i64 (cmp p q)) ∧ r = [])) :
 FSpec Tryz.prog 36 [.buf 1000001, .fn g []] [(1000001, seqB 70 3 mvF mv0 l)]
  (fun y r => y = .tup [] ∧ ∃ c, sameL l c ∧ r = [(1000001, seqB 70 3 mvF mv0 c)]) := by
 refine spec_of hT (C := []) Tryz.func36 rfl Tryz.call36 rfl rfl rfl ?_
 conv => whnf
 repeat' (first | (refine br_intro ?_ ?_ <;> intro hb <;> (try simp only [brs] at hb) <;> conv => whnf) | omega | (refine And.intro ?_ ?_; ((try dsimp only); first | omega | (refine szA rfl ?_; omega) | (refine szB rfl ?_; omega) | (unfold inI64; omega) | exact rfl | (simp only [lns] at *; omega) | decide | (unfold inI64; decide)); conv => whnf) | decide | assumption)
 refine CallX.of (sBitsLen l.length hl) [] rfl ⟨lr, trivial⟩ trivial rfl rfl ?_
 rintro x rout ⟨⟨lim, rfl⟩, rfl⟩
 refine ⟨rfl, ?_⟩
 conv => whnf
 repeat' (first | (refine br_intro ?_ ?_ <;> intro hb <;> (try simp only [brs] at hb) <;> conv => whnf) | omega | (refine And.intro ?_ ?_; ((try dsimp only); first | omega | (refine szA rfl ?_; omega) | (refine szB rfl ?_; omega) | (unfold inI64; omega) | exact rfl | (simp only [lns] at *; omega) | decide | (unfold inI64; decide)); conv => whnf) | decide | assumption)
 refine CallX.of (z200 g cmp l hl lim hcmp) [(1000001, 1000001)] rfl ⟨lr, lr, lr, lr, lr, trivial⟩ ⟨rr, trivial⟩ rfl rfl ?_
 rintro x rout ⟨rfl, c, hc, rfl⟩
 refine ⟨rfl, ?_⟩
 conv => whnf
 refine .ret _ ?_
 conv => whnf
 exact ⟨_, ⟨rfl, c, hc, rfl⟩, rr, trivial⟩
theorem z102 (g : FuncId) (eq : Mov → Mov → Bool) (l : List Mov) (hl : l.length ≤ 2^20)
 (heq : ∀ p q, p ∈ l → q ∈ l → FSpec Tryz.prog g [.agg ((mvF p).map .d), .agg ((mvF q).map .d)] [] (fun y r => y = .d (.bool (eq p q)) ∧ r = [])) :
 FSpec Tryz.prog 39 [.buf 1000001, .fn g []] [(1000001, seqB 70 3 mvF mv0 l)]
  (fun y r => ∃ c, subL l c ∧ ∃ d, (d = 1000001 ∨ d = 64) ∧ y = .buf d ∧ r = [(d, seqB 70 3 mvF mv0 c)]) := by
 refine spec_of hT (C := []) Tryz.func39 rfl Tryz.call39 rfl rfl rfl ?_
 conv => whnf
 repeat' (first | (refine br_intro ?_ ?_ <;> intro hb <;> (try simp only [brs] at hb) <;> conv => whnf) | (refine RegX.rule (id := 6) hT rfl [] oVMvB39_6 (by decide +kernel) ?_; conv => whnf) | (refine RegX.rule (id := 11) hT rfl [] oVMvB39_11 (by decide +kernel) ?_; conv => whnf) | omega | (refine And.intro ?_ ?_; ((try dsimp only); first | omega | (refine szA rfl ?_; omega) | (refine szB rfl ?_; omega) | (unfold inI64; omega) | exact rfl | (simp only [lns] at *; omega) | decide | (unfold inI64; decide)); conv => whnf) | decide | assumption)
 · refine .ret _ ?_
   conv => whnf
   exact ⟨_, ⟨l, ⟨Nat.le_refl _, fun x h => h⟩, 1000001, .inl rfl, rfl, rfl⟩, rr, trivial⟩
 refine LoopX.rule hT (C := []) (ι := Nat) (fun k => 1 ≤ k ∧ k ≤ l.length) (fun k => mkSt [(0, .buf 1000001), (1, .fn g []), (5, .d (.int .i64 k))] [(1000001, seqB 70 3 mvF mv0 l)]) (fun k => l.length - k) 1 ⟨by omega, by omega⟩ (by (refine Entails.mk' [(1000001, 1000001)] rfl rfl ?_ ?_ <;> repeat' (first | exact True.intro | exact lr | exact rr | exact SV.le_int (by omega) | exact SV.le_any _ | refine And.intro ?_ ?_)); done) ?_
 rintro k ⟨p1, p2⟩
 conv => whnf
 repeat' (first | (refine CallX.of (heq (l.getD (k : Int).toNat mv0) (l.getD ((k : Int) - 1).toNat mv0) (getD_mem (by omega)) (getD_mem (by omega))) [] rfl ⟨lr, lr, trivial⟩ trivial rfl rfl ?_; rintro x rout ⟨rfl, rfl⟩; refine ⟨rfl, ?_⟩; conv => whnf) | (refine br_intro ?_ ?_ <;> intro hb <;> (try simp only [brs] at hb) <;> conv => whnf) | (refine RegX.rule (id := 6) hT rfl [] oVMvB39_6 (by decide +kernel) ?_; conv => whnf) | (refine RegX.rule (id := 11) hT rfl [] oVMvB39_11 (by decide +kernel) ?_; conv => whnf) | omega | (refine And.intro ?_ ?_; ((try dsimp only); first | omega | (refine szA rfl ?_; omega) | (refine szB rfl ?_; omega) | (unfold inI64; omega) | exact rfl | (simp only [lns] at *; omega) | decide | (unfold inI64; decide)); conv => whnf) | decide | assumption)
 · refine .look rfl ?_
   conv => whnf
   repeat' (first | (refine br_intro ?_ ?_ <;> intro hb <;> (try simp only [brs] at hb) <;> conv => whnf) | (refine RegX.rule (id := 6) hT rfl [] oVMvB39_6 (by decide +kernel) ?_; conv => whnf) | (refine RegX.rule (id := 11) hT rfl [] oVMvB39_11 (by decide +kernel) ?_; conv => whnf) | omega | (refine And.intro ?_ ?_; ((try dsimp only); first | omega | (refine szA rfl ?_; omega) | (refine szB rfl ?_; omega) | (unfold inI64; omega) | exact rfl | (simp only [lns] at *; omega) | decide | (unfold inI64; decide)); conv => whnf) | decide | assumption)
   have hsub : SV.le (SV.sub 1000001 3 (k : Int).toNat (((l.length : Nat) : Int) - (k : Int)).toNat) (SV.sub 1000001 3 k (l.length - k)) := by
    rw [show (k : Int).toNat = k by omega, show (((l.length : Nat) : Int) - (k : Int)).toNat = l.length - k by omega]; exact lr
   refine LoopX.rule hT (C := []) (ι := Nat × Nat × List Mov) (fun (q, m, c) => k ≤ q ∧ q < k + m ∧ 1 ≤ m ∧ k + m ≤ l.length ∧ sameL l c)
    (fun (q, m, c) => mkSt [(0, .buf 1000001), (1, .fn g []), (5, .d (.int .i64 q)), (6, .sub 1000001 3 k (l.length - k)), (7, .d (.int .i64 m))] [(1000001, seqB 70 3 mvF mv0 c)])
    (fun (_, m, _) => l.length - m) (k, 1, l) ⟨by omega, by omega, by omega, by omega, rfl, fun x h => h⟩ (by (refine Entails.mk' [(1000001, 1000001)] rfl rfl ?_ ?_ <;> repeat' (first | exact True.intro | exact lr | exact rr | (exact hsub) | exact SV.le_int (by omega) | exact SV.le_any _ | refine And.intro ?_ ?_)); done) ?_
   rintro ⟨q, m, c⟩ ⟨r1, r2, r3, r4, r5⟩
   have hc0 := r5.1
   conv => whnf
   repeat' (first | (refine CallX.of (heq (c.getD (k + (m : Int).toNat) mv0) (c.getD (k + ((m : Int) - 1).toNat) mv0) (r5.2 _ (getD_mem (by omega))) (r5.2 _ (getD_mem (by omega)))) [] rfl ⟨lr, lr, trivial⟩ trivial rfl rfl ?_; rintro x rout ⟨rfl, rfl⟩; refine ⟨rfl, ?_⟩; conv => whnf) | (refine SliceX.first (lo := none) rfl ?_; conv => whnf) | (refine SliceX.look (lo := some _) rfl ?_; conv => whnf) | (refine br_intro ?_ ?_ <;> intro hb <;> (try simp only [brs] at hb) <;> conv => whnf) | (refine RegX.rule (id := 6) hT rfl [] oVMvB39_6 (by decide +kernel) ?_; conv => whnf) | (refine RegX.rule (id := 11) hT rfl [] oVMvB39_11 (by decide +kernel) ?_; conv => whnf) | omega | (refine And.intro ?_ ?_; ((try dsimp only); first | omega | (refine szA rfl ?_; omega) | (refine szB rfl ?_; omega) | (unfold inI64; omega) | exact rfl | (simp only [lns] at *; omega) | decide | (unfold inI64; decide)); conv => whnf) | decide | assumption)
   · have e1 : ∀ z, z = k + (m : Int).toNat → z < l.length → c.getD z mv0 ∈ l := fun z _ h => r5.2 _ (getD_mem (by omega))
     refine ⟨(q + 1, m + 1, _), ⟨by omega, by omega, by omega, by omega, sameL_set r5 (e1 _ rfl (by omega))⟩, by show l.length - (m + 1) < l.length - m; omega, Entails.mk' [(1000001, 1000001)] rfl rfl ⟨lr, lr, SV.le_int (by omega), lr, SV.le_int (by omega), trivial⟩ ⟨Res.le_putF (fun _ _ => rfl), trivial⟩⟩
   · exact ⟨(q, m + 1, c), ⟨by omega, by omega, by omega, by omega, r5⟩, by show l.length - (m + 1) < l.length - m; omega, (by (refine Entails.mk' [(1000001, 1000001)] rfl rfl ?_ ?_ <;> repeat' (first | exact True.intro | exact lr | exact rr | exact SV.le_int (by omega) | exact SV.le_any _ | refine And.intro ?_ ?_)); done)⟩
   · refine .ret _ ?_
     conv => whnf
     refine ⟨_, ⟨c.take q, ⟨by rw [List.length_take]; omega, fun x hx => r5.2 x (List.mem_of_mem_take hx)⟩, 64, .inr rfl, rfl, rfl⟩, Res.le_buf (by rw [List.length_take]; omega) (fun i hi => ?_), trivial⟩
     have hi : i < q := by
      have : i < (q : Int).toNat := hi
      omega
     have h1 : Nat.ble (q : Int).toNat i = false := by
      rw [← Bool.not_eq_true, Nat.ble_eq]; omega
     show (bif Nat.ble (q : Int).toNat i && _ then _ else rowF mvF mv0 c i) = _
     rw [h1]
     simp only [Bool.false_and, cond_false, rowF]
     rw [List.getD_eq_getElem?_getD, List.getD_eq_getElem?_getD, List.getElem?_take_of_lt hi]
 · exact ⟨k + 1, ⟨by omega, by omega⟩, by omega, (by (refine Entails.mk' [(1000001, 1000001)] rfl rfl ?_ ?_ <;> repeat' (first | exact True.intro | exact lr | exact rr | exact SV.le_int (by omega) | exact SV.le_any _ | refine And.intro ?_ ?_)); done)⟩
 · refine .ret _ ?_
   conv => whnf
   exact ⟨_, ⟨l, ⟨Nat.le_refl _, fun x h => h⟩, 1000001, .inl rfl, rfl, rfl⟩, rr, trivial⟩
def mvKey (x : Mov) : List UInt8 := x.a ++ [32] ++ x.b
theorem z100 (x y : Mov) (hx : x.a.length ≤ 8 ∧ x.b.length ≤ 8) (hy : y.a.length ≤ 8 ∧ y.b.length ≤ 8) : FSpec Tryz.prog 37 [.agg ((mvF x).map .d), .agg ((mvF y).map .d)] [] (fun v r => v = .d (.int .i64 (cmpS (mvKey x) (mvKey y))) ∧ r = []) := by
 refine spec_of hT (C := []) Tryz.func37 rfl Tryz.call37 rfl rfl rfl ?_
 conv => whnf
 repeat' (first | (refine CallX.exact (s190 _ _) rfl rfl ?_; rotate_right; conv => whnf) | (refine br_intro ?_ ?_ <;> intro hb <;> (try simp only [brs] at hb) <;> conv => whnf) | omega | (refine And.intro ?_ ?_; ((try dsimp only); first | omega | (refine szA rfl ?_; omega) | (refine szB rfl ?_; omega) | (unfold inI64; omega) | exact rfl | (simp only [lns] at *; omega) | decide | (unfold inI64; decide)); conv => whnf) | decide | assumption)
 refine .ret _ ?_
 conv => whnf
 refine ⟨[], ⟨?_, rfl⟩, trivial⟩
 conv => lhs; whnf
 all_goals rfl
theorem z103 (x y : Mov) : FSpec Tryz.prog 40 [.agg ((mvF x).map .d), .agg ((mvF y).map .d)] [] (fun v r => v = .d (.bool (x.a == y.a && x.b == y.b)) ∧ r = []) := by
 refine spec_of hT (C := []) Tryz.func40 rfl Tryz.call40 rfl rfl rfl ?_
 conv => whnf
 repeat' (first | (refine br_intro ?_ ?_ <;> intro hb <;> (try simp only [brs] at hb) <;> conv => whnf) | omega | (refine And.intro ?_ ?_; ((try dsimp only); first | omega | (refine szA rfl ?_; omega) | (refine szB rfl ?_; omega) | (unfold inI64; omega) | exact rfl | (simp only [lns] at *; omega) | decide | (unfold inI64; decide)); conv => whnf) | decide | assumption)
 all_goals
  refine .ret _ ?_
  conv => whnf
  refine ⟨[], ⟨?_, rfl⟩, trivial⟩
  conv => lhs; whnf
  congr 2
  grind
abbrev spcell : Res := .cells 23 [.ptr 1000000 0]
theorem z105 (n : Nat) (L : Nat → Int) (hL : Rok n L) (a : Int) (h0 : 0 ≤ a) (ha : a ≤ 2^38) (x : Mov) : FSpec Tryz.prog 42 [.agg ((mvF x).map .d), .ptr 1000002 0] [(1000000, strm n L a), (1000002, spcell)] (fun y r => (∃ b : Bool, y = .d (.bool b)) ∧ ∃ c, (a ≤ c ∧ c ≤ a + 1) ∧ r = [(1000000, strm n L c), (1000002, spcell)]) := by
 refine spec_of hT (C := []) Tryz.func42 rfl Tryz.call42 rfl rfl rfl ?_
 conv => whnf
 repeat' (first | (refine CallX.of (s84 n L hL _ ?_ ?_ _ ?_) [(1000000, 1000000)] rfl ⟨lr, lr, trivial⟩ ⟨rr, trivial⟩ rfl rfl ?_; rotate_right; rintro x rout ⟨⟨f, rfl⟩, ⟨c, c1, c2, rfl⟩⟩; refine ⟨rfl, ?_⟩; conv => whnf) | (refine br_intro ?_ ?_ <;> intro hb <;> (try simp only [brs] at hb) <;> conv => whnf) | omega | (refine And.intro ?_ ?_; ((try dsimp only); first | omega | (refine szA rfl ?_; omega) | (refine szB rfl ?_; omega) | (unfold inI64; omega) | exact rfl | (simp only [lns] at *; omega) | decide | (unfold inI64; decide)); conv => whnf) | decide | assumption)
 all_goals first
  | (refine .ret _ ?_
     conv => whnf
     exact ⟨[(1000000, strm n L c), (1000002, spcell)], ⟨⟨_, rfl⟩, c, ⟨by omega, by omega⟩, rfl⟩, rr, rr, trivial⟩)
  | (refine .ret _ ?_
     conv => whnf
     exact ⟨[(1000000, strm n L a), (1000002, spcell)], ⟨⟨_, rfl⟩, a, ⟨by omega, by omega⟩, rfl⟩, rr, rr, trivial⟩)
theorem z203 (n : Nat) (L : Nat → Int) (hL : Rok n L) (a : Int) (h0 : 0 ≤ a) (ha : a ≤ 2^37) (l : List Mov) (hl : l.length ≤ 1000) :
 FSpec Tryz.prog 73 [.buf 1000001, .fn 42 [.ptr 1000002 0]] [(1000000, strm n L a), (1000001, mvB l), (1000002, spcell)] (fun y r => (∃ j : Int, -1 ≤ j ∧ j < l.length ∧ y = .d (.int .i64 j)) ∧ ∃ c, (a ≤ c ∧ c ≤ a + l.length) ∧ r = [(1000000, strm n L c), (1000001, mvB l), (1000002, spcell)]) := by
 refine spec_of hT (C := []) Tryz.func73 rfl Tryz.call73 rfl rfl rfl ?_
 conv => whnf
 refine LoopX.rule hT (C := []) (ι := Nat × Int) (fun (i, b) => i ≤ l.length ∧ a ≤ b ∧ b ≤ a + i) (fun (i, b) => mkSt [(0, .buf 1000001), (1, .fn 42 [.ptr 1000002 0]), (7, .d (.int .i64 l.length)), (8, .d (.int .i64 i))] [(1000000, strm n L b), (1000001, mvB l), (1000002, spcell)]) (fun (i, _) => l.length - i) (0, a) ⟨by simp, by simp, by simp⟩ (by (refine Entails.mk' [(1000000, 1000000), (1000001, 1000001), (1000002, 1000002)] rfl rfl ?_ ?_ <;> repeat' (first | exact True.intro | exact lr | exact rr | exact SV.le_int (by omega) | exact SV.le_any _ | refine And.intro ?_ ?_)); done) ?_
 rintro ⟨i, b⟩ ⟨p1, p2, p3⟩
 have p1 : i ≤ l.length := p1
 have p2 : a ≤ b := p2
 have p3 : b ≤ a + i := p3
 conv => whnf
 repeat' (first | (refine CallX.of (z105 n L hL b (by omega) (by omega) (l.getD (i : Int).toNat mv0)) [(1000000, 1000000), (1000002, 1000002)] rfl ⟨lr, lr, trivial⟩ ⟨rr, rr, trivial⟩ rfl rfl ?_; rintro x rout ⟨⟨f, rfl⟩, c, ⟨hc1, hc2⟩, rfl⟩; refine ⟨rfl, ?_⟩; conv => whnf) | (refine br_intro ?_ ?_ <;> intro hb <;> (try simp only [brs] at hb) <;> conv => whnf) | omega | (refine And.intro ?_ ?_; ((try dsimp only); first | omega | (refine szA rfl ?_; omega) | (refine szB rfl ?_; omega) | (unfold inI64; omega) | exact rfl | (simp only [lns] at *; omega) | decide | (unfold inI64; decide)); conv => whnf) | decide | assumption)
 all_goals first
  | exact ⟨(i + 1, c), ⟨by omega, by omega, by omega⟩, (show l.length - (i + 1) < l.length - i by omega), (by (refine Entails.mk' [(1000000, 1000000), (1000001, 1000001), (1000002, 1000002)] rfl rfl ?_ ?_ <;> repeat' (first | exact True.intro | exact lr | exact rr | exact SV.le_int (by omega) | exact SV.le_any _ | refine And.intro ?_ ?_)); done)⟩
  | (refine .ret _ ?_
     conv => whnf
     exact ⟨[(1000000, strm n L c), (1000001, mvB l), (1000002, spcell)], ⟨⟨_, by omega, by omega, rfl⟩, c, ⟨by omega, by omega⟩, rfl⟩, rr, rr, rr, trivial⟩)
  | (refine .ret _ ?_
     conv => whnf
     exact ⟨[(1000000, strm n L b), (1000001, mvB l), (1000002, spcell)], ⟨⟨_, by omega, by omega, rfl⟩, b, ⟨by omega, by omega⟩, rfl⟩, rr, rr, rr, trivial⟩)
set_option maxHeartbeats 1000000 in
theorem z104 (n : Nat) (L : Nat → Int) (hL : Rok n L) (a : Int) (h0 : 0 ≤ a) (ha : a ≤ 2^36) (l : List Mov) (hl : l.length ≤ 1000) :
 FSpec Tryz.prog 41 [.buf 1000001, .fn 42 [.ptr 1000002 0]] [(1000000, strm n L a), (1000001, mvB l), (1000002, spcell)] (fun y r => ∃ c, subL l c ∧ ∃ d, (d = 1000001 ∨ d = 41) ∧ y = .buf d ∧ ∃ b, (a ≤ b ∧ b ≤ a + 2 * l.length) ∧ r = [(1000000, strm n L b), (d, mvB c), (1000002, spcell)]) := by
 refine spec_of hT (C := []) Tryz.func41 rfl Tryz.call41 rfl rfl rfl ?_
 conv => whnf
 refine CallX.of (z203 n L hL a h0 (by omega) l hl) [(1000000, 1000000), (1000001, 1000001), (1000002, 1000002)] rfl ⟨lr, lr, trivial⟩ ⟨rr, rr, rr, trivial⟩ rfl rfl ?_
 rintro x rout ⟨⟨j, hj1, hj2, rfl⟩, b0, ⟨hb1, hb2⟩, rfl⟩
 refine ⟨rfl, ?_⟩
 conv => whnf
 repeat' (first | (refine br_intro ?_ ?_ <;> intro hb <;> (try simp only [brs] at hb) <;> conv => whnf) | omega | (refine And.intro ?_ ?_; ((try dsimp only); first | omega | (refine szA rfl ?_; omega) | (refine szB rfl ?_; omega) | (unfold inI64; omega) | exact rfl | (simp only [lns] at *; omega) | decide | (unfold inI64; decide)); conv => whnf) | decide | assumption)
 · refine .ret _ ?_
   conv => whnf
   exact ⟨_, ⟨l, ⟨Nat.le_refl _, fun x h => h⟩, 1000001, .inl rfl, rfl, b0, ⟨by omega, by omega⟩, rfl⟩, rr, rr, rr, trivial⟩
 obtain ⟨jN, rfl⟩ : ∃ jN : Nat, j = jN := ⟨j.toNat, by omega⟩
 refine LoopX.rule hT (C := []) (ι := Nat × Nat × Int × List Mov) (fun (i, k, b, c) => (i < k ∧ k ≤ l.length ∧ a ≤ b ∧ b ≤ a + l.length + k) ∧ sameL l c)
  (fun (i, k, b, c) => mkSt [(0, .buf 1000001), (1, .fn 42 [.ptr 1000002 0]), (5, .d (.int .i64 i)), (6, .d (.int .i64 k))] [(1000000, strm n L b), (1000001, mvB c), (1000002, spcell)]) (fun (_, k, _, _) => l.length - k) (jN, jN + 1, b0, l) ⟨⟨by show jN < jN + 1; omega, by show jN + 1 ≤ l.length; omega, by show a ≤ b0; omega, by show b0 ≤ a + l.length + ((jN + 1 : Nat) : Int); omega⟩, rfl, fun x h => h⟩ (by (refine Entails.mk' [(1000000, 1000000), (1000001, 1000001), (1000002, 1000002)] rfl rfl ?_ ?_ <;> repeat' (first | exact True.intro | exact lr | exact rr | exact SV.le_int (by omega) | exact SV.le_any _ | refine And.intro ?_ ?_)); done) ?_
 rintro ⟨i, k, b, c⟩ ⟨⟨r1, r2, r3, r4⟩, r5⟩
 have r1 : i < k := r1
 have r2 : k ≤ l.length := r2
 have r3 : a ≤ b := r3
 have r4 : b ≤ a + l.length + k := r4
 have hc0 := r5.1
 conv => whnf
 repeat' (first | (refine CallX.of (z105 n L hL b (by omega) (by omega) (c.getD (k : Int).toNat mv0)) [(1000000, 1000000), (1000002, 1000002)] rfl ⟨lr, lr, trivial⟩ ⟨rr, rr, trivial⟩ rfl rfl ?_; rintro x rout ⟨⟨f, rfl⟩, c5, ⟨hc1, hc2⟩, rfl⟩; refine ⟨rfl, ?_⟩; conv => whnf) | (refine SliceX.first (lo := none) rfl ?_; conv => whnf) | (refine SliceX.look (lo := some _) rfl ?_; conv => whnf) | (refine br_intro ?_ ?_ <;> intro hb <;> (try simp only [brs] at hb) <;> conv => whnf) | omega | (refine And.intro ?_ ?_; ((try dsimp only); first | omega | (refine szA rfl ?_; omega) | (refine szB rfl ?_; omega) | (unfold inI64; omega) | exact rfl | (simp only [lns] at *; omega) | decide | (unfold inI64; decide)); conv => whnf) | decide | assumption)
 · exact ⟨(i + 1, k + 1, c5, c.set (i : Int).toNat (c.getD (k : Int).toNat mv0)), ⟨⟨by omega, by omega, by omega, by omega⟩, sameL_set r5 (r5.2 _ (getD_mem (by omega)))⟩, (show l.length - (k + 1) < l.length - k by omega), Entails.mk' [(1000000, 1000000), (1000001, 1000001), (1000002, 1000002)] rfl rfl ⟨lr, lr, SV.le_int (by omega), SV.le_int (by omega), trivial⟩ ⟨rr, Res.le_putF (fun _ _ => rfl), rr, trivial⟩⟩
 · exact ⟨(i, k + 1, c5, c), ⟨⟨by omega, by omega, by omega, by omega⟩, r5⟩, (show l.length - (k + 1) < l.length - k by omega), (by (refine Entails.mk' [(1000000, 1000000), (1000001, 1000001), (1000002, 1000002)] rfl rfl ?_ ?_ <;> repeat' (first | exact True.intro | exact lr | exact rr | exact SV.le_int (by omega) | exact SV.le_any _ | refine And.intro ?_ ?_)); done)⟩
 · refine .ret _ ?_
   conv => whnf
   refine ⟨_, ⟨c.take i, ⟨by rw [List.length_take]; omega, fun x hx => r5.2 x (List.mem_of_mem_take hx)⟩, 41, .inr rfl, rfl, b, ⟨by omega, by omega⟩, rfl⟩, rr, Res.le_buf (by rw [List.length_take]; omega) (fun s hs => ?_), rr, trivial⟩
   have hs : s < i := by
    have : s < (i : Int).toNat := hs
    omega
   have h1 : Nat.ble (i : Int).toNat s = false := by
    rw [← Bool.not_eq_true, Nat.ble_eq]; omega
   show (bif Nat.ble (i : Int).toNat s && _ then _ else rowF mvF mv0 c s) = _
   rw [h1]
   simp only [Bool.false_and, cond_false, rowF]
   rw [List.getD_eq_getElem?_getD, List.getD_eq_getElem?_getD, List.getElem?_take_of_lt hs]
def oVRoA7_14 : List (Nat × List Nat) := [(0, []), (1, [0]), (2, [0, 1]), (3, [0, 1, 2]), (4, [0, 1, 2, 3]), (5, [0, 1, 2, 3]), (6, [0, 1, 2, 3]), (7, [0, 1, 2, 3]), (8, [0, 1, 2, 3]), (10, [0, 1, 2, 3, 4, 5, 6, 7, 8]), (11, [0, 1, 2, 3, 4, 5, 6, 7, 8, 10]), (12, [0, 1, 2, 3, 4, 5, 6, 7, 8, 10]), (13, [0, 1, 2, 3, 4, 5, 6, 7, 8, 10]), (14, [0, 1, 2, 3, 4, 5, 6, 7, 8, 10]), (15, [0, 1, 2, 3, 4, 5, 6, 7, 8, 10]), (17, [0, 1, 2, 3, 4, 5, 6, 7, 8, 10, 11, 12, 13, 14, 15]), (9, [0, 1, 2, 10, 11, 12, 13, 14, 15, 17]), (16, [0, 1, 2, 17]), (18, [0, 1, 2]), (19, [1, 2]), (20, [1, 2]), (21, [1, 2]), (22, [2]), (23, [2]), (24, [2]), (25, []), (26, []), (27, [])]
def tE : List (List UInt8) := [[97], [98], [99], [100], [101]]
def rdS (x : Roa) : Prop := x.a.length ≤ 8 ∧ x.b.length ≤ 8
theorem tE_len {i : Nat} : (tE.getD i []).length ≤ 1 := by
 rcases Nat.lt_or_ge i 5 with h | h
 · have : i = 0 ∨ i = 1 ∨ i = 2 ∨ i = 3 ∨ i = 4 := by omega
   rcases this with rfl | rfl | rfl | rfl | rfl <;> decide
 · rw [List.getD_eq_getElem?_getD, List.getElem?_eq_none (by simpa [tE] using h)]; simp
theorem three_len {u x y z : List UInt8} (h : u ∈ [x, y, z]) (hx : x.length ≤ 8) (hy : y.length ≤ 8) (hz : z.length ≤ 8) : u.length ≤ 8 := by
 simp at h
 rcases h with rfl | rfl | rfl <;> assumption
abbrev rdB (l : List Roa) : Res := seqB 64 4 rdF rd0 l
set_option maxHeartbeats 2000000 in
theorem sRds (n : Nat) (L : Nat → Int) (hL : Rok n L) (a : Int) (h0 : 0 ≤ a) (ha : a ≤ 2^38) :
 FSpec Tryz.prog 7 [.ptr 1000000 0] [(1000000, strm n L a)] (fun y r => (∃ l : List Roa, allK rdS 25 l ∧ y = .d (roas l)) ∧ Moved n L a 100 r) := by
 refine spec_of hT (C := []) Tryz.func7 rfl Tryz.call7 rfl rfl rfl ?_
 conv => whnf
 repeat' (first | (refine br_intro ?_ ?_ <;> intro hb <;> (try simp only [brs] at hb) <;> conv => whnf) | (refine RegX.rule (id := 14) hT rfl [] oVRoA7_14 (by decide +kernel) ?_; conv => whnf) | omega | (refine And.intro ?_ ?_; ((try dsimp only); first | omega | (refine szA rfl ?_; omega) | (refine szB rfl ?_; omega) | (unfold inI64; omega) | exact rfl | (simp only [lns] at *; omega) | decide | (unfold inI64; decide)); conv => whnf) | decide | assumption)
 refine LoopX.rule hT (C := []) (ι := Int × Nat × List Roa) (fun (b, i, l) => (a ≤ b ∧ b ≤ a + 15 * i ∧ i ≤ 5) ∧ allK rdS (5 * i) l)
  (fun (b, i, l) => mkSt [(0, .ptr 1000000 0), (3, .buf 3), (9, .d (strs tE)), (10, .d (.int .i64 5)), (11, .d (.int .i64 i))] [(1000000, strm n L b), (3, rdB l)]) (fun (_, i, _) => 5 - i) (a, 0, []) ⟨by simp, by simp [allK]⟩ ?_ ?_
 · exact (Entails.nil 3 3 64 4 (rowF rdF rd0 []) rfl rfl (by decide)).trans (by (refine Entails.mk' [(1000000, 1000000), (3, 3)] rfl rfl ?_ ?_ <;> repeat' (first | exact True.intro | exact lr | exact rr | (exact SV.le_lit rfl rfl) | exact SV.le_int (by omega) | exact SV.le_any _ | refine And.intro ?_ ?_)); done)
 rintro ⟨b, i, l⟩ ⟨⟨p1, p2, p3⟩, p4⟩
 have p1 : a ≤ b := p1
 have p2 : b ≤ a + 15 * i := p2
 have p3 : i ≤ 5 := p3
 have p4 : allK rdS (5 * i) l := p4
 have hll := p4.1
 have htl : tE.length = 5 := rfl
 conv => whnf
 repeat' (first | (refine br_intro ?_ ?_ <;> intro hb <;> (try simp only [brs] at hb) <;> conv => whnf) | (refine RegX.rule (id := 14) hT rfl [] oVRoA7_14 (by decide +kernel) ?_; conv => whnf) | omega | (refine And.intro ?_ ?_; ((try dsimp only); first | omega | (refine szA rfl ?_; omega) | (refine szB rfl ?_; omega) | (unfold inI64; omega) | exact rfl | (simp only [lns] at *; omega) | decide | (unfold inI64; decide)); conv => whnf) | decide | assumption)
 · refine LoopX.rule hT (C := []) (ι := Int × Nat × List Roa) (fun (c, j, l) => (a ≤ c ∧ c ≤ a + 15 * i + 3 * j ∧ j ≤ 5) ∧ allK rdS (5 * i + j) l)
    (fun (c, j, l) => mkSt [(0, .ptr 1000000 0), (3, .buf 3), (5, .d (.str (tE.getD i []))), (9, .d (strs tE)), (10, .d (.int .i64 5)), (11, .d (.int .i64 i)), (15, .d (strs tE)), (16, .d (.int .i64 5)), (17, .d (.int .i64 j))] [(1000000, strm n L c), (3, rdB l)]) (fun (_, j, _) => 5 - j) (b, 0, l) ⟨by simp; omega, by simpa using p4⟩ ?_ ?_
   · exact (by (refine Entails.mk' [(1000000, 1000000), (3, 3)] rfl rfl ?_ ?_ <;> repeat' (first | exact True.intro | exact lr | exact rr | (exact SV.le_lit rfl rfl) | exact SV.le_int (by omega) | exact SV.le_any _ | refine And.intro ?_ ?_)); done)
   rintro ⟨c, j, l⟩ ⟨⟨r1, r2, r3⟩, r4⟩
   have r1 : a ≤ c := r1
   have r2 : c ≤ a + 15 * i + 3 * j := r2
   have r3 : j ≤ 5 := r3
   have r4 : allK rdS (5 * i + j) l := r4
   have hlj := r4.1
   have hi5 : i < 5 := by omega
   conv => whnf
   repeat' (first | (refine CallX.of (s84 n L hL _ ?_ ?_ _ ?_) [(1000000, 1000000)] rfl ⟨lr, lr, trivial⟩ ⟨rr, trivial⟩ rfl rfl ?_; rotate_right; rintro x rout ⟨⟨f, rfl⟩, ⟨c, c1, c2, rfl⟩⟩; refine ⟨rfl, ?_⟩; conv => whnf) | (refine CallX.of (s33 n L hL _ ?_ ?_ [0, 1, 3, 5, 5, 8, 20] ?_ ?_) [(1000000, 1000000)] rfl ⟨lr, SV.le_lit rfl rfl, trivial⟩ ⟨rr, trivial⟩ rfl rfl ?_; rotate_right; rintro x rout ⟨⟨u1, hu1, rfl⟩, ⟨c, c1, c2, rfl⟩⟩; refine ⟨rfl, ?_⟩; conv => whnf) | (refine CallX.of (s33 n L hL _ ?_ ?_ [0, 1, 2, 4] ?_ ?_) [(1000000, 1000000)] rfl ⟨lr, SV.le_lit rfl rfl, trivial⟩ ⟨rr, trivial⟩ rfl rfl ?_; rotate_right; rintro x rout ⟨⟨u2, hu2, rfl⟩, ⟨c, c1, c2, rfl⟩⟩; refine ⟨rfl, ?_⟩; conv => whnf) | (refine br_intro ?_ ?_ <;> intro hb <;> (try simp only [brs] at hb) <;> conv => whnf) | (refine RegX.rule (id := 14) hT rfl [] oVRoA7_14 (by decide +kernel) ?_; conv => whnf) | omega | (refine And.intro ?_ ?_; ((try dsimp only); first | omega | (refine szA rfl ?_; omega) | (refine szB rfl ?_; omega) | (unfold inI64; omega) | exact rfl | (simp only [lns] at *; omega) | decide | (unfold inI64; decide)); conv => whnf) | decide | assumption)
   all_goals first
    | (refine ⟨(_, j + 1, l ++ [⟨tE.getD i [], tE.getD j [], u1, u2⟩]), ⟨⟨by omega, ?_, by omega⟩, allK_snoc r4 (by omega) ⟨Nat.le_trans tE_len (by decide), Nat.le_trans tE_len (by decide)⟩⟩, (show 5 - (j + 1) < 5 - j by omega), Entails.mk' [(1000000, 1000000), (3, 40)] rfl rfl ⟨lr, lr, lr, lr, lr, lr, lr, lr, lr, trivial⟩ ⟨rr, Res.le_snocF rfl, trivial⟩⟩
       show _ ≤ a + 15 * (i : Int) + 3 * ((j + 1 : Nat) : Int)
       omega)
    | (refine ⟨(_, j + 1, l), ⟨⟨by omega, ?_, by omega⟩, allK_le r4 (by omega)⟩, (show 5 - (j + 1) < 5 - j by omega), Entails.mk' [(1000000, 1000000), (3, 3)] rfl rfl ⟨lr, lr, lr, lr, lr, lr, lr, lr, lr, trivial⟩ ⟨rr, rr, trivial⟩⟩
       show _ ≤ a + 15 * (i : Int) + 3 * ((j + 1 : Nat) : Int)
       omega)
    | (refine ⟨(c, i + 1, l), ⟨⟨by omega, by show c ≤ a + 15 * ((i + 1 : Nat) : Int); omega, by omega⟩, allK_le r4 (by omega)⟩, (show 5 - (i + 1) < 5 - i by omega), Entails.mk' [(1000000, 1000000), (3, 3)] rfl rfl ⟨lr, lr, lr, lr, lr, trivial⟩ ⟨rr, rr, trivial⟩⟩)
 all_goals
  have p5 : allK rdS 25 l := allK_le p4 (by omega)
  have hl25 := p5.1
  repeat' (first | (refine CallX.of (s84 n L hL _ ?_ ?_ _ ?_) [(1000000, 1000000)] rfl ⟨lr, lr, trivial⟩ ⟨rr, trivial⟩ rfl rfl ?_; rotate_right; rintro x rout ⟨⟨f, rfl⟩, ⟨c, c1, c2, rfl⟩⟩; refine ⟨rfl, ?_⟩; conv => whnf) | (refine CallX.of (s86 n L hL _ ?_ ?_ _ ?_) [(1000000, 1000000)] rfl ⟨lr, lr, trivial⟩ ⟨rr, trivial⟩ rfl rfl ?_; rotate_right; rintro x rout ⟨⟨j, hj1, hj2, hj3, rfl⟩, ⟨c, c1, c2, rfl⟩⟩; refine ⟨rfl, ?_⟩; conv => whnf) | (refine CallX.of (s15 n L hL _ ?_ ?_ [(l.getD j.toNat rd0).a, [], [98]] (by simp) (by simp)) [(1000000, 1000000)] rfl ⟨lr, SV.le_lit rfl rfl, trivial⟩ ⟨rr, trivial⟩ rfl rfl ?_; rotate_right; rintro x rout ⟨⟨u1, hu1, rfl⟩, ⟨c, c1, c2, rfl⟩⟩; refine ⟨rfl, ?_⟩; conv => whnf) | (refine CallX.of (s15 n L hL _ ?_ ?_ [(l.getD j.toNat rd0).b, [65], [98]] (by simp) (by simp)) [(1000000, 1000000)] rfl ⟨lr, SV.le_lit rfl rfl, trivial⟩ ⟨rr, trivial⟩ rfl rfl ?_; rotate_right; rintro x rout ⟨⟨u2, hu2, rfl⟩, ⟨c, c1, c2, rfl⟩⟩; refine ⟨rfl, ?_⟩; conv => whnf) | (refine CallX.of (s104 n L hL _ ?_ ?_ 0 1000000 ?_ ?_ ?_) [(1000000, 1000000)] rfl ⟨lr, lr, lr, trivial⟩ ⟨rr, trivial⟩ rfl rfl ?_; rotate_right; rintro x rout ⟨⟨u3, hk1, hk2, rfl⟩, ⟨c, c1, c2, rfl⟩⟩; refine ⟨rfl, ?_⟩; conv => whnf) | (refine br_intro ?_ ?_ <;> intro hb <;> (try simp only [brs] at hb) <;> conv => whnf) | (refine RegX.rule (id := 14) hT rfl [] oVRoA7_14 (by decide +kernel) ?_; conv => whnf) | omega | (refine And.intro ?_ ?_; ((try dsimp only); first | omega | (refine szA rfl ?_; omega) | (refine szB rfl ?_; omega) | (unfold inI64; omega) | exact rfl | (simp only [lns] at *; omega) | decide | (unfold inI64; decide)); conv => whnf) | decide | assumption)
 all_goals first
  | (refine .freeze _ 3 64 4 _ _ rfl (.weak _ ?_)
     (conv => whnf)
     have hx := p5.2 (l.getD j.toNat rd0) (getD_mem (by omega))
     have hq1 := three_len hu1 hx.1 (by decide) (by decide)
     have hq2 := three_len hu2 hx.2 (by decide) (by decide)
     exact ⟨_, [(1000000, strm n L _)], SV.le_upd3 (f := rdF) (d := rd0) (fun y : Roa => { y with a := u1 }) (fun y => { y with b := u2 }) (fun y => { y with car := u3 }) (fun _ => rfl) (fun _ => rfl) (fun _ => rfl), ⟨⟨_, allK_upd (g := fun y : Roa => { y with car := u3 }) (allK_upd (g := fun y : Roa => { y with b := u2 }) (allK_upd (g := fun y : Roa => { y with a := u1 }) p5 (fun y hy => ⟨hq1, hy.2⟩)) (fun y hy => ⟨hy.1, hq2⟩)) (fun y hy => hy), rfl⟩, _, by omega, by omega, rfl⟩, rr, trivial⟩)
  | (refine .freeze _ 3 64 4 _ _ rfl (.weak _ ?_)
     (conv => whnf)
     exact ⟨_, [(1000000, strm n L _)], lr, ⟨⟨l, p5, rfl⟩, _, by omega, by omega, rfl⟩, rr, trivial⟩)
def mvG (x : Mov) : Prop := x.a.length ≤ 8 ∧ x.b.length ≤ 8
def oVRoB57_6 : List (Nat × List Nat) := [(0, []), (1, [0]), (2, []), (3, []), (4, [0, 1, 2, 3]), (5, [0, 1, 2, 3, 4]), (6, [0, 1, 2, 3]), (7, [0, 1, 2, 3]), (8, [])]
theorem p57 (l m : List Mov) (hl : l.length ≤ 2^40) : FSpec Tryz.prog 57 [.d (movs l), .d (movs m)] [] (fun x r => x = .d (.bool (decide (l = m))) ∧ r = []) := by
 refine spec_of hT (C := []) Tryz.func57 rfl Tryz.call57 rfl rfl rfl ?_
 conv => whnf
 repeat' (first | (refine br_intro ?_ ?_ <;> intro hb <;> (try simp only [brs] at hb) <;> conv => whnf) | (refine RegX.rule (id := 6) hT rfl [] oVRoB57_6 (by decide +kernel) ?_; conv => whnf) | omega | (refine And.intro ?_ ?_; ((try dsimp only); first | omega | (refine szA rfl ?_; omega) | (refine szB rfl ?_; omega) | (unfold inI64; omega) | exact rfl | (simp only [lns] at *; omega) | decide | (unfold inI64; decide)); conv => whnf) | decide | assumption)
 · refine .ret _ ?_
   conv => whnf
   refine ⟨[], ⟨?_, rfl⟩, trivial⟩
   conv => lhs; whnf
   have : ¬ l = m := fun q => by subst q; simp at hb
   simp [this]
 have hlen : l.length = m.length := by
  omega
 refine LoopX.rule hT (C := []) (ι := Nat) (fun i => i ≤ l.length ∧ ∀ j, j < i → l.getD j mv0 = m.getD j mv0) (fun i => mkSt [(0, .d (movs l)), (1, .d (movs m)), (12, .d (.int .i64 l.length)), (13, .d (.int .i64 i))] []) (fun i => l.length - i) 0 ⟨by omega, by omega⟩ (by (refine Entails.mk' [] rfl rfl ?_ ?_ <;> repeat' (first | exact True.intro | exact lr | exact rr | exact SV.le_int (by omega) | exact SV.le_any _ | refine And.intro ?_ ?_)); done) ?_
 rintro i ⟨p1, p2⟩
 have e1 : (i : Int).toNat = i := Int.toNat_natCast i
 conv => whnf
 repeat' (first | (refine br_intro ?_ ?_ <;> intro hb <;> (try simp only [brs] at hb) <;> conv => whnf) | (refine RegX.rule (id := 6) hT rfl [] oVRoB57_6 (by decide +kernel) ?_; conv => whnf) | omega | (refine And.intro ?_ ?_; ((try dsimp only); first | omega | (refine szA rfl ?_; omega) | (refine szB rfl ?_; omega) | (unfold inI64; omega) | exact rfl | (simp only [lns] at *; omega) | decide | (unfold inI64; decide)); conv => whnf) | decide | assumption)
 · refine .ret _ ?_
   conv => whnf
   refine ⟨[], ⟨?_, rfl⟩, trivial⟩
   conv => lhs; whnf
   have : ¬ l = m := fun q => by subst q; simp at hb
   simp [this]
 · exact ⟨i + 1, ⟨by omega, all_step p2 (by rw [mov_eq]; simpa [and_assoc] using hb)⟩, by omega, (by (refine Entails.mk' [] rfl rfl ?_ ?_ <;> repeat' (first | exact True.intro | exact lr | exact rr | exact SV.le_int (by omega) | exact SV.le_any _ | refine And.intro ?_ ?_)); done)⟩
 · refine .ret _ ?_
   conv => whnf
   refine ⟨[], ⟨?_, rfl⟩, trivial⟩
   conv => lhs; whnf
   have : i = l.length := by omega
   subst this
   simp [eq_of_getD mv0 hlen p2]
theorem p19 : FSpec Tryz.prog 19 [] [] (fun x r => x = .d (.bool true) ∧ r = []) := by
 refine spec_of hT (C := []) Tryz.func19 rfl Tryz.call19 rfl rfl rfl ?_
 conv => whnf
 repeat' (first | (refine CallX.of s27t [] rfl ⟨SV.le_lit rfl rfl, SV.le_lit rfl rfl, trivial⟩ trivial rfl rfl ?_; rintro x rout ⟨rfl, rfl⟩; refine ⟨rfl, ?_⟩; conv => whnf) | (refine CallX.of (p57 [⟨[97], [98], 1⟩] [⟨[97], [98], 1⟩] (by simp)) [] rfl ⟨lr, SV.le_lit rfl rfl, trivial⟩ trivial rfl rfl ?_; rintro x rout ⟨rfl, rfl⟩; refine ⟨rfl, ?_⟩; conv => whnf) | (refine br_intro ?_ ?_ <;> intro hb <;> (try simp only [brs] at hb) <;> conv => whnf) | omega | (refine And.intro ?_ ?_; ((try dsimp only); first | omega | (refine szA rfl ?_; omega) | (refine szB rfl ?_; omega) | (unfold inI64; omega) | exact rfl | (simp only [lns] at *; omega) | decide | (unfold inI64; decide)); conv => whnf) | decide | assumption)
 all_goals try (exfalso; simp at hb; done)
 all_goals
  refine .ret _ ?_
  conv => whnf
  exact ⟨[], ⟨rfl, rfl⟩, trivial⟩
def ndS (x : Ned) : Prop := x.st.length ≤ 8
abbrev ndB (l : List Ned) : Res := seqB 58 2 ndF nd0 l
set_option maxHeartbeats 2000000 in
theorem sNds (n : Nat) (L : Nat → Int) (hL : Rok n L) (a : Int) (h0 : 0 ≤ a) (ha : a ≤ 2^38) :
 FSpec Tryz.prog 6 [.ptr 1000000 0] [(1000000, strm n L a)] (fun y r => (∃ l : List Ned, allK ndS 5 l ∧ y = .d (neds l)) ∧ Moved n L a 100 r) := by
 refine spec_of hT (C := []) Tryz.func6 rfl Tryz.call6 rfl rfl rfl ?_
 conv => whnf
 repeat' (first | (refine br_intro ?_ ?_ <;> intro hb <;> (try simp only [brs] at hb) <;> conv => whnf) | omega | (refine And.intro ?_ ?_; ((try dsimp only); first | omega | (refine szA rfl ?_; omega) | (refine szB rfl ?_; omega) | (unfold inI64; omega) | exact rfl | (simp only [lns] at *; omega) | decide | (unfold inI64; decide)); conv => whnf) | decide | assumption)
 refine LoopX.rule hT (C := []) (ι := Int × Nat × List Ned) (fun (b, i, l) => (a ≤ b ∧ b ≤ a + 3 * i ∧ i ≤ 5) ∧ allK ndS i l)
  (fun (b, i, l) => mkSt [(0, .ptr 1000000 0), (3, .buf 3), (7, .d (strs tE)), (8, .d (.int .i64 5)), (9, .d (.int .i64 i))] [(1000000, strm n L b), (3, ndB l)]) (fun (_, i, _) => 5 - i) (a, 0, []) ⟨by simp, by simp [allK]⟩ ?_ ?_
 · exact (Entails.nil 3 3 58 2 (rowF ndF nd0 []) rfl rfl (by decide)).trans (by (refine Entails.mk' [(1000000, 1000000), (3, 3)] rfl rfl ?_ ?_ <;> repeat' (first | exact True.intro | exact lr | exact rr | (exact SV.le_lit rfl rfl) | exact SV.le_int (by omega) | exact SV.le_any _ | refine And.intro ?_ ?_)); done)
 rintro ⟨b, i, l⟩ ⟨⟨p1, p2, p3⟩, p4⟩
 have p1 : a ≤ b := p1
 have p2 : b ≤ a + 3 * i := p2
 have p3 : i ≤ 5 := p3
 have p4 : allK ndS i l := p4
 have hll := p4.1
 have htl : tE.length = 5 := rfl
 conv => whnf
 repeat' (first | (refine CallX.of (s84 n L hL _ ?_ ?_ _ ?_) [(1000000, 1000000)] rfl ⟨lr, lr, trivial⟩ ⟨rr, trivial⟩ rfl rfl ?_; rotate_right; rintro x rout ⟨⟨f, rfl⟩, ⟨c, c1, c2, rfl⟩⟩; refine ⟨rfl, ?_⟩; conv => whnf) | (refine CallX.of (s33 n L hL _ ?_ ?_ [0, 1, 2, 3, -1, -2, 4] ?_ ?_) [(1000000, 1000000)] rfl ⟨lr, SV.le_lit rfl rfl, trivial⟩ ⟨rr, trivial⟩ rfl rfl ?_; rotate_right; rintro x rout ⟨⟨u1, hu1, rfl⟩, ⟨c, c1, c2, rfl⟩⟩; refine ⟨rfl, ?_⟩; conv => whnf) | (refine br_intro ?_ ?_ <;> intro hb <;> (try simp only [brs] at hb) <;> conv => whnf) | omega | (refine And.intro ?_ ?_; ((try dsimp only); first | omega | (refine szA rfl ?_; omega) | (refine szB rfl ?_; omega) | (unfold inI64; omega) | exact rfl | (simp only [lns] at *; omega) | decide | (unfold inI64; decide)); conv => whnf) | decide | assumption)
 all_goals try (exfalso; omega)
 · refine ⟨(_, i + 1, l ++ [⟨tE.getD i [], u1⟩]), ⟨⟨by omega, ?_, by omega⟩, allK_snoc p4 (by omega) (Nat.le_trans tE_len (by decide))⟩, (show 5 - (i + 1) < 5 - i by omega), Entails.mk' [(1000000, 1000000), (3, 23)] rfl rfl ⟨lr, lr, lr, lr, lr, trivial⟩ ⟨rr, Res.le_snocF rfl, trivial⟩⟩
   show _ ≤ a + 3 * ((i + 1 : Nat) : Int)
   omega
 · refine ⟨(_, i + 1, l), ⟨⟨by omega, ?_, by omega⟩, allK_le p4 (by omega)⟩, (show 5 - (i + 1) < 5 - i by omega), Entails.mk' [(1000000, 1000000), (3, 3)] rfl rfl ⟨lr, lr, lr, lr, lr, trivial⟩ ⟨rr, rr, trivial⟩⟩
   show _ ≤ a + 3 * ((i + 1 : Nat) : Int)
   omega
 all_goals
  have p5 : allK ndS 5 l := allK_le p4 (by omega)
  have hl5 := p5.1
  repeat' (first | (refine CallX.of (s86 n L hL _ ?_ ?_ _ ?_) [(1000000, 1000000)] rfl ⟨lr, lr, trivial⟩ ⟨rr, trivial⟩ rfl rfl ?_; rotate_right; rintro x rout ⟨⟨j, hj1, hj2, hj3, rfl⟩, ⟨c, c1, c2, rfl⟩⟩; refine ⟨rfl, ?_⟩; conv => whnf) | (refine CallX.of (s15 n L hL _ ?_ ?_ [(l.getD j.toNat nd0).st, [], [97]] (by simp) (by simp)) [(1000000, 1000000)] rfl ⟨lr, SV.le_lit rfl rfl, trivial⟩ ⟨rr, trivial⟩ rfl rfl ?_; rotate_right; rintro x rout ⟨⟨u1, hu1, rfl⟩, ⟨c, c1, c2, rfl⟩⟩; refine ⟨rfl, ?_⟩; conv => whnf) | (refine CallX.of (s104 n L hL _ ?_ ?_ (-20) 20 ?_ ?_ ?_) [(1000000, 1000000)] rfl ⟨lr, lr, lr, trivial⟩ ⟨rr, trivial⟩ rfl rfl ?_; rotate_right; rintro x rout ⟨⟨u3, hk1, hk2, rfl⟩, ⟨c, c1, c2, rfl⟩⟩; refine ⟨rfl, ?_⟩; conv => whnf) | (refine br_intro ?_ ?_ <;> intro hb <;> (try simp only [brs] at hb) <;> conv => whnf) | omega | (refine And.intro ?_ ?_; ((try dsimp only); first | omega | (refine szA rfl ?_; omega) | (refine szB rfl ?_; omega) | (unfold inI64; omega) | exact rfl | (simp only [lns] at *; omega) | decide | (unfold inI64; decide)); conv => whnf) | decide | assumption)
 all_goals first
  | (refine .freeze _ 3 58 2 _ _ rfl (.weak _ ?_)
     (conv => whnf)
     have hx := p5.2 (l.getD j.toNat nd0) (getD_mem (by omega))
     have hq1 := three_len hu1 hx (by decide) (by decide)
     exact ⟨_, [(1000000, strm n L _)], SV.le_upd2 (f := ndF) (d := nd0) (fun y : Ned => { y with st := u1 }) (fun y => { y with many := u3 }) (fun _ => rfl) (fun _ => rfl), ⟨⟨_, allK_upd (g := fun y : Ned => { y with many := u3 }) (allK_upd (g := fun y : Ned => { y with st := u1 }) p5 (fun y hy => hq1)) (fun y hy => hy), rfl⟩, _, by omega, by omega, rfl⟩, rr, trivial⟩)
  | (refine .freeze _ 3 58 2 _ _ rfl (.weak _ ?_)
     (conv => whnf)
     exact ⟨_, [(1000000, strm n L _)], lr, ⟨⟨l, p5, rfl⟩, _, by omega, by omega, rfl⟩, rr, trivial⟩)
end Go.Proofs.YteehenjdddlnnaaGreatDoor
