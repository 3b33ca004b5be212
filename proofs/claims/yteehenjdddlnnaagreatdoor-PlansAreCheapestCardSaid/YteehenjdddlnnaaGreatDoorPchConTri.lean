/- PlansAreCheapest is proved: for every input the law returns true, and its argument reads afterwards as it read before. Conditions: those of the given row alone. -/
import Derived.Test.YteehenjdddlnnaaGreatDoorPchEngTwo
import Derived.Test.YteehenjdddlnnaaGreatDoorPchConTwo
import Derived.Test.YteehenjdddlnnaaGreatDoorPchEngMap
import Derived.Test.YteehenjdddlnnaaGreatDoorPchConOne
set_option linter.unusedVariables false
set_option linter.unusedSimpArgs false
namespace Go.Eng
open Go
theorem RowIn.fro {G G' : Hp} {w : World} {e k n : Nat} {v : Value} {get : Nat → List DV} (h : RowIn G w e k v n get) (hle : G.le G') (hg : ∀ b o, blk v = some b → w.heap[b]? = some o → G' b = some o) : DV.Den G' (.ro k n get) v := by
 obtain ⟨xs, hown, hlen, hden⟩ := h
 rcases hown.2 with ⟨rfl, rfl⟩ | ⟨g, cap, cur, rfl, _, hh, hnc, hcm, hcs, htake⟩
 · exact .ronil _ _
 · refine .ro k n get _ cap (fun i j => xs.getD (i * k + j) Go.undef) rfl hnc hcm hlen ?_ ?_
   · intro i j x hi hx
     obtain ⟨u, hu, _⟩ := hden i j x hi hx
     have hlt : i * k + j < n * k := by
      have := (List.getElem?_eq_some_iff.1 hx).1
      rw [hlen i hi] at this
      calc i * k + j < i * k + k := by omega
       _ = (i + 1) * k := by rw [Nat.add_mul, Nat.one_mul]
       _ ≤ n * k := Nat.mul_le_mul_right _ hi
     refine ⟨cur, e, (0, 0), ?_, ?_, ?_⟩
     · rw [Addr.add_block]; exact hg g _ rfl hh
     · exact Addr.add_spot _ rfl _
     · rw [Addr.add_lit]
       simp only [Nat.zero_add]
       rw [← htake, List.getElem?_take_of_lt hlt] at hu
       rw [← Array.getElem?_toList, hu]
       rw [← htake, List.getD_eq_getElem?_getD, List.getElem?_take_of_lt hlt, hu]
       rfl
   · intro i j x hi hx
     obtain ⟨u, hu, hdu⟩ := hden i j x hi hx
     simp only [List.getD_eq_getElem?_getD, hu, Option.getD_some]
     exact hdu.mono hle
end Go.Eng
namespace Go.Eng
open Go
def DV.flat : DV → Bool
 | .bool _ | .int .. | .str _ | .nilsl => true
 | _ => false
theorem DV.Den.flat {G G' : Hp} {x : DV} {v : Value} (h : DV.Den G x v) (hf : x.flat = true) : DV.Den G' x v := by
 cases h <;> first | (constructor; done) | (cases hf)
def SV.flat1 (d : Nat) : SV → Bool
 | .d x => x.flat
 | .buf c => !(Nat.beq c d)
 | _ => false
def SV.flat (d : Nat) : SV → Bool
 | .agg l => l.all (SV.flat1 d)
 | .tup l => l.all (SV.flat1 d)
 | x => SV.flat1 d x
theorem SV.Den.flat1 {G G' : Hp} {β β' : Env} {d : Nat} (hb : ∀ c, c ≠ d → β' c = β c) {x : SV} {v : Value} (h : SV.Den G β x v) (hf : SV.flat1 d x = true) : SV.Den G' β' x v := by
 cases h with
 | d x v hx => exact .d _ _ (hx.flat hf)
 | buf c v hv h1 =>
   refine .buf _ _ ?_ h1
   rw [hb c (by rintro rfl; simp [SV.flat1] at hf)]; exact hv
 | _ => cases hf
theorem SV.Den.flat {G G' : Hp} {β β' : Env} {d : Nat} (hb : ∀ c, c ≠ d → β' c = β c) {x : SV} {v : Value} (h : SV.Den G β x v) (hf : SV.flat d x = true) : SV.Den G' β' x v := by
 cases h with
 | agg l vs hl h =>
   refine .agg _ _ hl (fun i x v hx hv => (h i x v hx hv).flat1 hb ?_)
   exact List.all_eq_true.1 hf x (List.mem_of_getElem? hx)
 | tup l vs hl h =>
   refine .tup _ _ hl (fun i x v hx hv => (h i x v hx hv).flat1 hb ?_)
   exact List.all_eq_true.1 hf x (List.mem_of_getElem? hx)
 | d x v hx => exact (SV.Den.d (β := β) x v hx).flat1 (d := d) hb hf
 | buf c v hv h1 => exact (SV.Den.buf (G := G) c v hv h1).flat1 hb hf
 | _ => cases hf
def Res.flat : Res → Prop
 | .buf _ _ n g => ∀ i, i < n → (g i).all DV.flat = true
 | _ => False
theorem ResOk.flat {G G' : Hp} {β β' : Env} {w : World} {c : Nat} {r : Res} (hb : β' c = β c) (h : ResOk G β w c r) (hf : r.flat) : ResOk G' β' w c r := by
 cases r with
 | buf e k n g =>
   obtain ⟨v, xs, h1, h2, h3, h4, h5⟩ := h
   refine ⟨v, xs, hb.trans h1, h2, h3, h4, fun i j x hi hx => ?_⟩
   obtain ⟨u, hu, hd⟩ := h5 i j x hi hx
   exact ⟨u, hu, hd.flat (List.all_eq_true.1 (hf i hi) x (List.mem_of_getElem? hx))⟩
 | _ => exact hf.elim
end Go.Eng
namespace Go.Eng
open Go
theorem DV.Den.unfrs {G : Hp} {e k n : Nat} {X : Nat → Prop} {get : Nat → List DV} {v : Value} (h : DV.Den G (.frs e k n X get) v) : DV.Den G (.ro k n get) v := by
 cases h with
 | frsnil => exact .ronil _ _
 | frse _ _ _ _ a cap hs hmax => exact .ro _ _ _ _ _ (fun _ _ => Go.undef) hs (Nat.zero_le _) hmax (fun i hi => absurd hi (Nat.not_lt_zero _)) (fun i _ _ hi => absurd hi (Nat.not_lt_zero _)) (fun i _ _ hi => absurd hi (Nat.not_lt_zero _))
 | frs _ _ _ _ _ b cap cur vals hX hb hcap hmax hsz hl hc hd =>
   refine .ro _ _ _ ⟨b, 0, none⟩ cap vals rfl hcap hmax hl (fun i j x hi hx => ?_) hd
   refine ⟨cur, e, (0, 0), ?_, ?_, ?_⟩
   · rw [Addr.add_block]; exact hb
   · exact Addr.add_spot _ rfl _
   · rw [Addr.add_lit]; simpa using hc i j x hi hx
theorem SV.le_frs {e k n : Nat} {X : Nat → Prop} {get : Nat → List DV} : SV.le (.d (.frs e k n X get)) (.d (.ro k n get)) := fun G β v h => by
 cases h with | d _ _ h => exact .d _ _ h.unfrs
theorem SV.le_nilF {e k : Nat} {X : Nat → Prop} {get : Nat → List DV} : SV.le (.d .nilsl) (.d (.frs e k 0 X get)) := fun G β v h => by
 cases h with | d _ _ h => cases h; exact .d _ _ (.frsnil _ _ _ _)
theorem FSpec.thaw {α : Type} {P : Program} {f : FuncId} {args : List SV} {e k : Nat} {S : α → Prop} {N : α → Nat} {Gt : α → Nat → List DV} {B : α → Bool} (hk : 0 < k)
 (h : ∀ X, FSpec P f args [(1000007, .inX X)] (fun y r => (∃ a, S a ∧ y = .tup [.d (.frs e k (N a) X (Gt a)), .d (.bool (B a))]) ∧ r = [(1000007, .inX X)]))
 (hflat : ∀ a, S a → ∀ (i j : Nat) (x : DV), i < N a → (Gt a i)[j]? = some x → DV.flat x = true) :
 FSpec P f args [] (fun y r => ∃ a, S a ∧ ((N a = 0 ∧ y = .tup [.d (.ro k 0 (Gt a)), .d (.bool (B a))] ∧ r = []) ∨ (0 < N a ∧ y = .tup [.buf 7, .d (.bool (B a))] ∧ r = [(7, .buf e k (N a) (Gt a))]))) := by
 refine ⟨(h fun _ => False).enter, fun G β w vs hpre hvl hvd => ?_⟩
 have hβ : ∀ d, β d = none := fun d => by
  cases hb : β d with
  | none => rfl
  | some v => obtain ⟨r, hr⟩ := hpre.sc d v hb; cases hr
 obtain ⟨X, hX⟩ : ∃ X : Nat → Prop, X = fun b => (G b).isSome = true := ⟨_, rfl⟩
 have hle : β.le (fun d => if d = 1000007 then some (.bool true) else none) := fun d v hd => by rw [hβ d] at hd; cases hd
 have hlk : ∀ d r, lookL [((1000007 : Nat), Res.inX X)] d = some r → d = 1000007 ∧ r = .inX X := fun d r hd => by
  simp only [lookL] at hd
  cases hq : Nat.beq d 1000007 with
  | false => rw [hq] at hd; cases hd
  | true => rw [hq] at hd; cases hd; exact ⟨Nat.eq_of_beq_eq_true hq, rfl⟩
 have hpre2 : Pre G (fun d => if d = 1000007 then some (.bool true) else none) w (lookL [((1000007 : Nat), Res.inX X)]) := by
  refine ⟨hpre.gw, fun d r hd => ?_, fun d d' r r' v v' b h1 h2 o1 => ?_, fun d r v b h1 o1 => ?_, fun d v hd => ?_⟩
  · obtain ⟨rfl, rfl⟩ := hlk d r hd
    exact ⟨⟨_, if_pos rfl⟩, fun b hb => by rw [hX] at hb; exact hb⟩
  · obtain ⟨_, rfl⟩ := hlk d r h1; cases o1
  · obtain ⟨_, rfl⟩ := hlk d r h1; cases o1
  · by_cases q : d = 1000007
    · subst q; exact ⟨_, rfl⟩
    · rw [if_neg q] at hd; cases hd
 have hT : ∀ b, ¬ Tin w (fun d => if d = 1000007 then some (.bool true) else none) (lookL [((1000007 : Nat), Res.inX X)]) b := by
  rintro b ⟨d, r, v, h1, h2, _⟩
  obtain ⟨_, rfl⟩ := hlk d r h1; cases h2
 have hT0 : Tin w (fun d => if d = 1000007 then some (.bool true) else none) (lookL [((1000007 : Nat), Res.inX X)]) = Tin w β (lookL []) := by
  funext b
  refine propext ⟨fun z => absurd z (hT b), ?_⟩
  rintro ⟨d, r, v, h1, _⟩; cases h1
 refine ((h X).calls G _ w vs hpre2 hvl (fun i x v hx hv => (hvd i x v hx hv).mono (Hp.le_refl G) hle)).mono ?_
 rintro e' w' ⟨v, y, rout, G', β2, he, ⟨⟨a, hS, rfl⟩, rfl⟩, ho, hden⟩
 have hgn : ∀ b o, G' b = some o → G b = some o ∨ w.heap.size ≤ b := fun b o hb => by
  rcases ho.gn b o hb with q | q | q
  · exact .inl q
  · exact absurd q (hT b)
  · exact .inr q
 have hkeep := ho.keep
 rw [hT0] at hkeep
 cases hden with | tup _ us hul hu =>
 have hul : us.length = 2 := hul
 obtain ⟨v0, v1, rfl⟩ : ∃ v0 v1, us = [v0, v1] := by
  match us, hul with
  | [v0, v1], _ => exact ⟨v0, v1, rfl⟩
 have d0 := hu 0 _ _ rfl rfl
 have d1 := hu 1 _ _ rfl rfl
 cases d0 with | d _ _ d0 =>
 cases d1 with | d _ _ d1 =>
 cases d1 with | bool =>
 rcases Nat.eq_zero_or_pos (N a) with hz | hz
 · refine ⟨_, .tup [.d (.ro k 0 (Gt a)), .d (.bool (B a))], [], G', β, he, ⟨a, hS, .inl ⟨hz, rfl, rfl⟩⟩, ⟨ho.gle, Env.le_refl β, ho.gw, fun b o hb => (hgn b o hb).imp id .inr, hkeep, (fun d r hd => by cases hd), (fun d d' r r' v v' b hd => by cases hd), (fun d r v b hd => by cases hd)⟩, ?_⟩
   refine .tup _ _ rfl (fun i x v hx hv => ?_)
   match i, hx, hv with
   | 0, hx, hv => cases hx; cases hv; rw [hz] at d0; exact .d _ _ d0.unfrs
   | 1, hx, hv => cases hx; cases hv; exact .d _ _ (.bool _)
 · obtain ⟨m, hNm⟩ : ∃ m, N a = m := ⟨_, rfl⟩
   obtain ⟨gt, hGm⟩ : ∃ gt, Gt a = gt := ⟨_, rfl⟩
   have hfl := fun (i j : Nat) (x : DV) (hi : i < m) (hx : (gt i)[j]? = some x) => hflat a hS i j x (by omega) (by rw [hGm]; exact hx)
   rw [hNm, hGm] at d0
   rw [hNm] at hz
   cases d0 with
   | frsnil _ _ _ _ => omega
   | frse _ _ _ _ _ _ _ _ => omega
   | frs _ _ _ _ _ b cap cur vals hXb hb hcap hmax hsz hl hc hd =>
     have hGb : G b = none := by
      cases hg : G b with
      | none => rfl
      | some o => exact absurd (by rw [hX]; show (G b).isSome = true; rw [hg]; rfl) hXb
     have hbs : w.heap.size ≤ b := by
      rcases hgn b _ hb with q | q
      · rw [hGb] at q; cases q
      · exact q
     refine ⟨_, .tup [.buf 7, .d (.bool (B a))], [(7, .buf e k m gt)], fun c => if c = b then none else G' c, fun d => if d = 7 then some (.slice (some ⟨b, 0, none⟩) m cap) else none, he, ⟨a, hS, .inr ⟨by omega, rfl, by rw [hNm, hGm]⟩⟩, ?_, ?_⟩
     · have hlk7 : ∀ d r, lookL [((7 : Nat), Res.buf e k m gt)] d = some r → d = 7 ∧ r = .buf e k m gt := fun d r hd => by
        simp only [lookL] at hd
        cases hq : Nat.beq d 7 with
        | false => rw [hq] at hd; cases hd
        | true => rw [hq] at hd; cases hd; exact ⟨Nat.eq_of_beq_eq_true hq, rfl⟩
       refine ⟨fun c o hg => ?_, (fun d v hd => by rw [hβ d] at hd; cases hd), fun c o hg => ?_, fun c o hg => ?_, hkeep, fun d r hdl => ?_, fun d d' r r' v v' c h1 h2 _ _ _ _ _ _ => ?_, fun d r v c h1 o1 hv hbk => ?_⟩
       · have : c ≠ b := fun q => by rw [q, hGb] at hg; cases hg
         show (if c = b then none else G' c) = some o
         rw [if_neg this]; exact ho.gle c o hg
       · have hg : (if c = b then none else G' c) = some o := hg
         split at hg
         · cases hg
         · exact ho.gw c o hg
       · have hg : (if c = b then none else G' c) = some o := hg
         split at hg
         · cases hg
         · exact (hgn c o hg).imp id .inr
       · obtain ⟨rfl, rfl⟩ := hlk7 d r hdl
         have hlen : m * k ≤ cur.size := by rw [hsz]; exact Nat.mul_le_mul_right _ hcap
         refine ⟨_, cur.toList.take (m * k), if_pos rfl, ⟨?_, .inr ⟨b, cap, cur, rfl, by omega, ho.gw _ _ hb, hcap, hmax, hsz, rfl⟩⟩, hk, hl, fun i j x hi hx => ?_⟩
         · simp; omega
         · have hlt : i * k + j < m * k := by
            have := (List.getElem?_eq_some_iff.1 hx).1
            rw [hl i hi] at this
            calc i * k + j < i * k + k := by omega
             _ = (i + 1) * k := by rw [Nat.add_mul, Nat.one_mul]
             _ ≤ m * k := Nat.mul_le_mul_right _ hi
           refine ⟨vals i j, ?_, (hd i j x hi hx).flat (hfl i j x hi hx)⟩
           rw [List.getElem?_take_of_lt hlt, Array.getElem?_toList]; exact hc i j x hi hx
       · rw [(hlk7 d r h1).1, (hlk7 d' r' h2).1]
       · obtain ⟨rfl, rfl⟩ := hlk7 d r h1
         have hv : (if 7 = 7 then some (Value.slice (some ⟨b, 0, none⟩) m cap) else none) = some v := hv
         rw [if_pos rfl] at hv; cases hv
         have : b = c := by have := hbk.plain rfl; cases this; rfl
         subst this
         exact ⟨if_pos rfl, .inr hbs⟩
     · refine .tup _ _ rfl (fun i x v hx hv => ?_)
       match i, hx, hv with
       | 0, hx, hv => cases hx; cases hv; exact .buf _ _ (if_pos rfl) rfl
       | 1, hx, hv => cases hx; cases hv; exact .d _ _ (.bool _)
end Go.Eng
set_option maxRecDepth 20000
namespace Go.Proofs.YteehenjdddlnnaaGreatDoor
open Go Go.Eng
theorem p138 (n : Int) : FSpec Tryz.prog 138 [.d (.int .i64 n)] [] (fun y r => y = .d (.int .i64 (sgnI n)) ∧ r = []) := by
 refine spec_of hT (C := []) Tryz.func138 rfl Tryz.call138 rfl rfl rfl ?_
 conv => whnf
 repeat' (first | (refine br_intro ?_ ?_ <;> intro hb <;> (try simp only [brs] at hb) <;> conv => whnf) | omega | (refine And.intro ?_ ?_; ((try dsimp only); first | omega | (refine szA rfl ?_; omega) | (refine szB rfl ?_; omega) | (unfold inI64; omega) | exact rfl | (simp only [lns] at *; omega) | decide | (unfold inI64; decide)); conv => whnf) | decide | assumption)
 all_goals
  refine .ret _ ?_
  conv => whnf
  refine ⟨[], ⟨?_, rfl⟩, trivial⟩
  conv => lhs; whnf
  unfold sgnI
  first
   | (rw [if_pos (by omega)]; done)
   | (rw [if_neg (by omega), if_pos (by omega)]; done)
   | (rw [if_neg (by omega), if_neg (by omega)]; done)
def mvS (x : Mov) : Prop := -1000000 ≤ x.many ∧ x.many ≤ 1000000
theorem p121 (x y : Mov) (hx : mvS x) (hy : mvS y) : FSpec Tryz.prog 121 [.agg ((mvF x).map .d), .agg ((mvF y).map .d)] [] (fun v r => v = .d (.int .i64 (mvC x y)) ∧ r = []) := by
 obtain ⟨hx1, hx2⟩ := hx
 obtain ⟨hy1, hy2⟩ := hy
 obtain ⟨c, hc⟩ : ∃ c, endsC x.a x.b y.a y.b = c := ⟨_, rfl⟩
 have h108 := z108 x.a x.b y.a y.b
 rw [hc] at h108
 refine spec_of hT (C := []) Tryz.func121 rfl Tryz.call121 rfl rfl rfl ?_
 conv => whnf
 repeat' (first | (refine CallX.exact (h108) rfl rfl ?_; rotate_right; conv => whnf) | (refine CallX.exact (p138 _) rfl rfl ?_; rotate_right; conv => whnf) | (refine br_intro ?_ ?_ <;> intro hb <;> (try simp only [brs] at hb) <;> conv => whnf) | omega | (refine And.intro ?_ ?_; ((try dsimp only); first | omega | (refine szA rfl ?_; omega) | (refine szB rfl ?_; omega) | (unfold inI64; omega) | exact rfl | (simp only [lns] at *; omega) | decide | (unfold inI64; decide)); conv => whnf) | decide | assumption)
 all_goals
  refine .ret _ ?_
  conv => whnf
  refine ⟨[], ⟨?_, rfl⟩, trivial⟩
  conv => lhs; whnf
  unfold mvC
  rw [hc]
  first
   | (rw [if_pos (by omega)]; done)
   | (rw [if_neg (by omega)]; done)
theorem cmpF_drop {α : Type} {c : α → α → Int} {d : α} {a b : List α} {i : Nat} (h1 : i < a.length) (h2 : i < b.length) : cmpF c (a.drop i) (b.drop i) = if c (a.getD i d) (b.getD i d) = 0 then cmpF c (a.drop (i + 1)) (b.drop (i + 1)) else c (a.getD i d) (b.getD i d) := by
 rw [List.drop_eq_getElem_cons h1, List.drop_eq_getElem_cons h2, cmpF]
 have e1 : a.getD i d = a[i] := by simp [List.getD_eq_getElem?_getD, h1]
 have e2 : b.getD i d = b[i] := by simp [List.getD_eq_getElem?_getD, h2]
 rw [e1, e2]
set_option maxHeartbeats 4000000 in
theorem p120 (a b : List Mov) (ha : a.length ≤ 2^40) (hb0 : b.length ≤ 2^40) (h1 : ∀ m ∈ a, mvS m) (h2 : ∀ m ∈ b, mvS m) : FSpec Tryz.prog 120 [.d (movs a), .d (movs b), .fn 121 []] [] (fun v r => v = .d (.int .i64 (cmpF mvC a b)) ∧ r = []) := by
 refine spec_of hT (C := []) Tryz.func120 rfl Tryz.call120 rfl rfl rfl ?_
 conv => whnf
 refine LoopX.rule hT (C := []) (ι := Nat) (fun i => (i ≤ a.length ∧ i ≤ b.length) ∧ cmpF mvC a b = cmpF mvC (a.drop i) (b.drop i)) (fun i => mkSt [(0, .d (movs a)), (1, .d (movs b)), (2, .fn 121 []), (11, .d (movs a)), (12, .d (.int .i64 a.length)), (13, .d (.int .i64 i))] []) (fun i => a.length - i) 0 ⟨⟨Nat.zero_le _, Nat.zero_le _⟩, rfl⟩ ?_ ?_
 · exact Entails.mk' [] rfl rfl ⟨lr, lr, lr, lr, lr, lr, trivial⟩ trivial
 rintro i ⟨⟨hi1, hi2⟩, hc⟩
 have hi1 : i ≤ a.length := hi1
 have hi2 : i ≤ b.length := hi2
 have ei : (i : Int).toNat = i := Int.toNat_natCast i
 have hx : i < a.length → mvS (a.getD (i : Int).toNat mv0) := fun h => h1 _ (getD_mem (by rw [ei]; exact h))
 have hy : i < b.length → mvS (b.getD (i : Int).toNat mv0) := fun h => h2 _ (getD_mem (by rw [ei]; exact h))
 rcases Nat.lt_or_ge i a.length with hia | hia
 · rcases Nat.lt_or_ge i b.length with hib | hib
   · obtain ⟨c, hcc⟩ : ∃ c, mvC (a.getD (i : Int).toNat mv0) (b.getD (i : Int).toNat mv0) = c := ⟨_, rfl⟩
     have h121 := p121 _ _ (hx hia) (hy hib)
     rw [hcc] at h121
     have hd := cmpF_drop (c := mvC) (d := mv0) hia hib
     rw [ei] at hcc
     rw [hcc] at hd
     conv => whnf
     repeat' (first | (refine CallX.exact (h121) rfl rfl ?_; rotate_right; conv => whnf) | (refine br_intro ?_ ?_ <;> intro hb <;> (try simp only [brs] at hb) <;> conv => whnf) | omega | (refine And.intro ?_ ?_; ((try dsimp only); first | omega | (refine szA rfl ?_; omega) | (refine szB rfl ?_; omega) | (unfold inI64; omega) | exact rfl | (simp only [lns] at *; omega) | decide | (unfold inI64; decide)); conv => whnf) | decide | assumption)
     all_goals try (exfalso; omega)
     · refine .ret _ ?_
       conv => whnf
       refine ⟨[], ⟨?_, rfl⟩, trivial⟩
       conv => lhs; whnf
       rw [hc, hd, if_neg (by omega)]
     · rw [if_pos (by omega)] at hd
       exact ⟨i + 1, ⟨⟨hia, hib⟩, by rw [hc, hd]⟩, by omega, Entails.mk' [] rfl rfl ⟨lr, lr, lr, lr, lr, lr, trivial⟩ trivial⟩
   · conv => whnf
     repeat' (first | (refine br_intro ?_ ?_ <;> intro hb <;> (try simp only [brs] at hb) <;> conv => whnf) | omega | (refine And.intro ?_ ?_; ((try dsimp only); first | omega | (refine szA rfl ?_; omega) | (refine szB rfl ?_; omega) | (unfold inI64; omega) | exact rfl | (simp only [lns] at *; omega) | decide | (unfold inI64; decide)); conv => whnf) | decide | assumption)
     all_goals try (exfalso; omega)
     refine .ret _ ?_
     conv => whnf
     refine ⟨[], ⟨?_, rfl⟩, trivial⟩
     conv => lhs; whnf
     rw [hc, List.drop_eq_nil_of_le hib, List.drop_eq_getElem_cons hia]; rfl
 · conv => whnf
   repeat' (first | (refine br_intro ?_ ?_ <;> intro hb <;> (try simp only [brs] at hb) <;> conv => whnf) | omega | (refine And.intro ?_ ?_; ((try dsimp only); first | omega | (refine szA rfl ?_; omega) | (refine szB rfl ?_; omega) | (unfold inI64; omega) | exact rfl | (simp only [lns] at *; omega) | decide | (unfold inI64; decide)); conv => whnf) | decide | assumption)
   all_goals try (exfalso; omega)
   all_goals
    refine .ret _ ?_
    conv => whnf
    refine ⟨[], ⟨?_, rfl⟩, trivial⟩
    conv => lhs; whnf
    rw [hc, List.drop_eq_nil_of_le hia]
   · rw [List.drop_eq_getElem_cons (by omega)]; rfl
   · rw [List.drop_eq_nil_of_le (by omega)]; rfl
abbrev pmF (p : Pla Mov) : List DV := [movs p.l, .int .i64 p.cost]
abbrev frsM (X : Nat → Prop) (l : List Mov) : DV := .frs 70 3 l.length X (rowF mvF mv0 l)
abbrev pzF (X : Nat → Prop) (p : Pla Mov) : List DV := [frsM X p.l, .int .i64 p.cost]
def pzB (p : Pla Mov) : Prop := p.l.length ≤ 1000 ∧ ∀ m ∈ p.l, mvS m
theorem p96 (p q : Pla Mov) (hp : pzB p) (hq : pzB q) : FSpec Tryz.prog 96 [.agg ((pmF p).map .d), .agg ((pmF q).map .d)] [] (fun v r => v = .d (.bool (lessP mvC p q)) ∧ r = []) := by
 have hp1 := hp.1
 have hq1 := hq.1
 refine spec_of hT (C := []) Tryz.func96 rfl Tryz.call96 rfl rfl rfl ?_
 conv => whnf
 repeat' (first | (refine CallX.exact (p120 p.l q.l (by omega) (by omega) hp.2 hq.2) rfl rfl ?_; rotate_right; conv => whnf) | (refine br_intro ?_ ?_ <;> intro hb <;> (try simp only [brs] at hb) <;> conv => whnf) | omega | (refine And.intro ?_ ?_; ((try dsimp only); first | omega | (refine szA rfl ?_; omega) | (refine szB rfl ?_; omega) | (unfold inI64; omega) | exact rfl | (simp only [lns] at *; omega) | decide | (unfold inI64; decide)); conv => whnf) | decide | assumption)
 all_goals
  refine .ret _ ?_
  conv => whnf
  refine ⟨[], ⟨?_, rfl⟩, trivial⟩
  conv => lhs; whnf
  unfold lessP
  first
   | (rw [if_pos (by omega)]; done)
   | (rw [if_neg (by omega)]; done)
abbrev bys (l : List UInt8) : DV := seqD 1 byteD 0 l
theorem p97 (l : List UInt8) (hl : l.length ≤ 2^20) : FSpec Tryz.prog 97 [.d (bys l)] [] (fun y r => y = .buf 7 ∧ r = [(7, seqB 5 1 byteD 0 l)]) := by
 refine spec_of hT (C := [5]) Tryz.func97 rfl Tryz.call97 rfl rfl rfl ?_
 conv => whnf
 rintro b hbn
 conv => whnf
 repeat' (first | (refine br_intro ?_ ?_ <;> intro hb <;> (try simp only [brs] at hb) <;> conv => whnf) | omega | (refine And.intro ?_ ?_; ((try dsimp only); first | omega | (refine szA rfl ?_; omega) | (refine szB rfl ?_; omega) | (unfold inI64; omega) | exact rfl | (simp only [lns] at *; omega) | decide | (unfold inI64; decide)); conv => whnf) | decide | assumption)
 · have h0 : l = [] := List.eq_nil_of_length_eq_zero (hbn (by assumption))
   subst h0
   refine .ent _ _ (Entails.nil 2 7 5 1 (rowF byteD 0 []) rfl rfl (by decide)) (.ret _ ?_)
   conv => whnf
   exact ⟨_, ⟨rfl, rfl⟩, rr, trivial⟩
 · refine .ret _ ?_
   conv => whnf
   refine ⟨_, ⟨rfl, rfl⟩, Res.le_buf (by simp) (fun i hi => ?_), trivial⟩
   rw [appGet_ge (by omega)]; rfl
theorem p98 (l : List Mov) (hl : l.length ≤ 2^20) : FSpec Tryz.prog 98 [.d (movs l)] [] (fun y r => y = .buf 7 ∧ r = [(7, seqB 70 3 mvF mv0 l)]) := by
 refine spec_of hT (C := [5]) Tryz.func98 rfl Tryz.call98 rfl rfl rfl ?_
 conv => whnf
 rintro b hbn
 conv => whnf
 repeat' (first | (refine br_intro ?_ ?_ <;> intro hb <;> (try simp only [brs] at hb) <;> conv => whnf) | omega | (refine And.intro ?_ ?_; ((try dsimp only); first | omega | (refine szA rfl ?_; omega) | (refine szB rfl ?_; omega) | (unfold inI64; omega) | exact rfl | (simp only [lns] at *; omega) | decide | (unfold inI64; decide)); conv => whnf) | decide | assumption)
 · have h0 : l = [] := List.eq_nil_of_length_eq_zero (hbn (by assumption))
   subst h0
   refine .ent _ _ (Entails.nil 2 7 70 3 (rowF mvF mv0 []) rfl rfl (by decide)) (.ret _ ?_)
   conv => whnf
   exact ⟨_, ⟨rfl, rfl⟩, rr, trivial⟩
 · refine .ret _ ?_
   conv => whnf
   refine ⟨_, ⟨rfl, rfl⟩, Res.le_buf (by simp) (fun i hi => ?_), trivial⟩
   rw [appGet_ge (by omega)]; rfl
def keyS : List DV → List UInt8
 | [.str s] => s
 | _ => []
theorem wk_str {K : List DV} (h : wk [.str] K = true) : ∃ s, K = [.str s] := by
 cases K with
 | nil => simp [wk] at h
 | cons x r =>
   cases r with
   | cons y r => simp [wk] at h
   | nil => cases x <;> simp [wk, wk1] at h; exact ⟨_, rfl⟩
def pzV (X : Nat → Prop) : Option (Pla Mov) → List DV
 | some p => pzF X p
 | none => [.nilsl, .int .i64 0]
def pmH (M : PMap Mov) (K : List DV) : Bool := (M (keyS K)).isSome
def pmV (X : Nat → Prop) (M : PMap Mov) (K : List DV) : List DV := pzV X (M (keyS K))
abbrev pmR (X : Nat → Prop) (M : PMap Mov) : Res := .map false true [.str] [.nilsl, .int .i64 0] (pmH M) (pmV X M)
theorem SV.le_frsx {e k n m : Nat} {X : Nat → Prop} {g h : Nat → List DV} (hn : n = m) (hg : ∀ i, i < n → g i = h i) : SV.le (.d (.frs e k n X g)) (.d (.frs e k m X h)) := by
 subst hn
 intro G β v hv
 cases hv with | d _ _ hv =>
 refine .d _ _ ?_
 cases hv with
 | frsnil => exact .frsnil _ _ _ _
 | frse _ _ _ _ a cap hs hmax => exact .frse _ _ _ _ a cap hs hmax
 | frs _ _ _ _ _ b cap cur vals hX hb hcap hmax hsz hl hc hd => exact .frs _ _ _ _ _ b cap cur vals hX hb hcap hmax hsz (fun i hi => by rw [← hg i hi]; exact hl i hi) (fun i j x hi hx => hc i j x hi (by rw [hg i hi]; exact hx)) (fun i j x hi hx => hd i j x hi (by rw [hg i hi]; exact hx))
theorem keyEq_str (s x : List UInt8) : keyEq [.str s] [.str x] = decide (s = x) := by rw [Bool.eq_iff_iff]; simp [keyEq, keyEq1]
theorem pmR_ins {X : Nat → Prop} {M M' : PMap Mov} {x : List UInt8} {p : Pla Mov} (h : ∀ s, M' s = if s = x then some p else M s) :
 Res.le (.map false true [.str] [.nilsl, .int .i64 0] (fun q => keyEq q [.str x] || pmH M q) (fun q => bif keyEq q [.str x] then pzF X p else pmV X M q)) (pmR X M') := Res.le_map fun K hK => by
 obtain ⟨s, rfl⟩ := wk_str hK
 rw [keyEq_str]
 unfold pmH pmV
 show (decide (s = x) || (M s).isSome) = (M' s).isSome ∧ (bif decide (s = x) then pzF X p else pzV X (M s)) = pzV X (M' s)
 rw [h s]
 by_cases q : s = x
 · rw [if_pos q, decide_eq_true q]; exact ⟨rfl, rfl⟩
 · rw [if_neg q, decide_eq_false q]; exact ⟨Bool.false_or _, rfl⟩
theorem pmR_eq {X : Nat → Prop} {M M' : PMap Mov} (h : ∀ s, M' s = M s) : Res.le (pmR X M) (pmR X M') := by
 have : M' = M := funext h
 rw [this]; exact rr
def oVPfT69_12 : List (Nat × List Nat) := [(0, []), (1, []), (3, [0, 1]), (4, [0, 1, 3]), (5, [0, 1, 3, 4]), (6, [0, 1, 3]), (7, [0, 1, 3]), (8, [0, 1, 3, 4, 5, 6, 7]), (9, [0, 1]), (10, [0, 1]), (12, [0, 1, 3, 4, 5, 6, 7, 8, 9, 10]), (13, [0, 1, 3, 4, 5, 6, 7, 8, 9, 10]), (14, [0, 1, 3, 4, 5, 6, 7, 8, 9, 10, 12, 13]), (15, [0, 1, 3, 4, 5, 6, 7, 8, 9, 10, 12, 13, 14]), (16, [0, 1, 3, 4, 5, 6, 7, 8, 9, 10, 12, 13, 14]), (17, [0, 1, 3, 4, 5, 6, 7, 8, 9, 10, 12, 13]), (18, [0, 1, 3, 4, 5, 6, 7, 8, 9, 10]), (20, [0, 1, 3, 4, 5, 6, 7, 8, 9, 10, 12, 13, 14, 15, 16, 17, 18]), (2, [3, 4, 5, 6, 7, 8, 9, 10, 12, 13, 14, 15, 16, 17, 18, 20]), (11, [12, 13, 14, 15, 16, 17, 18, 20]), (19, [20]), (21, [])]
def mapB (M : PMap Mov) : Prop := ∀ σ q, M σ = some q → pzB q
theorem insM_b {M : PMap Mov} (h : mapB M) {σ : List UInt8} {p : Pla Mov} (hp : pzB p) : mapB (insM mvC M σ p) := by
 intro τ q hq
 unfold insM at hq
 split at hq
 · cases hM : M σ with
   | none => rw [hM] at hq; cases hq; exact hp
   | some old =>
     rw [hM] at hq
     simp only at hq
     split at hq
     · cases hq; exact hp
     · cases hq; exact h σ _ hM
 · exact h τ q hq
theorem rep_b {F : Int → PMap Mov → PMap Mov} : ∀ {n : Nat} {M : PMap Mov}, mapB M → (∀ k M, 1 ≤ k → k ≤ (n : Int) → mapB M → mapB (F k M)) → mapB (rep F n M)
 | 0, _, h, _ => h
 | n + 1, M, h, hF => by
   rw [rep]
   exact hF _ _ (by omega) (by omega) (rep_b h fun k M h1 h2 hM => hF k M h1 (by omega) hM)
def roomP (p : Pla Mov) (left : Int) (d : Nat) : Prop := (p.l.length + d ≤ 1000 ∧ ∀ m ∈ p.l, mvS m) ∧ (0 ≤ left ∧ left ≤ 20) ∧ 0 ≤ p.cost ∧ p.cost + left * 1000000 ≤ 1000000000000
theorem roomP.b {p : Pla Mov} {left : Int} {d : Nat} (h : roomP p left d) : pzB p := ⟨by have := h.1.1; omega, h.1.2⟩
theorem roomP.skip {p : Pla Mov} {left : Int} {d : Nat} (h : roomP p left (d + 1)) : roomP p left d := ⟨⟨by have := h.1.1; omega, h.1.2⟩, h.2⟩
theorem roomP.app {p : Pla Mov} {left n car : Int} {d : Nat} (h : roomP p left (d + 1)) (h1 : 1 ≤ n) (h2 : n ≤ left) (hc : 0 ≤ car ∧ car ≤ 1000000) {a b : List UInt8} : roomP (p.app [⟨a, b, n⟩] (n * car)) (left - n) d := by
 obtain ⟨⟨q1, q2⟩, q3, q4, q5⟩ := h
 have hm : 0 ≤ n * car := Int.mul_nonneg (by omega) hc.1
 have hm2 : n * car ≤ n * 1000000 := Int.mul_le_mul_of_nonneg_left hc.2 (by omega)
 refine ⟨⟨?_, fun m hm => ?_⟩, by omega, ?_, ?_⟩
 · show (p.l ++ _).length + d ≤ 1000
   rw [List.length_append]; simp; omega
 · rcases List.mem_append.1 hm with z | z
   · exact q2 m z
   · have : m = ⟨a, b, n⟩ := by simpa using z
     subst this
     exact ⟨by show -1000000 ≤ n; omega, by show n ≤ 1000000; omega⟩
 · show 0 ≤ p.cost + n * car; omega
 · show p.cost + n * car + (left - n) * 1000000 ≤ 1000000000000
   have : (left - n) * 1000000 = left * 1000000 - n * 1000000 := Int.sub_mul _ _ _
   omega
structure SndO (r : List Roa) (fr : List UInt8) (want : List (List UInt8)) (s : Stn Mov) : Prop where
 way : ∀ k, k < want.length → s.way k = (roadO r fr (want.getD k [])).map (·.car)
 mv : ∀ k v, k < want.length → s.mv k v = ⟨fr, want.getD k [], v⟩
theorem stL_len (st : List UInt8) (k : Nat) (n : Int) : (stL st k n).length = st.length := by unfold stL; rw [List.length_set]
theorem sendM_b {r : List Roa} {fr : List UInt8} {want : List (List UInt8)} {s : Stn Mov} (hs : SndO r fr want s) (hr : rdsE r = 0) : ∀ (d k : Nat) (st : List UInt8) (left : Int) (p : Pla Mov) (M : PMap Mov), k + d = want.length → roomP p left d → mapB M → mapB (sendM mvC s d k st left p M) := by
 intro d
 induction d with
 | zero => intro k st left p M _ hp hM; rw [sendM]; exact insM_b hM hp.b
 | succ d ih =>
   intro k st left p M hk hp hM
   have h1 := ih (k + 1) st left p M (by omega) hp.skip hM
   rw [sendM, hs.way k (by omega)]
   cases q : roadO r fr (want.getD k []) with
   | none => exact h1
   | some x =>
     have hx := (roadO_bd hr q).1
     refine rep_b h1 fun n M' n1 n2 hM' => ?_
     refine ih (k + 1) _ _ _ _ (by omega) ?_ hM'
     rw [hs.mv k n (by omega)]
     exact hp.app n1 (by omega) hx
set_option maxHeartbeats 8000000 in
theorem p69 {X : Nat → Prop} {r : List Roa} {fr : List UInt8} {want : List (List UInt8)} {s : Stn Mov} (hs : SndO r fr want s) (hr : rdsE r = 0) (hw : want.length ≤ 1000) : ∀ (d k : Nat) (st : List UInt8) (left : Int) (p : Pla Mov) (M : PMap Mov), k + d = want.length → st.length = want.length → roomP p left d → mapB M →
 FSpec Tryz.prog 69 [.d (roas r), .d (.str fr), .d (strs want), .d (bys st), .d (.int .i64 k), .d (.int .i64 left), .agg ((pzF X p).map .d), .mp 1000000] [(1000000, pmR X M), (1000007, .inX X)] (fun y q => y = .tup [] ∧ q = [(1000000, pmR X (sendM mvC s d k st left p M)), (1000007, .inX X)]) := by
 intro d
 induction d with
 | zero =>
   intro k st left p M hk hst hp hM
   cases hMs : M st with
   | none =>
     have hm2 : M (keyS [.str st]) = none := hMs
     have hv : pmV X M [.str st] = [.nilsl, .int .i64 0] := by unfold pmV; rw [hm2]; rfl
     have hh : pmH M [.str st] = false := by unfold pmH; rw [hm2]; rfl
     refine spec_of hT (C := []) Tryz.func69 rfl Tryz.call69 rfl rfl rfl ?_
     conv => whnf
     repeat' (first | (refine And.intro (rfl : zrow _ = some [.nilsl, .int .i64 0]) ?_; conv => whnf) | (refine ⟨st, ⟨rfl, fun _ _ => rfl⟩, ?_⟩; conv => whnf) | (rw [hv, hh]; conv => whnf) | (refine br_intro ?_ ?_ <;> intro hb <;> (try simp only [brs] at hb) <;> conv => whnf) | (refine RegX.rule (id := 12) hT rfl [] oVPfT69_12 (by decide +kernel) ?_; conv => whnf) | omega | (refine And.intro ?_ ?_; ((try dsimp only); first | omega | (refine szA rfl ?_; omega) | (refine szB rfl ?_; omega) | (unfold inI64; omega) | exact rfl | (simp only [lns] at *; omega) | decide | (unfold inI64; decide)); conv => whnf) | decide | assumption)
     all_goals try (exfalso; omega)
     refine .ret _ ?_
     conv => whnf
     refine ⟨_, ⟨rfl, rfl⟩, ?_, rr, trivial⟩
     refine pmR_ins fun s' => ?_
     rw [sendM, insM, hMs]
   | some old =>
     have hm2 : M (keyS [.str st]) = some old := hMs
     have hv : pmV X M [.str st] = pzF X old := by unfold pmV; rw [hm2]; rfl
     have hh : pmH M [.str st] = true := by unfold pmH; rw [hm2]; rfl
     refine spec_of hT (C := []) Tryz.func69 rfl Tryz.call69 rfl rfl rfl ?_
     conv => whnf
     repeat' (first | (refine And.intro (rfl : zrow _ = some [.nilsl, .int .i64 0]) ?_; conv => whnf) | (refine ⟨st, ⟨rfl, fun _ _ => rfl⟩, ?_⟩; conv => whnf) | (rw [hv, hh]; conv => whnf) | (refine CallX.pure (p96 p old hp.b (hM _ _ hMs)) ⟨SV.le_agg ⟨SV.le_frs, lr, trivial⟩, SV.le_agg ⟨SV.le_frs, lr, trivial⟩, trivial⟩ rfl ?_; conv => whnf) | (refine br_intro ?_ ?_ <;> intro hb <;> (try simp only [brs] at hb) <;> conv => whnf) | (refine RegX.rule (id := 12) hT rfl [] oVPfT69_12 (by decide +kernel) ?_; conv => whnf) | omega | (refine And.intro ?_ ?_; ((try dsimp only); first | omega | (refine szA rfl ?_; omega) | (refine szB rfl ?_; omega) | (unfold inI64; omega) | exact rfl | (simp only [lns] at *; omega) | decide | (unfold inI64; decide)); conv => whnf) | decide | assumption)
     all_goals try (exfalso; omega)
     · refine .ret _ ?_
       conv => whnf
       refine ⟨_, ⟨rfl, rfl⟩, ?_, rr, trivial⟩
       refine pmR_ins fun s' => ?_
       rw [sendM, insM, hMs]
       simp only [hb, if_true]
     · refine .ret _ ?_
       conv => whnf
       refine ⟨_, ⟨rfl, rfl⟩, ?_, rr, trivial⟩
       refine pmR_eq fun s' => ?_
       rw [sendM, insM, hMs]
       simp only [hb]
       by_cases q : s' = st
       · rw [if_pos q, q, hMs]; rfl
       · rw [if_neg q]
 | succ d ih =>
   intro k st left p M hk hst hp hM
   have hrl := (rds_all hr).1
   have ek : (k : Int).toNat = k := Int.toNat_natCast k
   obtain ⟨⟨hp1, hp2⟩, hp3, hp4, hp5⟩ := hp
   have hp : roomP p left (d + 1) := ⟨⟨hp1, hp2⟩, hp3, hp4, hp5⟩
   have hway := hs.way k (by omega)
   have hM1 := sendM_b hs hr d (k + 1) st left p M (by omega) hp.skip hM
   have h113 := z113 r (by omega) fr (want.getD (k : Int).toNat [])
   have hih := ih (k + 1) st left p M (by omega) hst hp.skip hM
   cases hro : roadO r fr (want.getD k []) with
   | none =>
     rw [hro] at hway
     rw [ek, hro] at h113
     rw [← ek] at h113
     refine spec_of hT (C := []) Tryz.func69 rfl Tryz.call69 rfl rfl rfl ?_
     conv => whnf
     repeat' (first | (refine CallX.of hih [(1000000, 1000000), (1000007, 1000007)] rfl ⟨lr, lr, lr, lr, SV.le_int (by omega), lr, lr, lr, trivial⟩ ⟨rr, rr, trivial⟩ rfl rfl ?_; rintro x rout ⟨rfl, rfl⟩; refine ⟨rfl, ?_⟩; conv => whnf) | (refine CallX.exact (h113) rfl rfl ?_; rotate_right; conv => whnf) | (refine br_intro ?_ ?_ <;> intro hb <;> (try simp only [brs] at hb) <;> conv => whnf) | (refine RegX.rule (id := 12) hT rfl [] oVPfT69_12 (by decide +kernel) ?_; conv => whnf) | omega | (refine And.intro ?_ ?_; ((try dsimp only); first | omega | (refine szA rfl ?_; omega) | (refine szB rfl ?_; omega) | (unfold inI64; omega) | exact rfl | (simp only [lns] at *; omega) | decide | (unfold inI64; decide)); conv => whnf) | decide | assumption)
     all_goals try (exfalso; omega)
     refine LoopX.rule hT (C := []) (ι := Unit) (fun _ => True) (fun _ => mkSt [(0, .d (roas r)), (1, .d (.str fr)), (2, .d (strs want)), (3, .d (bys st)), (4, .d (.int .i64 k)), (5, .d (.int .i64 left)), (7, .mp 1000000), (14, .ptr 14 0), (18, .ptr 18 0), (19, .d (.bool false)), (20, .d (.int .i64 1))] [(1000000, pmR X (sendM mvC s d (k + 1) st left p M)), (1000007, .inX X), (14, .cells 124 ((pzF X p).map .d)), (18, .cells 64 ((rdF rd0).map .d))]) (fun _ => 0) () trivial ?_ ?_
     · exact Entails.mk' [(1000000, 1000000), (1000007, 1000007), (14, 14), (18, 18)] rfl rfl ⟨lr, lr, lr, lr, lr, lr, lr, lr, lr, lr, lr, trivial⟩ ⟨rr, rr, rr, rr, trivial⟩
     rintro _ _
     conv => whnf
     repeat' (first | (refine br_intro ?_ ?_ <;> intro hb <;> (try simp only [brs] at hb) <;> conv => whnf) | (refine RegX.rule (id := 12) hT rfl [] oVPfT69_12 (by decide +kernel) ?_; conv => whnf) | omega | (refine And.intro ?_ ?_; ((try dsimp only); first | omega | (refine szA rfl ?_; omega) | (refine szB rfl ?_; omega) | (unfold inI64; omega) | exact rfl | (simp only [lns] at *; omega) | decide | (unfold inI64; decide)); conv => whnf) | decide | assumption)
     all_goals try (exfalso; omega)
     refine .ret _ ?_
     conv => whnf
     refine ⟨_, ⟨rfl, rfl⟩, ?_, rr, trivial⟩
     refine pmR_eq fun s' => ?_
     rw [sendM, hway]; rfl
   | some x =>
     have hxc := (roadO_bd hr hro).1
     rw [hro] at hway
     rw [ek, hro] at h113
     rw [← ek] at h113
     refine spec_of hT (C := []) Tryz.func69 rfl Tryz.call69 rfl rfl rfl ?_
     conv => whnf
     repeat' (first | (refine CallX.of hih [(1000000, 1000000), (1000007, 1000007)] rfl ⟨lr, lr, lr, lr, SV.le_int (by omega), lr, lr, lr, trivial⟩ ⟨rr, rr, trivial⟩ rfl rfl ?_; rintro x rout ⟨rfl, rfl⟩; refine ⟨rfl, ?_⟩; conv => whnf) | (refine CallX.exact (h113) rfl rfl ?_; rotate_right; conv => whnf) | (refine br_intro ?_ ?_ <;> intro hb <;> (try simp only [brs] at hb) <;> conv => whnf) | (refine RegX.rule (id := 12) hT rfl [] oVPfT69_12 (by decide +kernel) ?_; conv => whnf) | omega | (refine And.intro ?_ ?_; ((try dsimp only); first | omega | (refine szA rfl ?_; omega) | (refine szB rfl ?_; omega) | (unfold inI64; omega) | exact rfl | (simp only [lns] at *; omega) | decide | (unfold inI64; decide)); conv => whnf) | decide | assumption)
     all_goals try (exfalso; omega)
     refine LoopX.rule hT (C := []) (ι := Nat) (fun j => (j : Int) ≤ left ∧ j ≤ (st.getD k 0).toNat) (fun j => mkSt [(0, .d (roas r)), (1, .d (.str fr)), (2, .d (strs want)), (3, .d (bys st)), (4, .d (.int .i64 k)), (5, .d (.int .i64 left)), (7, .mp 1000000), (14, .ptr 14 0), (18, .ptr 18 0), (19, .d (.bool true)), (20, .d (.int .i64 (j + 1 : Nat)))] [(1000000, pmR X (rep (fun n M => sendM mvC s d (k + 1) (stL st k n) (left - n) (p.app [s.mv k n] (n * x.car)) M) j (sendM mvC s d (k + 1) st left p M))), (1000007, .inX X), (14, .cells 124 ((pzF X p).map .d)), (18, .cells 64 ((rdF x).map .d))]) (fun j => 30 - j) 0 ⟨hp3.1, Nat.zero_le _⟩ ?_ ?_
     · exact Entails.mk' [(1000000, 1000000), (1000007, 1000007), (14, 14), (18, 18)] rfl rfl ⟨lr, lr, lr, lr, lr, lr, lr, lr, lr, lr, lr, trivial⟩ ⟨rr, rr, rr, rr, trivial⟩
     rintro j ⟨hj1, hj2⟩
     have hj1 : (j : Int) ≤ left := hj1
     have hj2 : j ≤ (st.getD k 0).toNat := hj2
     have hbt : (st.getD k 0).toNat < 256 := (st.getD k 0).toNat_lt
     have hbt' : (st.getD (k : Int).toNat 0).toNat < 256 := (st.getD (k : Int).toNat 0).toNat_lt
     by_cases hjj : ((j + 1 : Nat) : Int) ≤ left ∧ j + 1 ≤ (st.getD k 0).toNat
     · have hmul : 0 ≤ ((j + 1 : Nat) : Int) * x.car ∧ ((j + 1 : Nat) : Int) * x.car ≤ 20 * 1000000 := ⟨Int.mul_nonneg (by omega) hxc.1, Int.mul_le_mul (by omega) hxc.2 hxc.1 (by omega)⟩
       have hroom : roomP (p.app [⟨fr, want.getD k [], ((j + 1 : Nat) : Int)⟩] (((j + 1 : Nat) : Int) * x.car)) (left - ((j + 1 : Nat) : Int)) d := hp.app (by omega) hjj.1 hxc
       have hMj : mapB (rep (fun n M => sendM mvC s d (k + 1) (stL st k n) (left - n) (p.app [s.mv k n] (n * x.car)) M) j (sendM mvC s d (k + 1) st left p M)) := by
        refine rep_b hM1 fun n M' n1 n2 hM' => ?_
        refine sendM_b hs hr d (k + 1) _ _ _ _ (by omega) ?_ hM'
        rw [hs.mv k n (by omega)]
        exact hp.app n1 (by omega) hxc
       have hwr : IntKind.u8.wrap (((st.getD (k : Int).toNat 0).toNat : Int) - IntKind.u8.wrap ((j + 1 : Nat) : Int)) = ((UInt8.ofNat ((st.getD k 0).toNat - (j + 1))).toNat : Int) := by
        rw [ek, IntWalk.u8_in ((j + 1 : Nat) : Int) (by omega), IntWalk.u8_in _ (by omega), UInt8.toNat_ofNat']
        omega
       have hih2 := ih (k + 1) (stL st k ((j + 1 : Nat) : Int)) (left - ((j + 1 : Nat) : Int)) _ _ (by omega) (by rw [stL_len]; exact hst) hroom hMj
       conv => whnf
       repeat' (first | (refine CallX.of (p97 st (by omega)) [(7, 83)] rfl ⟨lr, trivial⟩ trivial rfl rfl ?_; rintro x rout ⟨rfl, rfl⟩; refine ⟨rfl, ?_⟩; conv => whnf) | (refine CallX.of (p98 p.l (by omega)) [(7, 94)] rfl ⟨SV.le_frs, trivial⟩ trivial rfl rfl ?_; rintro x rout ⟨rfl, rfl⟩; refine ⟨rfl, ?_⟩; conv => whnf) | (refine br_intro ?_ ?_ <;> intro hb <;> (try simp only [brs] at hb) <;> conv => whnf) | (refine RegX.rule (id := 12) hT rfl [] oVPfT69_12 (by decide +kernel) ?_; conv => whnf) | omega | (refine And.intro ?_ ?_; ((try dsimp only); first | omega | (refine szA rfl ?_; omega) | (refine szB rfl ?_; omega) | (unfold inI64; omega) | exact rfl | (simp only [lns] at *; omega) | decide | (unfold inI64; decide)); conv => whnf) | decide | assumption)
       all_goals try (exfalso; omega)
       refine CallX.freeze _ _ _ _ 83 5 1 _ _ rfl rfl ?_
       refine CallX.freezeF _ _ _ _ 1000007 103 70 3 _ _ _ rfl rfl rfl rfl ?_
       refine CallX.of hih2 [(1000000, 1000000), (1000007, 1000007)] rfl ⟨lr, lr, lr, ?_, ?_, lr, SV.le_agg ⟨?_, ?_, trivial⟩, lr, trivial⟩ ⟨rr, rr, trivial⟩ rfl rfl ?_
       · exact (SV.le_putF (x := UInt8.ofNat ((st.getD k 0).toNat - (j + 1))) (fun y _ => congrArg (fun z => [DV.int IntKind.u8 z]) hwr))
       · exact SV.le_int (by omega)
       · exact (SV.le_frsx (by show _ = (p.l ++ [_]).length; simp) (rows_snocF (f := mvF) (d := mv0) (l := p.l) (x := (⟨fr, want.getD k [], ((j + 1 : Nat) : Int)⟩ : Mov)) (by rfl)))
       · exact lr
       rintro x' rout ⟨rfl, rfl⟩
       refine ⟨rfl, ?_⟩
       conv => whnf
       repeat' (first | (refine br_intro ?_ ?_ <;> intro hb <;> (try simp only [brs] at hb) <;> conv => whnf) | (refine RegX.rule (id := 12) hT rfl [] oVPfT69_12 (by decide +kernel) ?_; conv => whnf) | omega | (refine And.intro ?_ ?_; ((try dsimp only); first | omega | (refine szA rfl ?_; omega) | (refine szB rfl ?_; omega) | (unfold inI64; omega) | exact rfl | (simp only [lns] at *; omega) | decide | (unfold inI64; decide)); conv => whnf) | decide | assumption)
       all_goals try (exfalso; omega)
       refine ⟨j + 1, ⟨hjj.1, hjj.2⟩, by omega, Entails.mk' [(1000000, 1000000), (1000007, 1000007), (14, 14), (18, 18)] rfl rfl ⟨lr, lr, lr, lr, lr, lr, lr, lr, lr, lr, lr, trivial⟩ ⟨?_, rr, rr, rr, trivial⟩⟩
       refine pmR_eq fun s' => ?_
       rw [rep, hs.mv k _ (by omega)]; rfl
     · conv => whnf
       repeat' (first | (refine br_intro ?_ ?_ <;> intro hb <;> (try simp only [brs] at hb) <;> conv => whnf) | (refine RegX.rule (id := 12) hT rfl [] oVPfT69_12 (by decide +kernel) ?_; conv => whnf) | omega | (refine And.intro ?_ ?_; ((try dsimp only); first | omega | (refine szA rfl ?_; omega) | (refine szB rfl ?_; omega) | (unfold inI64; omega) | exact rfl | (simp only [lns] at *; omega) | decide | (unfold inI64; decide)); conv => whnf) | decide | assumption)
       all_goals try (exfalso; omega)
       all_goals
        refine .ret _ ?_
        conv => whnf
        refine ⟨_, ⟨rfl, rfl⟩, ?_, rr, trivial⟩
        refine pmR_eq fun s' => ?_
        rw [sendM, hway]
        have ej : (min left ((st.getD k 0).toNat : Int)).toNat = j := by omega
        simp only [Option.map_some, ej]
theorem Res.le_mapW {ag va : Bool} {ks : List KK} {zr : List DV} {has has' : List DV → Bool} {val val' : List DV → List DV} (h : ∀ key, wk ks key = true → has key = has' key ∧ (has key = true → ∀ G v, RowDen G va (val key) v → RowDen G va (val' key) v) ∧ (has key = false → val' key = zr)) :
 Res.le (.map ag va ks zr has val) (.map ag va ks zr has' val') := by
 refine ⟨rfl, fun G β w d => ?_⟩
 rintro ⟨r, es, clock, l, h1, h2, h3, h4, h5, h6⟩
 refine ⟨r, es, clock, l, h1, h2, h3, h4, h5, fun key hk => ?_⟩
 have := h6 key hk
 obtain ⟨q1, q2, q3⟩ := h key hk
 split at this
 · exact ⟨by rw [← q1]; exact this.1, q2 this.1 _ _ this.2⟩
 · exact ⟨by rw [← q1]; exact this.1, q3 this.1⟩
theorem KB_stamp {ks : List KK} {has : List DV → Bool} {clock : Nat} {kb : List (List DV × Nat)} (hk : KB ks has clock kb) {p q : List DV × Nat} (hp : p ∈ kb) (hq : q ∈ kb) : (p.2 = q.2 ↔ p.1 = q.1) := by
 obtain ⟨i, hi, rfl⟩ := List.getElem_of_mem hp
 obtain ⟨j, hj, rfl⟩ := List.getElem_of_mem hq
 have h1 : ∀ i j (hi : i < kb.length) (hj : j < kb.length), i < j → kb[i].2 < kb[j].2 := fun i j hi hj hij => by
  have := List.pairwise_iff_getElem.1 hk.ki i j (by simpa using hi) (by simpa using hj) hij
  simpa using this
 have h2 : ∀ i j (hi : i < kb.length) (hj : j < kb.length), i < j → kb[i].1 ≠ kb[j].1 := fun i j hi hj hij e => by
  have := List.pairwise_iff_getElem.1 hk.kd i j (by simpa using hi) (by simpa using hj) hij
  rw [List.getElem_map, List.getElem_map, ← e, keyEq_refl (hk.kw _ (List.getElem_mem hi))] at this
  cases this
 rcases Nat.lt_trichotomy i j with c | c | c
 · have := h1 i j hi hj c
   exact ⟨fun e => by omega, fun e => absurd e (h2 i j hi hj c)⟩
 · subst c; exact ⟨fun _ => rfl, fun _ => rfl⟩
 · have := h1 j i hj hi c
   exact ⟨fun e => by omega, fun e => absurd e.symm (h2 j i hj hi c)⟩
def bndM (J L : Nat) (C : Int) (M : PMap Mov) : Prop := ∀ σ q, M σ = some q → (q.l.length ≤ L ∧ ∀ m ∈ q.l, mvS m) ∧ (0 ≤ q.cost ∧ q.cost ≤ C) ∧ σ.length = J
theorem insM_c {J L : Nat} {C : Int} {M : PMap Mov} (h : bndM J L C M) {σ : List UInt8} {p : Pla Mov} (hp : (p.l.length ≤ L ∧ ∀ m ∈ p.l, mvS m) ∧ (0 ≤ p.cost ∧ p.cost ≤ C) ∧ σ.length = J) : bndM J L C (insM mvC M σ p) := by
 intro τ q hq
 unfold insM at hq
 split at hq
 · rename_i e
   subst e
   cases hM : M τ with
   | none => rw [hM] at hq; cases hq; exact hp
   | some old =>
     rw [hM] at hq
     simp only at hq
     split at hq
     · cases hq; exact hp
     · cases hq; exact h τ _ hM
 · exact h τ q hq
theorem rep_c {J L : Nat} {C : Int} {F : Int → PMap Mov → PMap Mov} : ∀ {n : Nat} {M : PMap Mov}, bndM J L C M → (∀ k M, 1 ≤ k → k ≤ (n : Int) → bndM J L C M → bndM J L C (F k M)) → bndM J L C (rep F n M)
 | 0, _, h, _ => h
 | n + 1, M, h, hF => by
   rw [rep]
   exact hF _ _ (by omega) (by omega) (rep_c h fun k M h1 h2 hM => hF k M h1 (by omega) hM)
theorem sendM_c {r : List Roa} {fr : List UInt8} {want : List (List UInt8)} {s : Stn Mov} (hs : SndO r fr want s) (hr : rdsE r = 0) {L : Nat} {C : Int} : ∀ (d k : Nat) (st : List UInt8) (left : Int) (p : Pla Mov) (M : PMap Mov), k + d = want.length → st.length = want.length → (p.l.length + d ≤ L ∧ ∀ m ∈ p.l, mvS m) → (0 ≤ left ∧ left ≤ 20) → 0 ≤ p.cost → p.cost + left * 1000000 ≤ C → bndM want.length L C M → bndM want.length L C (sendM mvC s d k st left p M) := by
 intro d
 induction d with
 | zero => intro k st left p M _ hst hp h1 h2 h3 hM; rw [sendM]; exact insM_c hM ⟨⟨by omega, hp.2⟩, ⟨h2, by omega⟩, hst⟩
 | succ d ih =>
   intro k st left p M hk hst hp h1 h2 h3 hM
   have h0 := ih (k + 1) st left p M (by omega) hst ⟨by omega, hp.2⟩ h1 h2 h3 hM
   rw [sendM, hs.way k (by omega)]
   cases q : roadO r fr (want.getD k []) with
   | none => exact h0
   | some x =>
     have hx := (roadO_bd hr q).1
     refine rep_c h0 fun n M' n1 n2 hM' => ?_
     have hm : 0 ≤ n * x.car := Int.mul_nonneg (by omega) hx.1
     have hm2 : n * x.car ≤ n * 1000000 := Int.mul_le_mul_of_nonneg_left hx.2 (by omega)
     have hm3 : (left - n) * 1000000 = left * 1000000 - n * 1000000 := Int.sub_mul _ _ _
     rw [hs.mv k n (by omega)]
     refine ih (k + 1) _ _ _ _ (by omega) (by rw [stL_len]; exact hst) ⟨?_, fun m hm => ?_⟩ (by omega) ?_ ?_ hM'
     · show (p.l ++ _).length + d ≤ L
       rw [List.length_append]; simp; omega
     · rcases List.mem_append.1 hm with z | z
       · exact hp.2 m z
       · have : m = ⟨fr, want.getD k [], n⟩ := by simpa using z
         subst this
         exact ⟨by show -1000000 ≤ n; omega, by show n ≤ 1000000; omega⟩
     · show 0 ≤ p.cost + n * x.car; omega
     · show p.cost + n * x.car + (left - n) * 1000000 ≤ C; omega
def filK (p : Nat → Bool) (i : Nat) : List Nat := (List.range i).filter p
theorem filK_succ (p : Nat → Bool) (i : Nat) : filK p (i + 1) = filK p i ++ (if p i = true then [i] else []) := by
 unfold filK
 rw [List.range_succ, List.filter_append]
 by_cases h : p i = true
 · rw [if_pos h, List.filter_cons_of_pos h]; rfl
 · rw [if_neg h, List.filter_cons_of_neg h]; rfl
theorem filK_len (p : Nat → Bool) (i : Nat) : (filK p i).length ≤ i := by
 have := List.length_filter_le p (List.range i)
 rw [List.length_range] at this; exact this
theorem filK_at (p : Nat → Bool) {i : Nat} (hp : p i = true) : ∀ {N : Nat}, i < N → (filK p N)[(filK p i).length]? = some i
 | 0, h => absurd h (Nat.not_lt_zero _)
 | N + 1, h => by
   rw [filK_succ]
   by_cases e : i = N
   · subst e
     rw [if_pos hp, List.getElem?_append_right (Nat.le_refl _)]; simp
   · have := filK_at p hp (N := N) (by omega)
     rw [List.getElem?_append_left (List.getElem?_eq_some_iff.1 this).1]; exact this
def srcP (n : List Ned) (i : Nat) : Bool := decide (0 < manyP n i)
def dstP (n : List Ned) (i : Nat) : Bool := decide (manyP n i < 0)
def wanS (n : List Ned) (i : Nat) : List (List UInt8) := (filK (dstP n) i).map fun k => (n.getD k nd0).st
def byS (n : List Ned) (i : Nat) : List UInt8 := (filK (dstP n) i).map fun k => UInt8.ofNat (0 - manyP n k).toNat
theorem nsN_at {n : List Ned} {i : Nat} (hi : i < n.length) (h : srcP n i = true) : nsN n (filK (srcP n) i).length = i := by
 have := filK_at (srcP n) h hi
 unfold nsN
 rw [List.getD_eq_getElem?_getD, show srcL n = filK (srcP n) n.length from rfl, this]; rfl
theorem sndO_at {n : List Ned} {r : List Roa} {i : Nat} (hi : i < n.length) (h : srcP n i = true) : SndO r (n.getD i nd0).st (wanS n n.length) (stnN n r (filK (srcP n) i).length) := by
 have e : ∀ k, k < (wanS n n.length).length → (wanS n n.length).getD k [] = (n.getD (nwN n k) nd0).st := fun k hk => by
  unfold wanS at hk ⊢
  rw [List.length_map] at hk
  unfold nwN
  have e2 : (dstL n).getD k 0 = (filK (dstP n) n.length)[k] := by rw [show dstL n = filK (dstP n) n.length from rfl, List.getD_eq_getElem?_getD, List.getElem?_eq_getElem hk]; rfl
  rw [e2, List.getD_eq_getElem?_getD, List.getElem?_map, List.getElem?_eq_getElem hk]; rfl
 refine ⟨fun k hk => ?_, fun k v hk => ?_⟩
 · show wayO n r (nsN n _) (nwN n k) = _
   rw [nsN_at hi h, e k hk]; rfl
 · show Mov.mk (n.getD (nsN n _) nd0).st (n.getD (nwN n k) nd0).st v = _
   rw [nsN_at hi h, e k hk]
def plL : Option (Pla Mov) → List Mov
 | none => []
 | some q => q.l
theorem plan_nil {X : Nat → Prop} {G : Hp} {v : Value} (h : RowDen G true [.nilsl, .int .i64 0] v) : RowDen G true (pzF X ⟨[], 0⟩) v := by
 obtain ⟨vs, h1, h2, h3⟩ := h
 refine ⟨vs, h1, h2, fun i x u hx hu => ?_⟩
 match i, hx with
 | 0, hx =>
   have := h3 0 .nilsl u rfl hu
   cases this
   cases hx
   exact .frsnil _ _ _ _
 | 1, hx => cases hx; exact h3 1 _ u rfl hu
theorem pmR_one {X : Nat → Prop} (σ0 : List UInt8) : Res.le (.map false true [.str] [.nilsl, .int .i64 0] (fun q => keyEq q [.str σ0] || false) (fun q => bif keyEq q [.str σ0] then [.nilsl, .int .i64 0] else [.nilsl, .int .i64 0])) (pmR X fun τ => if τ = σ0 then some ⟨[], 0⟩ else none) := Res.le_mapW fun K hK => by
 obtain ⟨s, rfl⟩ := wk_str hK
 rw [keyEq_str]
 unfold pmH pmV
 show (decide (s = σ0) || false) = (if s = σ0 then some (⟨[], 0⟩ : Pla Mov) else none).isSome ∧ _ ∧ _
 by_cases q : s = σ0
 · rw [decide_eq_true q, if_pos q]
   refine ⟨rfl, fun _ G v h => ?_, fun h => (by cases h)⟩
   show RowDen G true (pzV X (if s = σ0 then some ⟨[], 0⟩ else none)) v
   rw [if_pos q]; exact plan_nil h
 · rw [decide_eq_false q, if_neg q]
   refine ⟨rfl, fun h => (by cases h), fun _ => ?_⟩
   show pzV X (if s = σ0 then some ⟨[], 0⟩ else none) = _
   rw [if_neg q]; rfl
theorem runPM_snoc (s : Stn Mov) (J : Nat) (E : List (List UInt8 × Pla Mov)) (e : List UInt8 × Pla Mov) (M : PMap Mov) : runPM mvC s J (E ++ [e]) M = sendM mvC s J 0 e.1 s.many e.2 (runPM mvC s J E M) := by
 unfold runPM; rw [List.foldl_append]; rfl
theorem wanS_succ (n : List Ned) (i : Nat) : wanS n (i + 1) = wanS n i ++ (if manyP n i < 0 then [(n.getD i nd0).st] else []) := by
 unfold wanS
 rw [filK_succ, List.map_append]
 congr 1
 unfold dstP
 by_cases h : manyP n i < 0
 · rw [if_pos h, if_pos (decide_eq_true h)]; rfl
 · rw [if_neg h, if_neg (by simpa using h)]; rfl
theorem byS_succ (n : List Ned) (i : Nat) : byS n (i + 1) = byS n i ++ (if manyP n i < 0 then [UInt8.ofNat (0 - manyP n i).toNat] else []) := by
 unfold byS
 rw [filK_succ, List.map_append]
 congr 1
 unfold dstP
 by_cases h : manyP n i < 0
 · rw [if_pos h, if_pos (decide_eq_true h)]; rfl
 · rw [if_neg h, if_neg (by simpa using h)]; rfl
theorem byS_len (n : List Ned) (i : Nat) : (byS n i).length = (wanS n i).length := by unfold byS wanS; rw [List.length_map, List.length_map]
theorem wanS_len (n : List Ned) (i : Nat) : (wanS n i).length ≤ i := by unfold wanS; rw [List.length_map]; exact filK_len _ _
structure NowI (n : List Ned) (r : List Roa) (i : Nat) (M : PMap Mov) : Prop where
 min : MinOf mvC M (Full (wanS n n.length).length (byS n n.length) (firstL (stnN n r) (filK (srcP n) i).length))
 bnd : bndM (wanS n n.length).length (i * (wanS n n.length).length) ((i : Int) * 20000000) M
theorem nowI_init (n : List Ned) (r : List Roa) : NowI n r 0 (fun τ => if τ = byS n n.length then some ⟨[], 0⟩ else none) := by
 refine ⟨now_init mvC mvC_ord _ _, fun σ q h => ?_⟩
 split at h
 · rename_i e
   cases h
   refine ⟨⟨by simp, fun m hm => by cases hm⟩, ⟨Int.le_refl _, by simp⟩, by rw [e]; exact byS_len _ _⟩
 · cases h
theorem NowI.skip {n : List Ned} {r : List Roa} {i : Nat} {M : PMap Mov} (h : NowI n r i M) (hp : ¬ 0 < manyP n i) : NowI n r (i + 1) M := by
 have e : filK (srcP n) (i + 1) = filK (srcP n) i := by
  rw [filK_succ, if_neg (by unfold srcP; simpa using hp), List.append_nil]
 refine ⟨by rw [e]; exact h.min, fun σ q hq => ?_⟩
 obtain ⟨⟨h1, h2⟩, h3, h4⟩ := h.bnd σ q hq
 have e2 : (i + 1) * (wanS n n.length).length = i * (wanS n n.length).length + (wanS n n.length).length := Nat.succ_mul _ _
 exact ⟨⟨by omega, h2⟩, ⟨h3.1, by omega⟩, h4⟩
theorem NowI.next {n : List Ned} {r : List Roa} {i : Nat} {M : PMap Mov} (h : NowI n r i M) (hi : i < n.length) (hp : 0 < manyP n i) (hp2 : manyP n i ≤ 20) (hr : rdsE r = 0) {E : List (List UInt8 × Pla Mov)} (hE : ∀ σ p, (σ, p) ∈ E ↔ M σ = some p) :
 NowI n r (i + 1) (runPM mvC (stnN n r (filK (srcP n) i).length) (wanS n n.length).length E fun _ => none) := by
 have hs : srcP n i = true := decide_eq_true hp
 have hns := nsN_at hi hs
 have hlen : (filK (srcP n) (i + 1)).length = (filK (srcP n) i).length + 1 := by rw [filK_succ, if_pos hs, List.length_append]; rfl
 refine ⟨?_, ?_⟩
 · rw [hlen]
   exact now_step (num := fun m : Mov => m.many) mvC_ord (fun s hs k v => by obtain ⟨j, _, rfl⟩ := firstL_mem hs; rfl) _ h.min hE
 · have e2 : (i + 1) * (wanS n n.length).length = i * (wanS n n.length).length + (wanS n n.length).length := Nat.succ_mul _ _
   have hmany : (stnN n r (filK (srcP n) i).length).many = manyP n i := by show manyP n (nsN n _) = _; rw [hns]
   have key : ∀ E' : List (List UInt8 × Pla Mov), (∀ e ∈ E', M e.1 = some e.2) → ∀ N, bndM (wanS n n.length).length ((i + 1) * (wanS n n.length).length) (((i + 1 : Nat) : Int) * 20000000) N → bndM (wanS n n.length).length ((i + 1) * (wanS n n.length).length) (((i + 1 : Nat) : Int) * 20000000) (runPM mvC (stnN n r (filK (srcP n) i).length) (wanS n n.length).length E' N) := by
    intro E'
    induction E' with
    | nil => intro _ N hN; exact hN
    | cons e E' ih =>
      intro hE' N hN
      obtain ⟨⟨h1, h2⟩, h3, h4⟩ := h.bnd _ _ (hE' e (by simp))
      show bndM _ _ _ (runPM mvC _ _ E' (sendM mvC _ _ 0 e.1 _ e.2 N))
      refine ih (fun e' he' => hE' e' (by simp [he'])) _ ?_
      rw [hmany]
      exact sendM_c (sndO_at hi hs) hr _ 0 _ _ _ _ (Nat.zero_add _) h4 ⟨by omega, h2⟩ ⟨by omega, hp2⟩ h3.1 (by omega) hN
   exact key E (fun e he => (hE e.1 e.2).1 he) _ (fun σ q hq => by cases hq)
theorem Entails.froSlot {s : St} (i d kk n : Nat) (g : Nat → List DV) (hi : s.tmps i = .buf d) (hd : s.res d = some (.fro kk n g)) :
 Entails s (s.app ⟨some i, .d (.ro kk n g), [], []⟩) := by
 refine ⟨fun A a w => ?_⟩
 rintro ⟨h0, G, β, h⟩
 refine ⟨h0, G, β, h.sz, h.g0, h.e0, h.gw, h.gn, h.keep, fun j => ?_, h.rs, h.dj, h.og, h.sc⟩
 simp only [St.app, putT_apply]
 by_cases e : i = j
 · subst e
   simp only [if_true]
   have ht := h.tm i
   rw [hi] at ht
   generalize a.tmps.getD i Go.undef = v at ht
   obtain ⟨u, hu, hro⟩ := h.rs _ _ hd
   cases ht with | buf _ _ hb _ =>
   rw [hb] at hu; cases hu
   exact .d _ _ hro
 · rw [if_neg (by simp [e])]
   exact h.tm j
theorem bytes_zero (J : Nat) {g : Nat → List DV} (hg : ∀ i, g i = [.int .u8 0]) : bytesOf ((J : Int).toNat) g (List.replicate J 0) := by
 refine ⟨by simp, fun i hi => ?_⟩
 have hi : i < J := by simpa using hi
 rw [hg, List.getD_eq_getElem?_getD, List.getElem?_replicate, if_pos hi]; rfl
set_option maxHeartbeats 16000000 in
theorem p35x (X : Nat → Prop) (n : List Ned) (r : List Roa) (hn : ndsE n = 0) (hr : rdsE r = 0) : FSpec Tryz.prog 35 [.d (neds n), .d (roas r)] [(1000007, .inX X)]
 (fun y q => (∃ o, (∃ M, NowI n r n.length M ∧ o = M (List.replicate (wanS n n.length).length 0)) ∧ y = .tup [.d (.frs 70 3 (plL o).length X (rowF mvF mv0 (plL o))), .d (.bool o.isSome)]) ∧ q = [(1000007, .inX X)]) := by
 have hl := (nds_all hn).1
 have hrl := (rds_all hr).1
 have hmn := ned_many hn
 refine spec_of hT (C := [18]) Tryz.func35 rfl Tryz.call35 rfl rfl rfl ?_
 conv => whnf
 repeat' (first | (refine br_intro ?_ ?_ <;> intro hb <;> (try simp only [brs] at hb) <;> conv => whnf) | omega | (refine And.intro ?_ ?_; ((try dsimp only); first | omega | (refine szA rfl ?_; omega) | (refine szB rfl ?_; omega) | (unfold inI64; omega) | exact rfl | (simp only [lns] at *; omega) | decide | (unfold inI64; decide)); conv => whnf) | decide | assumption)
 refine LoopX.rule hT (C := [18]) (ι := Nat) (fun i => i ≤ n.length) (fun i => mkSt [(0, .d (neds n)), (1, .d (roas r)), (6, .buf 601), (7, .buf 602), (19, .d (neds n)), (20, .d (.int .i64 n.length)), (21, .d (.int .i64 i))] [(1000007, .inX X), (601, seqB 9 1 sF [] (wanS n i)), (602, seqB 5 1 byteD 0 (byS n i))]) (fun i => n.length - i) 0 (by show 0 ≤ _; omega) ?_ ?_
 · refine (Entails.nil 6 601 9 1 (rowF sF [] []) rfl rfl (by decide)).trans ?_
   exact Entails.mk' [(1000007, 1000007), (601, 601), (602, 18)] rfl rfl ⟨lr, lr, lr, lr, lr, lr, lr, trivial⟩ ⟨rr, rr, Res.le_lit rfl rfl, trivial⟩
 rintro i hi
 have hi : i ≤ n.length := hi
 have e1 : (i : Int).toNat = i := Int.toNat_natCast i
 have hmi := hmn i
 unfold manyP at hmi
 rw [← e1] at hmi
 have hwl := wanS_len n i
 have hbl := byS_len n i
 rcases Nat.lt_or_ge i n.length with hin | hin
 · conv => whnf
   repeat' (first | (refine br_intro ?_ ?_ <;> intro hb <;> (try simp only [brs] at hb) <;> conv => whnf) | omega | (refine And.intro ?_ ?_; ((try dsimp only); first | omega | (refine szA rfl ?_; omega) | (refine szB rfl ?_; omega) | (unfold inI64; omega) | exact rfl | (simp only [lns] at *; omega) | decide | (unfold inI64; decide)); conv => whnf) | decide | assumption)
   all_goals try (exfalso; omega)
   · have hbm : manyP n i < 0 := hb
     refine ⟨i + 1, by omega, by omega, Entails.mk' [(1000007, 1000007), (601, 32), (602, 39)] rfl rfl ⟨lr, lr, lr, lr, lr, lr, lr, trivial⟩ ⟨rr, ?_, ?_, trivial⟩⟩
     · show Res.le _ (seqB 9 1 sF [] (wanS n (i + 1)))
       rw [wanS_succ, if_pos hbm]
       exact Res.le_snocF rfl
     · show Res.le _ (seqB 5 1 byteD 0 (byS n (i + 1)))
       rw [byS_succ, if_pos hbm]
       refine Res.le_snocF ?_
       have hv : IntKind.u8.wrap (0 - manyP n i) = ((UInt8.ofNat (0 - manyP n i).toNat).toNat : Int) := by
        have := hmn i
        rw [IntWalk.u8_in _ (by omega), UInt8.toNat_ofNat']; omega
       exact congrArg (fun z => [DV.int IntKind.u8 z]) hv
   · have hbm : ¬ manyP n i < 0 := by unfold manyP; omega
     refine ⟨i + 1, by omega, by omega, Entails.mk' [(1000007, 1000007), (601, 601), (602, 602)] rfl rfl ⟨lr, lr, lr, lr, lr, lr, lr, trivial⟩ ⟨rr, ?_, ?_, trivial⟩⟩
     · show Res.le _ (seqB 9 1 sF [] (wanS n (i + 1)))
       rw [wanS_succ, if_neg hbm, List.append_nil]; exact rr
     · show Res.le _ (seqB 5 1 byteD 0 (byS n (i + 1)))
       rw [byS_succ, if_neg hbm, List.append_nil]; exact rr
 · have hin : i = n.length := by omega
   rw [hin] at hwl hbl ⊢
   clear hmi
   conv => whnf
   repeat' (first | (refine ⟨byS n n.length, ⟨rfl, fun _ _ => rfl⟩, ?_⟩; conv => whnf) | (refine br_intro ?_ ?_ <;> intro hb <;> (try simp only [brs] at hb) <;> conv => whnf) | omega | (refine And.intro ?_ ?_; ((try dsimp only); first | omega | (refine szA rfl ?_; omega) | (refine szB rfl ?_; omega) | (unfold inI64; omega) | exact rfl | (simp only [lns] at *; omega) | decide | (unfold inI64; decide)); conv => whnf) | decide | assumption)
   all_goals try (exfalso; omega)
   refine LoopX.freeze 601 9 1 _ _ rfl ?_
   refine LoopX.rule hT (C := [18]) (ι := Nat × PMap Mov) (fun (i, M) => i ≤ n.length ∧ NowI n r i M) (fun (i, M) => mkSt [(1, .d (roas r)), (6, .d (strs (wanS n n.length))), (10, .mp 41), (46, .d (neds n)), (47, .d (.int .i64 n.length)), (48, .d (.int .i64 i))] [(1000007, .inX X), (41, pmR X M)]) (fun (i, _) => n.length - i) (0, fun τ => if τ = byS n n.length then some ⟨[], 0⟩ else none) ⟨by show 0 ≤ _; omega, nowI_init n r⟩ ?_ ?_
   · refine (Entails.froSlot 6 601 1 _ _ rfl rfl).trans ?_
     exact Entails.mk' [(1000007, 1000007), (41, 41)] rfl rfl ⟨lr, lr, lr, lr, lr, lr, trivial⟩ ⟨rr, pmR_one _, trivial⟩
   clear hin e1
   rintro ⟨i, M⟩ ⟨hi, hN⟩
   have hi : i ≤ n.length := hi
   have hN : NowI n r i M := hN
   have e1 : (i : Int).toNat = i := Int.toNat_natCast i
   have hmi := hmn i
   unfold manyP at hmi
   rw [← e1] at hmi
   rcases Nat.lt_or_ge i n.length with hin | hin
   · by_cases hpos : 0 < manyP n i
     · have hso := sndO_at (r := r) hin (decide_eq_true hpos)
       obtain ⟨s, hs⟩ : ∃ s, s = stnN n r (filK (srcP n) i).length := ⟨_, rfl⟩
       have hsm : s.many = (n.getD (i : Int).toNat nd0).many := by rw [hs, e1]; show manyP n (nsN n _) = _; rw [nsN_at hin (decide_eq_true hpos)]; rfl
       rw [← hs] at hso
       rw [← e1] at hso
       conv => whnf
       repeat' (first | (intro clock kb hkb; conv => whnf) | (refine br_intro ?_ ?_ <;> intro hb <;> (try simp only [brs] at hb) <;> conv => whnf) | omega | (refine And.intro ?_ ?_; ((try dsimp only); first | omega | (refine szA rfl ?_; omega) | (refine szB rfl ?_; omega) | (unfold inI64; omega) | exact rfl | (simp only [lns] at *; omega) | decide | (unfold inI64; decide)); conv => whnf) | decide | assumption)
       all_goals try (exfalso; unfold manyP at hpos; omega)
       refine LoopX.rule hT (C := [18]) (ι := List Nat × List (List UInt8 × Pla Mov)) (fun (seen, E) => (∀ e ∈ E, M e.1 = some e.2) ∧ (∀ σ b, ([DV.str σ], b) ∈ kb → b ∈ seen → ∃ p, (σ, p) ∈ E) ∧ mapB (runPM mvC s (wanS n n.length).length E fun _ => none))
        (fun (seen, E) => mkSt [(1, .d (roas r)), (6, .d (strs (wanS n n.length))), (12, .ptr 12 0), (13, .mp 55), (46, .d (neds n)), (47, .d (.int .i64 n.length)), (48, .d (.int .i64 i)), (57, .ptr 57 0)] [(1000007, .inX X), (41, .mapB false true [.str] [.nilsl, .int .i64 0] (pmH M) (pmV X M) clock kb), (55, pmR X (runPM mvC s (wanS n n.length).length E fun _ => none)), (57, .iter 41 clock seen), (12, .cells 58 ((ndF (n.getD (i : Int).toNat nd0)).map .d))])
        (fun (seen, _) => (kb.filter fun p => !seen.contains p.2).length) ([], []) ⟨(fun e he => by cases he), (fun σ b _ hb => by cases hb), (fun σ q hq => by cases hq)⟩ ?_ ?_
       · exact Entails.mk' [(1000007, 1000007), (41, 41), (55, 55), (57, 57), (12, 12)] rfl rfl ⟨lr, lr, lr, lr, lr, lr, lr, lr, trivial⟩ ⟨rr, rr, Res.le_map (fun _ _ => ⟨rfl, rfl⟩), rr, rr, trivial⟩
       rintro ⟨seen, E⟩ ⟨g1, g2, g3⟩
       have g1 : ∀ e ∈ E, M e.1 = some e.2 := g1
       have g2 : ∀ σ b, ([DV.str σ], b) ∈ kb → b ∈ seen → ∃ p, (σ, p) ∈ E := g2
       have g3 : mapB (runPM mvC s (wanS n n.length).length E fun _ => none) := g3
       conv => whnf
       repeat' (first | (refine br_intro ?_ ?_ <;> intro hb <;> (try simp only [brs] at hb) <;> conv => whnf) | omega | (refine And.intro ?_ ?_; ((try dsimp only); first | omega | (refine szA rfl ?_; omega) | (refine szB rfl ?_; omega) | (unfold inI64; omega) | exact rfl | (simp only [lns] at *; omega) | decide | (unfold inI64; decide)); conv => whnf) | decide | assumption)
       refine ⟨rfl, fun key b hkb1 hseen => ?_, fun hall => ?_⟩
       · obtain ⟨σ, rfl⟩ := wk_str (hkb.kw _ hkb1)
         have hhas : pmH M [.str σ] = true := (hkb.kh _ (hkb.kw _ hkb1)).2 ⟨_, hkb1⟩
         obtain ⟨p, hMp⟩ : ∃ p, M σ = some p := by
          have : (M σ).isSome = true := hhas
          cases h : M σ with
          | none => rw [h] at this; cases this
          | some p => exact ⟨p, rfl⟩
         have hv : pmV X M [.str σ] = pzF X p := by unfold pmV; rw [show M (keyS [.str σ]) = some p from hMp]; rfl
         obtain ⟨⟨b1, b2⟩, b3, b4⟩ := hN.bnd σ p hMp
         have hij : i * (wanS n n.length).length ≤ 10 * 10 := Nat.mul_le_mul (by omega) (by omega)
         have hroom : roomP p (n.getD (i : Int).toNat nd0).many (wanS n n.length).length := ⟨⟨by omega, b2⟩, ⟨by have : 0 < (n.getD i nd0).many := hpos; rw [e1]; omega, by omega⟩, b3.1, by omega⟩
         have h69 := p69 (X := X) hso hr (by omega) (wanS n n.length).length 0 σ (n.getD (i : Int).toNat nd0).many p (runPM mvC s (wanS n n.length).length E fun _ => none) (Nat.zero_add _) b4 hroom g3
         have hg3 : mapB (runPM mvC s (wanS n n.length).length (E ++ [(σ, p)]) fun _ => none) := by
          rw [runPM_snoc]
          refine sendM_b hso hr _ 0 _ _ _ _ (Nat.zero_add _) ?_ g3
          rw [hsm]; exact hroom
         conv => whnf
         repeat' (first | (rw [hv]; conv => whnf) | (refine ⟨rfl, _, hkb1, ?_⟩; conv => whnf) | (refine CallX.of h69 [(1000000, 55), (1000007, 1000007)] rfl ⟨lr, lr, lr, lr, lr, lr, lr, lr, trivial⟩ ⟨rr, rr, trivial⟩ rfl rfl ?_; rintro x' rout ⟨rfl, rfl⟩; refine ⟨rfl, ?_⟩; conv => whnf) | (refine br_intro ?_ ?_ <;> intro hb <;> (try simp only [brs] at hb) <;> conv => whnf) | omega | (refine And.intro ?_ ?_; ((try dsimp only); first | omega | (refine szA rfl ?_; omega) | (refine szB rfl ?_; omega) | (unfold inI64; omega) | exact rfl | (simp only [lns] at *; omega) | decide | (unfold inI64; decide)); conv => whnf) | decide | assumption)
         all_goals try (exfalso; omega)
         refine ⟨(b :: seen, E ++ [(σ, p)]), ⟨fun e he => ?_, fun τ b2' hk2 hb2 => ?_, hg3⟩, ?_, Entails.mk' [(1000007, 1000007), (41, 41), (55, 55), (57, 57), (12, 12)] rfl rfl ⟨lr, lr, lr, lr, lr, lr, lr, lr, trivial⟩ ⟨rr, rr, ?_, rr, rr, trivial⟩⟩
         · rcases List.mem_append.1 he with q | q
           · exact g1 e q
           · have : e = (σ, p) := by simpa using q
             rw [this]; exact hMp
         · rcases List.mem_cons.1 hb2 with q | q
           · have hst := KB_stamp hkb hk2 hkb1
             have : ([DV.str τ] : List DV) = [.str σ] := hst.1 q
             have : τ = σ := by simpa using this
             exact ⟨p, List.mem_append_right _ (by rw [this]; simp)⟩
           · obtain ⟨p', hp'⟩ := g2 τ b2' hk2 q
             exact ⟨p', List.mem_append_left _ hp'⟩
         · show (kb.filter fun p => !(b :: seen).contains p.2).length < (kb.filter fun p => !seen.contains p.2).length
           have e : kb.filter (fun p => !(b :: seen).contains p.2) = (kb.filter fun p => !seen.contains p.2).filter fun p => !(p.2 == b) := by
            rw [List.filter_filter]
            refine List.filter_congr fun p _ => ?_
            simp [List.contains_cons, Bool.and_comm]
            rfl
           rw [e]
           refine Nat.lt_of_le_of_ne (List.length_filter_le _ _) (fun q => ?_)
           have := (List.length_filter_eq_length_iff.1 q) ([.str σ], b) (List.mem_filter.2 ⟨hkb1, by simpa using hseen⟩)
           simp at this
         · show Res.le _ (pmR X (runPM mvC s (wanS n n.length).length (E ++ [(σ, p)]) fun _ => none))
           refine pmR_eq fun s' => ?_
           rw [runPM_snoc, hsm]
       · have hE : ∀ σ p, (σ, p) ∈ E ↔ M σ = some p := fun σ p => ⟨fun h => g1 _ h, fun h => by
          have hhas : pmH M [.str σ] = true := by unfold pmH; rw [show M (keyS [.str σ]) = some p from h]; rfl
          obtain ⟨b, hb⟩ := (hkb.kh [.str σ] (by simp [wk, wk1])).1 hhas
          obtain ⟨p', hp'⟩ := g2 σ b hb (hall _ hb)
          have := g1 _ hp'
          have h3 : M σ = some p' := this
          rw [h] at h3; cases h3; exact hp'⟩
         have hnx := hN.next hin hpos (by have := hmn i; omega) hr hE
         rw [← hs] at hnx
         conv => whnf
         repeat' (first | (refine br_intro ?_ ?_ <;> intro hb <;> (try simp only [brs] at hb) <;> conv => whnf) | omega | (refine And.intro ?_ ?_; ((try dsimp only); first | omega | (refine szA rfl ?_; omega) | (refine szB rfl ?_; omega) | (unfold inI64; omega) | exact rfl | (simp only [lns] at *; omega) | decide | (unfold inI64; decide)); conv => whnf) | decide | assumption)
         all_goals try (exfalso; omega)
         exact ⟨(i + 1, runPM mvC s (wanS n n.length).length E fun _ => none), ⟨by show i + 1 ≤ n.length; omega, hnx⟩, by show n.length - (i + 1) < n.length - i; omega, Entails.mk' [(1000007, 1000007), (41, 55)] rfl rfl ⟨lr, lr, lr, lr, lr, lr, trivial⟩ ⟨rr, rr, trivial⟩⟩
     · conv => whnf
       repeat' (first | (refine br_intro ?_ ?_ <;> intro hb <;> (try simp only [brs] at hb) <;> conv => whnf) | omega | (refine And.intro ?_ ?_; ((try dsimp only); first | omega | (refine szA rfl ?_; omega) | (refine szB rfl ?_; omega) | (unfold inI64; omega) | exact rfl | (simp only [lns] at *; omega) | decide | (unfold inI64; decide)); conv => whnf) | decide | assumption)
       all_goals try (exfalso; unfold manyP at hpos; omega)
       exact ⟨(i + 1, M), ⟨by show i + 1 ≤ n.length; omega, hN.skip hpos⟩, by show n.length - (i + 1) < n.length - i; omega, Entails.mk' [(1000007, 1000007), (41, 41)] rfl rfl ⟨lr, lr, lr, lr, lr, lr, trivial⟩ ⟨rr, rr, trivial⟩⟩
   · have hin : i = n.length := by omega
     subst hin
     have hZ : ∀ o, M (List.replicate (wanS n n.length).length 0) = o → pmV X M [.str (List.replicate (wanS n n.length).length 0)] = pzV X o ∧ pmH M [.str (List.replicate (wanS n n.length).length 0)] = o.isSome := fun o h => by
      unfold pmV pmH
      rw [show M (keyS [.str (List.replicate (wanS n n.length).length 0)]) = o from h]
      exact ⟨rfl, rfl⟩
     cases hMo : M (List.replicate (wanS n n.length).length 0) with
     | none =>
       obtain ⟨hv, hh⟩ := hZ _ hMo
       have hv : pmV X M [.str (List.replicate (wanS n n.length).length 0)] = [.nilsl, .int .i64 0] := hv
       have hh : pmH M [.str (List.replicate (wanS n n.length).length 0)] = false := hh
       conv => whnf
       repeat' (first | (refine And.intro (rfl : zrow _ = some [.nilsl, .int .i64 0]) ?_; conv => whnf) | (refine ⟨List.replicate (wanS n n.length).length 0, bytes_zero _ (fun _ => rfl), ?_⟩; conv => whnf) | (rw [hv, hh]; conv => whnf) | (refine br_intro ?_ ?_ <;> intro hb <;> (try simp only [brs] at hb) <;> conv => whnf) | omega | (refine And.intro ?_ ?_; ((try dsimp only); first | omega | (refine szA rfl ?_; omega) | (refine szB rfl ?_; omega) | (unfold inI64; omega) | exact rfl | (simp only [lns] at *; omega) | decide | (unfold inI64; decide)); conv => whnf) | decide | assumption)
       all_goals try (exfalso; omega)
       refine .weak _ ?_
       conv => whnf
       exact ⟨.tup [.d (frsM X []), .d (.bool false)], _, SV.le_tup ⟨SV.le_nilF, lr, trivial⟩, ⟨⟨none, ⟨M, hN, hMo.symm⟩, rfl⟩, rfl⟩, rr, trivial⟩
     | some q =>
       obtain ⟨hv, hh⟩ := hZ _ hMo
       have hv : pmV X M [.str (List.replicate (wanS n n.length).length 0)] = pzF X q := hv
       have hh : pmH M [.str (List.replicate (wanS n n.length).length 0)] = true := hh
       conv => whnf
       repeat' (first | (refine And.intro (rfl : zrow _ = some [.nilsl, .int .i64 0]) ?_; conv => whnf) | (refine ⟨List.replicate (wanS n n.length).length 0, bytes_zero _ (fun _ => rfl), ?_⟩; conv => whnf) | (rw [hv, hh]; conv => whnf) | (refine br_intro ?_ ?_ <;> intro hb <;> (try simp only [brs] at hb) <;> conv => whnf) | omega | (refine And.intro ?_ ?_; ((try dsimp only); first | omega | (refine szA rfl ?_; omega) | (refine szB rfl ?_; omega) | (unfold inI64; omega) | exact rfl | (simp only [lns] at *; omega) | decide | (unfold inI64; decide)); conv => whnf) | decide | assumption)
       all_goals try (exfalso; omega)
       refine .weak _ ?_
       conv => whnf
       exact ⟨.tup [.d (frsM X q.l), .d (.bool true)], _, SV.le_tup ⟨lr, lr, trivial⟩, ⟨⟨some q, ⟨M, hN, hMo.symm⟩, rfl⟩, rfl⟩, rr, trivial⟩
theorem p35 (n : List Ned) (r : List Roa) (hn : ndsE n = 0) (hr : rdsE r = 0) : FSpec Tryz.prog 35 [.d (neds n), .d (roas r)] []
 (fun y q => ∃ o, (∃ M, NowI n r n.length M ∧ o = M (List.replicate (wanS n n.length).length 0)) ∧ (((plL o).length = 0 ∧ y = .tup [.d (.ro 3 0 (rowF mvF mv0 (plL o))), .d (.bool o.isSome)] ∧ q = []) ∨ (0 < (plL o).length ∧ y = .tup [.buf 7, .d (.bool o.isSome)] ∧ q = [(7, .buf 70 3 (plL o).length (rowF mvF mv0 (plL o)))]))) :=
 FSpec.thaw (S := fun o => ∃ M, NowI n r n.length M ∧ o = M (List.replicate (wanS n n.length).length 0)) (N := fun o => (plL o).length) (Gt := fun o => rowF mvF mv0 (plL o)) (B := fun o => o.isSome) (by decide) (fun X => p35x X n r hn hr) fun o _ i j x _ hx => by
  unfold rowF mvF at hx
  match j, hx with
  | 0, hx => cases hx; rfl
  | 1, hx => cases hx; rfl
  | 2, hx => cases hx; rfl
theorem pof_best {n : List Ned} {r : List Roa} {M : PMap Mov} (hn : ndsE n = 0) (hr : rdsE r = 0) (h : NowI n r n.length M) :
 match M (List.replicate (wanS n n.length).length 0) with
 | none => ∀ x, ¬ (nwG n r).Fl (kindB n) (getI (havL n)) (getI (wntL n)) x
 | some q => ∃ x, (nwG n r).Best (kindB n) (getI (havL n)) (getI (wntL n)) q.cost x ∧ q.l = lsV (mvN n r) (nwG n r).K 0 x := by
 have hJ : (wanS n n.length).length = (dstL n).length := by unfold wanS; rw [List.length_map]; rfl
 have hS : (filK (srcP n) n.length).length = (srcL n).length := rfl
 have hnow := h.min
 rw [hJ, hS] at hnow
 rw [hJ]
 have z1 : ∀ i, i < (srcL n).length → 0 ≤ (stnN n r i).many := fun i hi => by
  have := (srcL_at hi).2
  show 0 ≤ manyP n (nsN n i); omega
 have z2 : (byS n n.length).length = (dstL n).length := by
  rw [byS_len, hJ]
 have z3 : ∀ i, i < (srcL n).length → getI (havL n) (nsN n i) = (stnN n r i).many := fun i hi => by
  have := srcL_at hi
  rw [getI_hav this.1]
  show havF n (nsN n i) = manyP n (nsN n i)
  unfold havF; omega
 have z4 : ∀ v, v < (nwG n r).N → kindB n v = true → (∀ j, j < (srcL n).length → v ≠ nsN n j) → 0 ≤ getI (havL n) v := fun v hv _ _ => by
  rw [getI_hav hv]; exact (havF_bd hn v).1.1
 have z5 : ∀ k, k < (dstL n).length → getI (wntL n) (nwN n k) = (((byS n n.length).getD k 0).toNat : Int) := fun k hk => by
  have h1 := dstL_at hk
  rw [getI_wnt h1.1]
  have h2 := ned_many hn (nwN n k)
  have h3 : (byS n n.length).getD k 0 = UInt8.ofNat (0 - manyP n (nwN n k)).toNat := by
   have e2 : (dstL n).getD k 0 = (dstL n)[k] := by rw [List.getD_eq_getElem?_getD, List.getElem?_eq_getElem hk]; rfl
   unfold byS nwN
   rw [e2, List.getD_eq_getElem?_getD, List.getElem?_map, show filK (dstP n) n.length = dstL n from rfl, List.getElem?_eq_getElem hk]; rfl
  rw [h3, UInt8.toNat_ofNat']
  unfold wntF; omega
 have z6 : ∀ a b u v, a < b → b < (nwG n r).K → mvC (mvN n r a u) (mvN n r b v) < 0 := fun a b u v hab hb => by
  have h1 := nwG_inc (n := n) (r := r) hab hb
  refine mvC_ends ?_
  rcases h1 with q | ⟨q1, q2⟩
  · exact .inl (nds_inc hn q (arL_mem (nwG_at hb)).1.1)
  · exact .inr ⟨by rw [q1], nds_inc hn q2 (arL_mem (nwG_at hb)).2.1.1⟩
 have key := planOf_best (h := getI (havL n)) (w := getI (wntL n)) mvC_ord (num := fun m : Mov => m.many) (nwG_bip n r) (layN n r) (posN_zero n r) z1 z2 z3 z4 z5 (fun _ _ => rfl) (fun _ _ _ => rfl) (fun a u v huv => mvC_many huv) z6 hnow
 cases hM : M (List.replicate (dstL n).length 0) with
 | none => rw [hM] at key; exact key
 | some q => rw [hM] at key; exact key
theorem s221_0 : FSpec Tryz.prog 108 [.d (.int .u64 0)] [] (fun y r => (∃ m : Int, y = .d (.int .i64 m)) ∧ r = []) := by
 refine spec_of hT (C := []) Tryz.func108 rfl Tryz.call108 rfl rfl rfl ?_
 conv => whnf
 repeat' (first | (refine br_intro ?_ ?_ <;> intro hb <;> (try simp only [brs] at hb) <;> conv => whnf) | omega | (refine And.intro ?_ ?_; ((try dsimp only); first | omega | (refine szA rfl ?_; omega) | (refine szB rfl ?_; omega) | (unfold inI64; omega) | exact rfl | (simp only [lns] at *; omega) | decide | (unfold inI64; decide)); conv => whnf) | decide | assumption)
 refine .ret _ ?_
 conv => whnf
 exact ⟨[], ⟨⟨_, rfl⟩, rfl⟩, trivial⟩
theorem s221_1 : FSpec Tryz.prog 108 [.d (.int .u64 1)] [] (fun y r => (∃ m : Int, y = .d (.int .i64 m)) ∧ r = []) := by
 refine spec_of hT (C := []) Tryz.func108 rfl Tryz.call108 rfl rfl rfl ?_
 conv => whnf
 repeat' (first | (refine br_intro ?_ ?_ <;> intro hb <;> (try simp only [brs] at hb) <;> conv => whnf) | omega | (refine And.intro ?_ ?_; ((try dsimp only); first | omega | (refine szA rfl ?_; omega) | (refine szB rfl ?_; omega) | (unfold inI64; omega) | exact rfl | (simp only [lns] at *; omega) | decide | (unfold inI64; decide)); conv => whnf) | decide | assumption)
 refine .ret _ ?_
 conv => whnf
 exact ⟨[], ⟨⟨_, rfl⟩, rfl⟩, trivial⟩
theorem s221_2 : FSpec Tryz.prog 108 [.d (.int .u64 2)] [] (fun y r => (∃ m : Int, y = .d (.int .i64 m)) ∧ r = []) := by
 refine spec_of hT (C := []) Tryz.func108 rfl Tryz.call108 rfl rfl rfl ?_
 conv => whnf
 repeat' (first | (refine br_intro ?_ ?_ <;> intro hb <;> (try simp only [brs] at hb) <;> conv => whnf) | omega | (refine And.intro ?_ ?_; ((try dsimp only); first | omega | (refine szA rfl ?_; omega) | (refine szB rfl ?_; omega) | (unfold inI64; omega) | exact rfl | (simp only [lns] at *; omega) | decide | (unfold inI64; decide)); conv => whnf) | decide | assumption)
 refine .ret _ ?_
 conv => whnf
 exact ⟨[], ⟨⟨_, rfl⟩, rfl⟩, trivial⟩
theorem s221_3 : FSpec Tryz.prog 108 [.d (.int .u64 3)] [] (fun y r => (∃ m : Int, y = .d (.int .i64 m)) ∧ r = []) := by
 refine spec_of hT (C := []) Tryz.func108 rfl Tryz.call108 rfl rfl rfl ?_
 conv => whnf
 repeat' (first | (refine br_intro ?_ ?_ <;> intro hb <;> (try simp only [brs] at hb) <;> conv => whnf) | omega | (refine And.intro ?_ ?_; ((try dsimp only); first | omega | (refine szA rfl ?_; omega) | (refine szB rfl ?_; omega) | (unfold inI64; omega) | exact rfl | (simp only [lns] at *; omega) | decide | (unfold inI64; decide)); conv => whnf) | decide | assumption)
 refine .ret _ ?_
 conv => whnf
 exact ⟨[], ⟨⟨_, rfl⟩, rfl⟩, trivial⟩
theorem s221_4 : FSpec Tryz.prog 108 [.d (.int .u64 4)] [] (fun y r => (∃ m : Int, y = .d (.int .i64 m)) ∧ r = []) := by
 refine spec_of hT (C := []) Tryz.func108 rfl Tryz.call108 rfl rfl rfl ?_
 conv => whnf
 repeat' (first | (refine br_intro ?_ ?_ <;> intro hb <;> (try simp only [brs] at hb) <;> conv => whnf) | omega | (refine And.intro ?_ ?_; ((try dsimp only); first | omega | (refine szA rfl ?_; omega) | (refine szB rfl ?_; omega) | (unfold inI64; omega) | exact rfl | (simp only [lns] at *; omega) | decide | (unfold inI64; decide)); conv => whnf) | decide | assumption)
 refine .ret _ ?_
 conv => whnf
 exact ⟨[], ⟨⟨_, rfl⟩, rfl⟩, trivial⟩
theorem s221_5 : FSpec Tryz.prog 108 [.d (.int .u64 5)] [] (fun y r => (∃ m : Int, y = .d (.int .i64 m)) ∧ r = []) := by
 refine spec_of hT (C := []) Tryz.func108 rfl Tryz.call108 rfl rfl rfl ?_
 conv => whnf
 repeat' (first | (refine br_intro ?_ ?_ <;> intro hb <;> (try simp only [brs] at hb) <;> conv => whnf) | omega | (refine And.intro ?_ ?_; ((try dsimp only); first | omega | (refine szA rfl ?_; omega) | (refine szB rfl ?_; omega) | (unfold inI64; omega) | exact rfl | (simp only [lns] at *; omega) | decide | (unfold inI64; decide)); conv => whnf) | decide | assumption)
 refine .ret _ ?_
 conv => whnf
 exact ⟨[], ⟨⟨_, rfl⟩, rfl⟩, trivial⟩
theorem s221_6 : FSpec Tryz.prog 108 [.d (.int .u64 6)] [] (fun y r => (∃ m : Int, y = .d (.int .i64 m)) ∧ r = []) := by
 refine spec_of hT (C := []) Tryz.func108 rfl Tryz.call108 rfl rfl rfl ?_
 conv => whnf
 repeat' (first | (refine br_intro ?_ ?_ <;> intro hb <;> (try simp only [brs] at hb) <;> conv => whnf) | omega | (refine And.intro ?_ ?_; ((try dsimp only); first | omega | (refine szA rfl ?_; omega) | (refine szB rfl ?_; omega) | (unfold inI64; omega) | exact rfl | (simp only [lns] at *; omega) | decide | (unfold inI64; decide)); conv => whnf) | decide | assumption)
 refine .ret _ ?_
 conv => whnf
 exact ⟨[], ⟨⟨_, rfl⟩, rfl⟩, trivial⟩
theorem s221_7 : FSpec Tryz.prog 108 [.d (.int .u64 7)] [] (fun y r => (∃ m : Int, y = .d (.int .i64 m)) ∧ r = []) := by
 refine spec_of hT (C := []) Tryz.func108 rfl Tryz.call108 rfl rfl rfl ?_
 conv => whnf
 repeat' (first | (refine br_intro ?_ ?_ <;> intro hb <;> (try simp only [brs] at hb) <;> conv => whnf) | omega | (refine And.intro ?_ ?_; ((try dsimp only); first | omega | (refine szA rfl ?_; omega) | (refine szB rfl ?_; omega) | (unfold inI64; omega) | exact rfl | (simp only [lns] at *; omega) | decide | (unfold inI64; decide)); conv => whnf) | decide | assumption)
 refine .ret _ ?_
 conv => whnf
 exact ⟨[], ⟨⟨_, rfl⟩, rfl⟩, trivial⟩
theorem s221_8 : FSpec Tryz.prog 108 [.d (.int .u64 8)] [] (fun y r => (∃ m : Int, y = .d (.int .i64 m)) ∧ r = []) := by
 refine spec_of hT (C := []) Tryz.func108 rfl Tryz.call108 rfl rfl rfl ?_
 conv => whnf
 repeat' (first | (refine br_intro ?_ ?_ <;> intro hb <;> (try simp only [brs] at hb) <;> conv => whnf) | omega | (refine And.intro ?_ ?_; ((try dsimp only); first | omega | (refine szA rfl ?_; omega) | (refine szB rfl ?_; omega) | (unfold inI64; omega) | exact rfl | (simp only [lns] at *; omega) | decide | (unfold inI64; decide)); conv => whnf) | decide | assumption)
 refine .ret _ ?_
 conv => whnf
 exact ⟨[], ⟨⟨_, rfl⟩, rfl⟩, trivial⟩
theorem s221_9 : FSpec Tryz.prog 108 [.d (.int .u64 9)] [] (fun y r => (∃ m : Int, y = .d (.int .i64 m)) ∧ r = []) := by
 refine spec_of hT (C := []) Tryz.func108 rfl Tryz.call108 rfl rfl rfl ?_
 conv => whnf
 repeat' (first | (refine br_intro ?_ ?_ <;> intro hb <;> (try simp only [brs] at hb) <;> conv => whnf) | omega | (refine And.intro ?_ ?_; ((try dsimp only); first | omega | (refine szA rfl ?_; omega) | (refine szB rfl ?_; omega) | (unfold inI64; omega) | exact rfl | (simp only [lns] at *; omega) | decide | (unfold inI64; decide)); conv => whnf) | decide | assumption)
 refine .ret _ ?_
 conv => whnf
 exact ⟨[], ⟨⟨_, rfl⟩, rfl⟩, trivial⟩
theorem s221_10 : FSpec Tryz.prog 108 [.d (.int .u64 10)] [] (fun y r => (∃ m : Int, y = .d (.int .i64 m)) ∧ r = []) := by
 refine spec_of hT (C := []) Tryz.func108 rfl Tryz.call108 rfl rfl rfl ?_
 conv => whnf
 repeat' (first | (refine br_intro ?_ ?_ <;> intro hb <;> (try simp only [brs] at hb) <;> conv => whnf) | omega | (refine And.intro ?_ ?_; ((try dsimp only); first | omega | (refine szA rfl ?_; omega) | (refine szB rfl ?_; omega) | (unfold inI64; omega) | exact rfl | (simp only [lns] at *; omega) | decide | (unfold inI64; decide)); conv => whnf) | decide | assumption)
 refine .ret _ ?_
 conv => whnf
 exact ⟨[], ⟨⟨_, rfl⟩, rfl⟩, trivial⟩
theorem s221_11 : FSpec Tryz.prog 108 [.d (.int .u64 11)] [] (fun y r => (∃ m : Int, y = .d (.int .i64 m)) ∧ r = []) := by
 refine spec_of hT (C := []) Tryz.func108 rfl Tryz.call108 rfl rfl rfl ?_
 conv => whnf
 repeat' (first | (refine br_intro ?_ ?_ <;> intro hb <;> (try simp only [brs] at hb) <;> conv => whnf) | omega | (refine And.intro ?_ ?_; ((try dsimp only); first | omega | (refine szA rfl ?_; omega) | (refine szB rfl ?_; omega) | (unfold inI64; omega) | exact rfl | (simp only [lns] at *; omega) | decide | (unfold inI64; decide)); conv => whnf) | decide | assumption)
 refine .ret _ ?_
 conv => whnf
 exact ⟨[], ⟨⟨_, rfl⟩, rfl⟩, trivial⟩
theorem s221_12 : FSpec Tryz.prog 108 [.d (.int .u64 12)] [] (fun y r => (∃ m : Int, y = .d (.int .i64 m)) ∧ r = []) := by
 refine spec_of hT (C := []) Tryz.func108 rfl Tryz.call108 rfl rfl rfl ?_
 conv => whnf
 repeat' (first | (refine br_intro ?_ ?_ <;> intro hb <;> (try simp only [brs] at hb) <;> conv => whnf) | omega | (refine And.intro ?_ ?_; ((try dsimp only); first | omega | (refine szA rfl ?_; omega) | (refine szB rfl ?_; omega) | (unfold inI64; omega) | exact rfl | (simp only [lns] at *; omega) | decide | (unfold inI64; decide)); conv => whnf) | decide | assumption)
 refine .ret _ ?_
 conv => whnf
 exact ⟨[], ⟨⟨_, rfl⟩, rfl⟩, trivial⟩
theorem s221 (n : Nat) (hn : n ≤ 12) : FSpec Tryz.prog 108 [.d (.int .u64 n)] [] (fun y r => (∃ m : Int, y = .d (.int .i64 m)) ∧ r = []) := by
 match n, hn with
 | 0, _ => exact s221_0
 | 1, _ => exact s221_1
 | 2, _ => exact s221_2
 | 3, _ => exact s221_3
 | 4, _ => exact s221_4
 | 5, _ => exact s221_5
 | 6, _ => exact s221_6
 | 7, _ => exact s221_7
 | 8, _ => exact s221_8
 | 9, _ => exact s221_9
 | 10, _ => exact s221_10
 | 11, _ => exact s221_11
 | 12, _ => exact s221_12
 | n + 13, h => omega
theorem wrap_u64 (n : Nat) (hn : n ≤ 12) : IntKind.u64.wrap n = n := by
 match n, hn with
 | 0, _ | 1, _ | 2, _ | 3, _ | 4, _ | 5, _ | 6, _ | 7, _ | 8, _ | 9, _ | 10, _ | 11, _ | 12, _ => decide
 | n + 13, h => omega
theorem sBitsLen (n : Nat) (hn : n ≤ 12) : FSpec Tryz.prog 71 [.d (.int .u64 (IntKind.u64.wrap n))] [] (fun y r => (∃ m : Int, y = .d (.int .i64 m)) ∧ r = []) := by
 rw [wrap_u64 n hn]
 refine spec_of hT (C := []) Tryz.func71 rfl Tryz.call71 rfl rfl rfl ?_
 conv => whnf
 repeat' (first | (refine br_intro ?_ ?_ <;> intro hb <;> (try simp only [brs] at hb) <;> conv => whnf) | omega | (refine And.intro ?_ ?_; ((try dsimp only); first | omega | (refine szA rfl ?_; omega) | (refine szB rfl ?_; omega) | (unfold inI64; omega) | exact rfl | (simp only [lns] at *; omega) | decide | (unfold inI64; decide)); conv => whnf) | decide | assumption)
 refine CallX.of (s221 n hn) [] rfl ⟨lr, trivial⟩ trivial rfl rfl ?_
 rintro x rout ⟨⟨m, rfl⟩, rfl⟩
 refine ⟨rfl, ?_⟩
 conv => whnf
 refine .ret _ ?_
 conv => whnf
 exact ⟨[], ⟨⟨_, rfl⟩, rfl⟩, trivial⟩
structure Prg where
 a : Int
 b : Int
theorem prg_eq {a b : Prg} : a = b ↔ a.a = b.a ∧ a.b = b.b := by cases a; cases b; simp
instance : DecidableEq Prg := fun _ _ => decidable_of_iff _ prg_eq.symm
abbrev MSt := List Prg × Int
structure mOk (a b : List Mrk) (m : MSt) : Prop where
 ins : ∀ p ∈ m.1, ∃ i k : Nat, p = ⟨i, k⟩ ∧ i < a.length ∧ k < b.length
 sum : 0 ≤ m.2 ∧ m.2 ≤ 100000000 * m.1.length
def oVMvB99_4 : List (Nat × List Nat) := [(0, []), (1, [0]), (2, []), (3, []), (4, []), (5, [4]), (6, [4, 5]), (7, [4]), (8, [4]), (9, [4, 5, 6, 7, 8]), (10, [4, 5, 6, 7, 8, 9]), (11, [4, 5, 6, 7, 8, 9]), (12, [4, 5, 6, 7, 8]), (13, [4, 5, 6, 7, 8]), (14, []), (15, []), (16, [])]
def oVMvB99_6 : List (Nat × List Nat) := [(0, []), (1, [0]), (2, [0, 1]), (3, [0, 1, 2]), (4, [0, 1, 2]), (5, [0, 1, 2, 3, 4]), (6, [0, 1, 2, 3, 4, 5]), (7, [0, 1, 2, 3, 4, 5]), (8, [0, 1, 2, 3, 4]), (9, [0, 1, 2, 3, 4]), (10, [0, 1, 2, 3, 4, 5, 6, 7, 8, 9]), (11, [0, 1, 2, 3, 4, 5, 6, 7, 8, 9, 10]), (12, [0, 1, 2, 3, 4, 5, 6, 7, 8, 9]), (13, [0, 1, 2, 3, 4, 5, 6, 7, 8, 9]), (14, [2, 3, 4]), (15, [2, 3, 4]), (16, []), (17, [])]
def oVMvB70_17 : List (Nat × List Nat) := [(0, []), (1, []), (2, []), (3, []), (4, [3]), (5, [3, 4]), (6, [3, 4]), (7, [3]), (8, [3]), (9, [3, 4, 5, 6, 7, 8]), (10, [3, 4, 5, 6, 7, 8, 9]), (11, [3, 4, 5, 6, 7, 8]), (12, [3, 4, 5, 6, 7, 8]), (13, []), (14, []), (15, []), (16, [])]
def oVMvB39_6 : List (Nat × List Nat) := [(0, []), (1, [0]), (2, [0, 1]), (3, [0]), (4, [0]), (5, [0, 1, 2, 3, 4]), (6, [0, 1, 2, 3, 4, 5]), (7, [0, 1, 2, 3, 4, 5]), (8, [0, 1, 2, 3, 4]), (9, [0, 1, 2, 3, 4]), (10, [])]
def oVMvB39_11 : List (Nat × List Nat) := [(0, []), (1, [0]), (2, [0, 1]), (3, [0]), (4, [0]), (5, [0, 1, 2, 3, 4]), (6, [0, 1, 2, 3, 4, 5]), (7, [0, 1, 2, 3, 4, 5]), (8, [0, 1, 2, 3, 4]), (9, [0, 1, 2, 3, 4]), (10, []), (11, [])]
abbrev mvB (l : List Mov) : Res := seqB 70 3 mvF mv0 l
theorem z249 (g : FuncId) (cmp : Mov → Mov → Int) (l : List Mov) (hl : l.length ≤ 2^40)
 (hcmp : ∀ p q, p ∈ l → q ∈ l → FSpec Tryz.prog g [.agg ((mvF p).map .d), .agg ((mvF q).map .d)] [] (fun y r => y = .d (.int .i64 (cmp p q)) ∧ r = [])) :
 FSpec Tryz.prog 99 [.buf 1000001, .d (.int .i64 0), .d (.int .i64 l.length), .fn g []] [(1000001, seqB 70 3 mvF mv0 l)]
  (fun y r => y = .tup [] ∧ ∃ c, sameL l c ∧ r = [(1000001, seqB 70 3 mvF mv0 c)]) := by
 refine spec_of hT (C := []) Tryz.func99 rfl Tryz.call99 rfl rfl rfl ?_
 conv => whnf
 repeat' (first | (refine br_intro ?_ ?_ <;> intro hb <;> (try simp only [brs] at hb) <;> conv => whnf) | (refine RegX.rule (id := 4) hT rfl [] oVMvB99_4 (by decide +kernel) ?_; conv => whnf) | (refine RegX.rule (id := 6) hT rfl [] oVMvB99_6 (by decide +kernel) ?_; conv => whnf) | omega | (refine And.intro ?_ ?_; ((try dsimp only); first | omega | (refine szA rfl ?_; omega) | (refine szB rfl ?_; omega) | (unfold inI64; omega) | exact rfl | (simp only [lns] at *; omega) | decide | (unfold inI64; decide)); conv => whnf) | decide | assumption)
 refine LoopX.rule hT (C := []) (ι := Nat × List Mov) (fun (i, c) => 1 ≤ i ∧ (i ≤ l.length ∨ i = 1) ∧ sameL l c)
  (fun (i, c) => mkSt [(0, .buf 1000001), (1, .d (.int .i64 0)), (2, .d (.int .i64 l.length)), (3, .fn g []), (8, .d (.int .i64 i))] [(1000001, seqB 70 3 mvF mv0 c)])
  (fun (i, _) => l.length - i) (1, l) ⟨by simp, by simp, rfl, fun x h => h⟩ (by (refine Entails.mk' [(1000001, 1000001)] rfl rfl ?_ ?_ <;> repeat' (first | exact True.intro | exact lr | exact rr | exact SV.le_int (by omega) | exact SV.le_any _ | refine And.intro ?_ ?_)); done) ?_
 rintro ⟨i, c⟩ ⟨p1, p2, p3⟩
 have hc0 := p3.1
 conv => whnf
 repeat' (first | (refine br_intro ?_ ?_ <;> intro hb <;> (try simp only [brs] at hb) <;> conv => whnf) | (refine RegX.rule (id := 4) hT rfl [] oVMvB99_4 (by decide +kernel) ?_; conv => whnf) | (refine RegX.rule (id := 6) hT rfl [] oVMvB99_6 (by decide +kernel) ?_; conv => whnf) | omega | (refine And.intro ?_ ?_; ((try dsimp only); first | omega | (refine szA rfl ?_; omega) | (refine szB rfl ?_; omega) | (unfold inI64; omega) | exact rfl | (simp only [lns] at *; omega) | decide | (unfold inI64; decide)); conv => whnf) | decide | assumption)
 · refine LoopX.rule hT (C := []) (ι := Nat × List Mov) (fun (j, c) => j ≤ i ∧ sameL l c)
    (fun (j, c) => mkSt [(0, .buf 1000001), (1, .d (.int .i64 0)), (2, .d (.int .i64 l.length)), (3, .fn g []), (8, .d (.int .i64 i)), (9, .d (.int .i64 j))] [(1000001, seqB 70 3 mvF mv0 c)])
    (fun (j, _) => j) (i, c) ⟨Nat.le_refl _, p3⟩ (by (refine Entails.mk' [(1000001, 1000001)] rfl rfl ?_ ?_ <;> repeat' (first | exact True.intro | exact lr | exact rr | exact SV.le_int (by omega) | exact SV.le_any _ | refine And.intro ?_ ?_)); done) ?_
   rintro ⟨j, b⟩ ⟨q1, q3⟩
   have hb0 := q3.1
   conv => whnf
   repeat' (first | (refine br_intro ?_ ?_ <;> intro hb <;> (try simp only [brs] at hb) <;> conv => whnf) | (refine RegX.rule (id := 4) hT rfl [] oVMvB99_4 (by decide +kernel) ?_; conv => whnf) | (refine RegX.rule (id := 6) hT rfl [] oVMvB99_6 (by decide +kernel) ?_; conv => whnf) | omega | (refine And.intro ?_ ?_; ((try dsimp only); first | omega | (refine szA rfl ?_; omega) | (refine szB rfl ?_; omega) | (unfold inI64; omega) | exact rfl | (simp only [lns] at *; omega) | decide | (unfold inI64; decide)); conv => whnf) | decide | assumption)
   · refine CallX.of (hcmp (b.getD (j : Int).toNat mv0) (b.getD ((j : Int) - 1).toNat mv0) (q3.2 _ (getD_mem (by omega))) (q3.2 _ (getD_mem (by omega)))) [] rfl ⟨lr, lr, trivial⟩ trivial rfl rfl ?_
     rintro x rout ⟨rfl, rfl⟩
     refine ⟨rfl, ?_⟩
     conv => whnf
     repeat' (first | (refine br_intro ?_ ?_ <;> intro hb <;> (try simp only [brs] at hb) <;> conv => whnf) | (refine RegX.rule (id := 4) hT rfl [] oVMvB99_4 (by decide +kernel) ?_; conv => whnf) | (refine RegX.rule (id := 6) hT rfl [] oVMvB99_6 (by decide +kernel) ?_; conv => whnf) | omega | (refine And.intro ?_ ?_; ((try dsimp only); first | omega | (refine szA rfl ?_; omega) | (refine szB rfl ?_; omega) | (unfold inI64; omega) | exact rfl | (simp only [lns] at *; omega) | decide | (unfold inI64; decide)); conv => whnf) | decide | assumption)
     · refine ⟨(j - 1, _), ⟨by omega, sameL_set (sameL_set q3 (q3.2 _ (getD_mem (i := ((j : Int) - 1).toNat) (x := mv0) (by omega)))) (q3.2 _ (getD_mem (i := (j : Int).toNat) (x := mv0) (by omega)))⟩, by show j - 1 < j; omega, Entails.mk' [(1000001, 1000001)] rfl rfl ⟨lr, lr, lr, lr, lr, SV.le_int (by omega), trivial⟩ ⟨Res.le_put2 (fun _ => rfl) (fun _ => rfl), trivial⟩⟩
     · exact ⟨(i + 1, b), ⟨by omega, by omega, q3⟩, by show l.length - (i + 1) < l.length - i; omega, (by (refine Entails.mk' [(1000001, 1000001)] rfl rfl ?_ ?_ <;> repeat' (first | exact True.intro | exact lr | exact rr | exact SV.le_int (by omega) | exact SV.le_any _ | refine And.intro ?_ ?_)); done)⟩
   · exact ⟨(i + 1, b), ⟨by omega, by omega, q3⟩, by show l.length - (i + 1) < l.length - i; omega, (by (refine Entails.mk' [(1000001, 1000001)] rfl rfl ?_ ?_ <;> repeat' (first | exact True.intro | exact lr | exact rr | exact SV.le_int (by omega) | exact SV.le_any _ | refine And.intro ?_ ?_)); done)⟩
 · refine .ret _ ?_
   conv => whnf
   exact ⟨_, ⟨rfl, c, p3, rfl⟩, rr, trivial⟩
theorem z200 (g : FuncId) (cmp : Mov → Mov → Int) (l : List Mov) (hl : l.length ≤ 12) (lim : Int)
 (hcmp : ∀ p q, p ∈ l → q ∈ l → FSpec Tryz.prog g [.agg ((mvF p).map .d), .agg ((mvF q).map .d)] [] (fun y r => y = .d (.int .i64 (cmp p q)) ∧ r = [])) :
 FSpec Tryz.prog 70 [.buf 1000001, .d (.int .i64 0), .d (.int .i64 l.length), .d (.int .i64 lim), .fn g []] [(1000001, seqB 70 3 mvF mv0 l)]
  (fun y r => y = .tup [] ∧ ∃ c, sameL l c ∧ r = [(1000001, seqB 70 3 mvF mv0 c)]) := by
 refine spec_of hT (C := []) Tryz.func70 rfl Tryz.call70 rfl rfl rfl ?_
 conv => whnf
 refine LoopX.unroll hT (C := []) (fun _ _ h => h) (fun _ h => h) ?_
 conv => whnf
 repeat' (first | (refine br_intro ?_ ?_ <;> intro hb <;> (try simp only [brs] at hb) <;> conv => whnf) | (refine RegX.rule (id := 17) hT rfl [] oVMvB70_17 (by decide +kernel) ?_; conv => whnf) | omega | (refine And.intro ?_ ?_; ((try dsimp only); first | omega | (refine szA rfl ?_; omega) | (refine szB rfl ?_; omega) | (unfold inI64; omega) | exact rfl | (simp only [lns] at *; omega) | decide | (unfold inI64; decide)); conv => whnf) | decide | assumption)
 refine CallX.of (z249 g cmp l (by omega) hcmp) [(1000001, 1000001)] rfl ⟨lr, lr, lr, lr, trivial⟩ ⟨rr, trivial⟩ rfl rfl ?_
 rintro x rout ⟨rfl, c, hc, rfl⟩
 refine ⟨rfl, ?_⟩
 conv => whnf
 refine .ret _ ?_
 conv => whnf
 exact ⟨_, ⟨rfl, c, hc, rfl⟩, rr, trivial⟩
theorem z99 (g : FuncId) (cmp : Mov → Mov → Int) (l : List Mov) (hl : l.length ≤ 12)
 (hcmp : ∀ p q, p ∈ l → q ∈ l → FSpec Tryz.prog g [.agg ((mvF p).map .d), .agg ((mvF q).map .d)] [] (fun y r => y = .d (.int .i64 (cmp p q)) ∧ r = [])) :
 FSpec Tryz.prog 36 [.buf 1000001, .fn g []] [(1000001, seqB 70 3 mvF mv0 l)]
  (fun y r => y = .tup [] ∧ ∃ c, sameL l c ∧ r = [(1000001, seqB 70 3 mvF mv0 c)]) := by
 refine spec_of hT (C := []) Tryz.func36 rfl Tryz.call36 rfl rfl rfl ?_
 conv => whnf
 repeat' (first | (refine br_intro ?_ ?_ <;> intro hb <;> (try simp only [brs] at hb) <;> conv => whnf) | omega | (refine And.intro ?_ ?_; ((try dsimp only); first | omega | (refine szA rfl ?_; omega) | (refine szB rfl ?_; omega) | (unfold inI64; omega) | exact rfl | (simp only [lns] at *; omega) | decide | (unfold inI64; decide)); conv => whnf) | decide | assumption)
 refine CallX.of (sBitsLen l.length hl) [] rfl ⟨lr, trivial⟩ trivial rfl rfl ?_
 rintro x rout ⟨⟨lim, rfl⟩, rfl⟩
 refine ⟨rfl, ?_⟩
 conv => whnf
 repeat' (first | (refine br_intro ?_ ?_ <;> intro hb <;> (try simp only [brs] at hb) <;> conv => whnf) | omega | (refine And.intro ?_ ?_; ((try dsimp only); first | omega | (refine szA rfl ?_; omega) | (refine szB rfl ?_; omega) | (unfold inI64; omega) | exact rfl | (simp only [lns] at *; omega) | decide | (unfold inI64; decide)); conv => whnf) | decide | assumption)
 refine CallX.of (z200 g cmp l hl lim hcmp) [(1000001, 1000001)] rfl ⟨lr, lr, lr, lr, lr, trivial⟩ ⟨rr, trivial⟩ rfl rfl ?_
 rintro x rout ⟨rfl, c, hc, rfl⟩
 refine ⟨rfl, ?_⟩
 conv => whnf
 refine .ret _ ?_
 conv => whnf
 exact ⟨_, ⟨rfl, c, hc, rfl⟩, rr, trivial⟩
theorem z102 (g : FuncId) (eq : Mov → Mov → Bool) (l : List Mov) (hl : l.length ≤ 2^20)
 (heq : ∀ p q, p ∈ l → q ∈ l → FSpec Tryz.prog g [.agg ((mvF p).map .d), .agg ((mvF q).map .d)] [] (fun y r => y = .d (.bool (eq p q)) ∧ r = [])) :
 FSpec Tryz.prog 39 [.buf 1000001, .fn g []] [(1000001, seqB 70 3 mvF mv0 l)]
  (fun y r => ∃ c, subL l c ∧ ∃ d, (d = 1000001 ∨ d = 64) ∧ y = .buf d ∧ r = [(d, seqB 70 3 mvF mv0 c)]) := by
 refine spec_of hT (C := []) Tryz.func39 rfl Tryz.call39 rfl rfl rfl ?_
 conv => whnf
 repeat' (first | (refine br_intro ?_ ?_ <;> intro hb <;> (try simp only [brs] at hb) <;> conv => whnf) | (refine RegX.rule (id := 6) hT rfl [] oVMvB39_6 (by decide +kernel) ?_; conv => whnf) | (refine RegX.rule (id := 11) hT rfl [] oVMvB39_11 (by decide +kernel) ?_; conv => whnf) | omega | (refine And.intro ?_ ?_; ((try dsimp only); first | omega | (refine szA rfl ?_; omega) | (refine szB rfl ?_; omega) | (unfold inI64; omega) | exact rfl | (simp only [lns] at *; omega) | decide | (unfold inI64; decide)); conv => whnf) | decide | assumption)
 · refine .ret _ ?_
   conv => whnf
   exact ⟨_, ⟨l, ⟨Nat.le_refl _, fun x h => h⟩, 1000001, .inl rfl, rfl, rfl⟩, rr, trivial⟩
 refine LoopX.rule hT (C := []) (ι := Nat) (fun k => 1 ≤ k ∧ k ≤ l.length) (fun k => mkSt [(0, .buf 1000001), (1, .fn g []), (5, .d (.int .i64 k))] [(1000001, seqB 70 3 mvF mv0 l)]) (fun k => l.length - k) 1 ⟨by omega, by omega⟩ (by (refine Entails.mk' [(1000001, 1000001)] rfl rfl ?_ ?_ <;> repeat' (first | exact True.intro | exact lr | exact rr | exact SV.le_int (by omega) | exact SV.le_any _ | refine And.intro ?_ ?_)); done) ?_
 rintro k ⟨p1, p2⟩
 conv => whnf
 repeat' (first | (refine CallX.of (heq (l.getD (k : Int).toNat mv0) (l.getD ((k : Int) - 1).toNat mv0) (getD_mem (by omega)) (getD_mem (by omega))) [] rfl ⟨lr, lr, trivial⟩ trivial rfl rfl ?_; rintro x rout ⟨rfl, rfl⟩; refine ⟨rfl, ?_⟩; conv => whnf) | (refine br_intro ?_ ?_ <;> intro hb <;> (try simp only [brs] at hb) <;> conv => whnf) | (refine RegX.rule (id := 6) hT rfl [] oVMvB39_6 (by decide +kernel) ?_; conv => whnf) | (refine RegX.rule (id := 11) hT rfl [] oVMvB39_11 (by decide +kernel) ?_; conv => whnf) | omega | (refine And.intro ?_ ?_; ((try dsimp only); first | omega | (refine szA rfl ?_; omega) | (refine szB rfl ?_; omega) | (unfold inI64; omega) | exact rfl | (simp only [lns] at *; omega) | decide | (unfold inI64; decide)); conv => whnf) | decide | assumption)
 · refine .look rfl ?_
   conv => whnf
   repeat' (first | (refine br_intro ?_ ?_ <;> intro hb <;> (try simp only [brs] at hb) <;> conv => whnf) | (refine RegX.rule (id := 6) hT rfl [] oVMvB39_6 (by decide +kernel) ?_; conv => whnf) | (refine RegX.rule (id := 11) hT rfl [] oVMvB39_11 (by decide +kernel) ?_; conv => whnf) | omega | (refine And.intro ?_ ?_; ((try dsimp only); first | omega | (refine szA rfl ?_; omega) | (refine szB rfl ?_; omega) | (unfold inI64; omega) | exact rfl | (simp only [lns] at *; omega) | decide | (unfold inI64; decide)); conv => whnf) | decide | assumption)
   have hsub : SV.le (SV.sub 1000001 3 (k : Int).toNat (((l.length : Nat) : Int) - (k : Int)).toNat) (SV.sub 1000001 3 k (l.length - k)) := by
    rw [show (k : Int).toNat = k by omega, show (((l.length : Nat) : Int) - (k : Int)).toNat = l.length - k by omega]; exact lr
   refine LoopX.rule hT (C := []) (ι := Nat × Nat × List Mov) (fun (q, m, c) => k ≤ q ∧ q < k + m ∧ 1 ≤ m ∧ k + m ≤ l.length ∧ sameL l c)
    (fun (q, m, c) => mkSt [(0, .buf 1000001), (1, .fn g []), (5, .d (.int .i64 q)), (6, .sub 1000001 3 k (l.length - k)), (7, .d (.int .i64 m))] [(1000001, seqB 70 3 mvF mv0 c)])
    (fun (_, m, _) => l.length - m) (k, 1, l) ⟨by omega, by omega, by omega, by omega, rfl, fun x h => h⟩ (by (refine Entails.mk' [(1000001, 1000001)] rfl rfl ?_ ?_ <;> repeat' (first | exact True.intro | exact lr | exact rr | (exact hsub) | exact SV.le_int (by omega) | exact SV.le_any _ | refine And.intro ?_ ?_)); done) ?_
   rintro ⟨q, m, c⟩ ⟨r1, r2, r3, r4, r5⟩
   have hc0 := r5.1
   conv => whnf
   repeat' (first | (refine CallX.of (heq (c.getD (k + (m : Int).toNat) mv0) (c.getD (k + ((m : Int) - 1).toNat) mv0) (r5.2 _ (getD_mem (by omega))) (r5.2 _ (getD_mem (by omega)))) [] rfl ⟨lr, lr, trivial⟩ trivial rfl rfl ?_; rintro x rout ⟨rfl, rfl⟩; refine ⟨rfl, ?_⟩; conv => whnf) | (refine SliceX.first (lo := none) rfl ?_; conv => whnf) | (refine SliceX.look (lo := some _) rfl ?_; conv => whnf) | (refine br_intro ?_ ?_ <;> intro hb <;> (try simp only [brs] at hb) <;> conv => whnf) | (refine RegX.rule (id := 6) hT rfl [] oVMvB39_6 (by decide +kernel) ?_; conv => whnf) | (refine RegX.rule (id := 11) hT rfl [] oVMvB39_11 (by decide +kernel) ?_; conv => whnf) | omega | (refine And.intro ?_ ?_; ((try dsimp only); first | omega | (refine szA rfl ?_; omega) | (refine szB rfl ?_; omega) | (unfold inI64; omega) | exact rfl | (simp only [lns] at *; omega) | decide | (unfold inI64; decide)); conv => whnf) | decide | assumption)
   · have e1 : ∀ z, z = k + (m : Int).toNat → z < l.length → c.getD z mv0 ∈ l := fun z _ h => r5.2 _ (getD_mem (by omega))
     refine ⟨(q + 1, m + 1, _), ⟨by omega, by omega, by omega, by omega, sameL_set r5 (e1 _ rfl (by omega))⟩, by show l.length - (m + 1) < l.length - m; omega, Entails.mk' [(1000001, 1000001)] rfl rfl ⟨lr, lr, SV.le_int (by omega), lr, SV.le_int (by omega), trivial⟩ ⟨Res.le_putF (fun _ _ => rfl), trivial⟩⟩
   · exact ⟨(q, m + 1, c), ⟨by omega, by omega, by omega, by omega, r5⟩, by show l.length - (m + 1) < l.length - m; omega, (by (refine Entails.mk' [(1000001, 1000001)] rfl rfl ?_ ?_ <;> repeat' (first | exact True.intro | exact lr | exact rr | exact SV.le_int (by omega) | exact SV.le_any _ | refine And.intro ?_ ?_)); done)⟩
   · refine .ret _ ?_
     conv => whnf
     refine ⟨_, ⟨c.take q, ⟨by rw [List.length_take]; omega, fun x hx => r5.2 x (List.mem_of_mem_take hx)⟩, 64, .inr rfl, rfl, rfl⟩, Res.le_buf (by rw [List.length_take]; omega) (fun i hi => ?_), trivial⟩
     have hi : i < q := by
      have : i < (q : Int).toNat := hi
      omega
     have h1 : Nat.ble (q : Int).toNat i = false := by
      rw [← Bool.not_eq_true, Nat.ble_eq]; omega
     show (bif Nat.ble (q : Int).toNat i && _ then _ else rowF mvF mv0 c i) = _
     rw [h1]
     simp only [Bool.false_and, cond_false, rowF]
     rw [List.getD_eq_getElem?_getD, List.getD_eq_getElem?_getD, List.getElem?_take_of_lt hi]
 · exact ⟨k + 1, ⟨by omega, by omega⟩, by omega, (by (refine Entails.mk' [(1000001, 1000001)] rfl rfl ?_ ?_ <;> repeat' (first | exact True.intro | exact lr | exact rr | exact SV.le_int (by omega) | exact SV.le_any _ | refine And.intro ?_ ?_)); done)⟩
 · refine .ret _ ?_
   conv => whnf
   exact ⟨_, ⟨l, ⟨Nat.le_refl _, fun x h => h⟩, 1000001, .inl rfl, rfl, rfl⟩, rr, trivial⟩
def mvKey (x : Mov) : List UInt8 := x.a ++ [32] ++ x.b
theorem z100 (x y : Mov) (hx : x.a.length ≤ 8 ∧ x.b.length ≤ 8) (hy : y.a.length ≤ 8 ∧ y.b.length ≤ 8) : FSpec Tryz.prog 37 [.agg ((mvF x).map .d), .agg ((mvF y).map .d)] [] (fun v r => v = .d (.int .i64 (cmpS (mvKey x) (mvKey y))) ∧ r = []) := by
 refine spec_of hT (C := []) Tryz.func37 rfl Tryz.call37 rfl rfl rfl ?_
 conv => whnf
 repeat' (first | (refine CallX.exact (s190 _ _) rfl rfl ?_; rotate_right; conv => whnf) | (refine br_intro ?_ ?_ <;> intro hb <;> (try simp only [brs] at hb) <;> conv => whnf) | omega | (refine And.intro ?_ ?_; ((try dsimp only); first | omega | (refine szA rfl ?_; omega) | (refine szB rfl ?_; omega) | (unfold inI64; omega) | exact rfl | (simp only [lns] at *; omega) | decide | (unfold inI64; decide)); conv => whnf) | decide | assumption)
 refine .ret _ ?_
 conv => whnf
 refine ⟨[], ⟨?_, rfl⟩, trivial⟩
 conv => lhs; whnf
 all_goals rfl
theorem z103 (x y : Mov) : FSpec Tryz.prog 40 [.agg ((mvF x).map .d), .agg ((mvF y).map .d)] [] (fun v r => v = .d (.bool (x.a == y.a && x.b == y.b)) ∧ r = []) := by
 refine spec_of hT (C := []) Tryz.func40 rfl Tryz.call40 rfl rfl rfl ?_
 conv => whnf
 repeat' (first | (refine br_intro ?_ ?_ <;> intro hb <;> (try simp only [brs] at hb) <;> conv => whnf) | omega | (refine And.intro ?_ ?_; ((try dsimp only); first | omega | (refine szA rfl ?_; omega) | (refine szB rfl ?_; omega) | (unfold inI64; omega) | exact rfl | (simp only [lns] at *; omega) | decide | (unfold inI64; decide)); conv => whnf) | decide | assumption)
 all_goals
  refine .ret _ ?_
  conv => whnf
  refine ⟨[], ⟨?_, rfl⟩, trivial⟩
  conv => lhs; whnf
  congr 2
  grind
abbrev spcell : Res := .cells 23 [.ptr 1000000 0]
theorem z105 (n : Nat) (L : Nat → Int) (hL : Rok n L) (a : Int) (h0 : 0 ≤ a) (ha : a ≤ 2^38) (x : Mov) : FSpec Tryz.prog 42 [.agg ((mvF x).map .d), .ptr 1000002 0] [(1000000, strm n L a), (1000002, spcell)] (fun y r => (∃ b : Bool, y = .d (.bool b)) ∧ ∃ c, (a ≤ c ∧ c ≤ a + 1) ∧ r = [(1000000, strm n L c), (1000002, spcell)]) := by
 refine spec_of hT (C := []) Tryz.func42 rfl Tryz.call42 rfl rfl rfl ?_
 conv => whnf
 repeat' (first | (refine CallX.of (s84 n L hL _ ?_ ?_ _ ?_) [(1000000, 1000000)] rfl ⟨lr, lr, trivial⟩ ⟨rr, trivial⟩ rfl rfl ?_; rotate_right; rintro x rout ⟨⟨f, rfl⟩, ⟨c, c1, c2, rfl⟩⟩; refine ⟨rfl, ?_⟩; conv => whnf) | (refine br_intro ?_ ?_ <;> intro hb <;> (try simp only [brs] at hb) <;> conv => whnf) | omega | (refine And.intro ?_ ?_; ((try dsimp only); first | omega | (refine szA rfl ?_; omega) | (refine szB rfl ?_; omega) | (unfold inI64; omega) | exact rfl | (simp only [lns] at *; omega) | decide | (unfold inI64; decide)); conv => whnf) | decide | assumption)
 all_goals first
  | (refine .ret _ ?_
     conv => whnf
     exact ⟨[(1000000, strm n L c), (1000002, spcell)], ⟨⟨_, rfl⟩, c, ⟨by omega, by omega⟩, rfl⟩, rr, rr, trivial⟩)
  | (refine .ret _ ?_
     conv => whnf
     exact ⟨[(1000000, strm n L a), (1000002, spcell)], ⟨⟨_, rfl⟩, a, ⟨by omega, by omega⟩, rfl⟩, rr, rr, trivial⟩)
theorem z203 (n : Nat) (L : Nat → Int) (hL : Rok n L) (a : Int) (h0 : 0 ≤ a) (ha : a ≤ 2^37) (l : List Mov) (hl : l.length ≤ 1000) :
 FSpec Tryz.prog 73 [.buf 1000001, .fn 42 [.ptr 1000002 0]] [(1000000, strm n L a), (1000001, mvB l), (1000002, spcell)] (fun y r => (∃ j : Int, -1 ≤ j ∧ j < l.length ∧ y = .d (.int .i64 j)) ∧ ∃ c, (a ≤ c ∧ c ≤ a + l.length) ∧ r = [(1000000, strm n L c), (1000001, mvB l), (1000002, spcell)]) := by
 refine spec_of hT (C := []) Tryz.func73 rfl Tryz.call73 rfl rfl rfl ?_
 conv => whnf
 refine LoopX.rule hT (C := []) (ι := Nat × Int) (fun (i, b) => i ≤ l.length ∧ a ≤ b ∧ b ≤ a + i) (fun (i, b) => mkSt [(0, .buf 1000001), (1, .fn 42 [.ptr 1000002 0]), (7, .d (.int .i64 l.length)), (8, .d (.int .i64 i))] [(1000000, strm n L b), (1000001, mvB l), (1000002, spcell)]) (fun (i, _) => l.length - i) (0, a) ⟨by simp, by simp, by simp⟩ (by (refine Entails.mk' [(1000000, 1000000), (1000001, 1000001), (1000002, 1000002)] rfl rfl ?_ ?_ <;> repeat' (first | exact True.intro | exact lr | exact rr | exact SV.le_int (by omega) | exact SV.le_any _ | refine And.intro ?_ ?_)); done) ?_
 rintro ⟨i, b⟩ ⟨p1, p2, p3⟩
 have p1 : i ≤ l.length := p1
 have p2 : a ≤ b := p2
 have p3 : b ≤ a + i := p3
 conv => whnf
 repeat' (first | (refine CallX.of (z105 n L hL b (by omega) (by omega) (l.getD (i : Int).toNat mv0)) [(1000000, 1000000), (1000002, 1000002)] rfl ⟨lr, lr, trivial⟩ ⟨rr, rr, trivial⟩ rfl rfl ?_; rintro x rout ⟨⟨f, rfl⟩, c, ⟨hc1, hc2⟩, rfl⟩; refine ⟨rfl, ?_⟩; conv => whnf) | (refine br_intro ?_ ?_ <;> intro hb <;> (try simp only [brs] at hb) <;> conv => whnf) | omega | (refine And.intro ?_ ?_; ((try dsimp only); first | omega | (refine szA rfl ?_; omega) | (refine szB rfl ?_; omega) | (unfold inI64; omega) | exact rfl | (simp only [lns] at *; omega) | decide | (unfold inI64; decide)); conv => whnf) | decide | assumption)
 all_goals first
  | exact ⟨(i + 1, c), ⟨by omega, by omega, by omega⟩, (show l.length - (i + 1) < l.length - i by omega), (by (refine Entails.mk' [(1000000, 1000000), (1000001, 1000001), (1000002, 1000002)] rfl rfl ?_ ?_ <;> repeat' (first | exact True.intro | exact lr | exact rr | exact SV.le_int (by omega) | exact SV.le_any _ | refine And.intro ?_ ?_)); done)⟩
  | (refine .ret _ ?_
     conv => whnf
     exact ⟨[(1000000, strm n L c), (1000001, mvB l), (1000002, spcell)], ⟨⟨_, by omega, by omega, rfl⟩, c, ⟨by omega, by omega⟩, rfl⟩, rr, rr, rr, trivial⟩)
  | (refine .ret _ ?_
     conv => whnf
     exact ⟨[(1000000, strm n L b), (1000001, mvB l), (1000002, spcell)], ⟨⟨_, by omega, by omega, rfl⟩, b, ⟨by omega, by omega⟩, rfl⟩, rr, rr, rr, trivial⟩)
set_option maxHeartbeats 1000000 in
theorem z104 (n : Nat) (L : Nat → Int) (hL : Rok n L) (a : Int) (h0 : 0 ≤ a) (ha : a ≤ 2^36) (l : List Mov) (hl : l.length ≤ 1000) :
 FSpec Tryz.prog 41 [.buf 1000001, .fn 42 [.ptr 1000002 0]] [(1000000, strm n L a), (1000001, mvB l), (1000002, spcell)] (fun y r => ∃ c, subL l c ∧ ∃ d, (d = 1000001 ∨ d = 41) ∧ y = .buf d ∧ ∃ b, (a ≤ b ∧ b ≤ a + 2 * l.length) ∧ r = [(1000000, strm n L b), (d, mvB c), (1000002, spcell)]) := by
 refine spec_of hT (C := []) Tryz.func41 rfl Tryz.call41 rfl rfl rfl ?_
 conv => whnf
 refine CallX.of (z203 n L hL a h0 (by omega) l hl) [(1000000, 1000000), (1000001, 1000001), (1000002, 1000002)] rfl ⟨lr, lr, trivial⟩ ⟨rr, rr, rr, trivial⟩ rfl rfl ?_
 rintro x rout ⟨⟨j, hj1, hj2, rfl⟩, b0, ⟨hb1, hb2⟩, rfl⟩
 refine ⟨rfl, ?_⟩
 conv => whnf
 repeat' (first | (refine br_intro ?_ ?_ <;> intro hb <;> (try simp only [brs] at hb) <;> conv => whnf) | omega | (refine And.intro ?_ ?_; ((try dsimp only); first | omega | (refine szA rfl ?_; omega) | (refine szB rfl ?_; omega) | (unfold inI64; omega) | exact rfl | (simp only [lns] at *; omega) | decide | (unfold inI64; decide)); conv => whnf) | decide | assumption)
 · refine .ret _ ?_
   conv => whnf
   exact ⟨_, ⟨l, ⟨Nat.le_refl _, fun x h => h⟩, 1000001, .inl rfl, rfl, b0, ⟨by omega, by omega⟩, rfl⟩, rr, rr, rr, trivial⟩
 obtain ⟨jN, rfl⟩ : ∃ jN : Nat, j = jN := ⟨j.toNat, by omega⟩
 refine LoopX.rule hT (C := []) (ι := Nat × Nat × Int × List Mov) (fun (i, k, b, c) => (i < k ∧ k ≤ l.length ∧ a ≤ b ∧ b ≤ a + l.length + k) ∧ sameL l c)
  (fun (i, k, b, c) => mkSt [(0, .buf 1000001), (1, .fn 42 [.ptr 1000002 0]), (5, .d (.int .i64 i)), (6, .d (.int .i64 k))] [(1000000, strm n L b), (1000001, mvB c), (1000002, spcell)]) (fun (_, k, _, _) => l.length - k) (jN, jN + 1, b0, l) ⟨⟨by show jN < jN + 1; omega, by show jN + 1 ≤ l.length; omega, by show a ≤ b0; omega, by show b0 ≤ a + l.length + ((jN + 1 : Nat) : Int); omega⟩, rfl, fun x h => h⟩ (by (refine Entails.mk' [(1000000, 1000000), (1000001, 1000001), (1000002, 1000002)] rfl rfl ?_ ?_ <;> repeat' (first | exact True.intro | exact lr | exact rr | exact SV.le_int (by omega) | exact SV.le_any _ | refine And.intro ?_ ?_)); done) ?_
 rintro ⟨i, k, b, c⟩ ⟨⟨r1, r2, r3, r4⟩, r5⟩
 have r1 : i < k := r1
 have r2 : k ≤ l.length := r2
 have r3 : a ≤ b := r3
 have r4 : b ≤ a + l.length + k := r4
 have hc0 := r5.1
 conv => whnf
 repeat' (first | (refine CallX.of (z105 n L hL b (by omega) (by omega) (c.getD (k : Int).toNat mv0)) [(1000000, 1000000), (1000002, 1000002)] rfl ⟨lr, lr, trivial⟩ ⟨rr, rr, trivial⟩ rfl rfl ?_; rintro x rout ⟨⟨f, rfl⟩, c5, ⟨hc1, hc2⟩, rfl⟩; refine ⟨rfl, ?_⟩; conv => whnf) | (refine SliceX.first (lo := none) rfl ?_; conv => whnf) | (refine SliceX.look (lo := some _) rfl ?_; conv => whnf) | (refine br_intro ?_ ?_ <;> intro hb <;> (try simp only [brs] at hb) <;> conv => whnf) | omega | (refine And.intro ?_ ?_; ((try dsimp only); first | omega | (refine szA rfl ?_; omega) | (refine szB rfl ?_; omega) | (unfold inI64; omega) | exact rfl | (simp only [lns] at *; omega) | decide | (unfold inI64; decide)); conv => whnf) | decide | assumption)
 · exact ⟨(i + 1, k + 1, c5, c.set (i : Int).toNat (c.getD (k : Int).toNat mv0)), ⟨⟨by omega, by omega, by omega, by omega⟩, sameL_set r5 (r5.2 _ (getD_mem (by omega)))⟩, (show l.length - (k + 1) < l.length - k by omega), Entails.mk' [(1000000, 1000000), (1000001, 1000001), (1000002, 1000002)] rfl rfl ⟨lr, lr, SV.le_int (by omega), SV.le_int (by omega), trivial⟩ ⟨rr, Res.le_putF (fun _ _ => rfl), rr, trivial⟩⟩
 · exact ⟨(i, k + 1, c5, c), ⟨⟨by omega, by omega, by omega, by omega⟩, r5⟩, (show l.length - (k + 1) < l.length - k by omega), (by (refine Entails.mk' [(1000000, 1000000), (1000001, 1000001), (1000002, 1000002)] rfl rfl ?_ ?_ <;> repeat' (first | exact True.intro | exact lr | exact rr | exact SV.le_int (by omega) | exact SV.le_any _ | refine And.intro ?_ ?_)); done)⟩
 · refine .ret _ ?_
   conv => whnf
   refine ⟨_, ⟨c.take i, ⟨by rw [List.length_take]; omega, fun x hx => r5.2 x (List.mem_of_mem_take hx)⟩, 41, .inr rfl, rfl, b, ⟨by omega, by omega⟩, rfl⟩, rr, Res.le_buf (by rw [List.length_take]; omega) (fun s hs => ?_), rr, trivial⟩
   have hs : s < i := by
    have : s < (i : Int).toNat := hs
    omega
   have h1 : Nat.ble (i : Int).toNat s = false := by
    rw [← Bool.not_eq_true, Nat.ble_eq]; omega
   show (bif Nat.ble (i : Int).toNat s && _ then _ else rowF mvF mv0 c s) = _
   rw [h1]
   simp only [Bool.false_and, cond_false, rowF]
   rw [List.getD_eq_getElem?_getD, List.getD_eq_getElem?_getD, List.getElem?_take_of_lt hs]
def oVRoA7_14 : List (Nat × List Nat) := [(0, []), (1, [0]), (2, [0, 1]), (3, [0, 1, 2]), (4, [0, 1, 2, 3]), (5, [0, 1, 2, 3]), (6, [0, 1, 2, 3]), (7, [0, 1, 2, 3]), (8, [0, 1, 2, 3]), (10, [0, 1, 2, 3, 4, 5, 6, 7, 8]), (11, [0, 1, 2, 3, 4, 5, 6, 7, 8, 10]), (12, [0, 1, 2, 3, 4, 5, 6, 7, 8, 10]), (13, [0, 1, 2, 3, 4, 5, 6, 7, 8, 10]), (14, [0, 1, 2, 3, 4, 5, 6, 7, 8, 10]), (15, [0, 1, 2, 3, 4, 5, 6, 7, 8, 10]), (17, [0, 1, 2, 3, 4, 5, 6, 7, 8, 10, 11, 12, 13, 14, 15]), (9, [0, 1, 2, 10, 11, 12, 13, 14, 15, 17]), (16, [0, 1, 2, 17]), (18, [0, 1, 2]), (19, [1, 2]), (20, [1, 2]), (21, [1, 2]), (22, [2]), (23, [2]), (24, [2]), (25, []), (26, []), (27, [])]
def tE : List (List UInt8) := [[97], [98], [99], [100], [101]]
def rdS (x : Roa) : Prop := x.a.length ≤ 8 ∧ x.b.length ≤ 8
theorem tE_len {i : Nat} : (tE.getD i []).length ≤ 1 := by
 rcases Nat.lt_or_ge i 5 with h | h
 · have : i = 0 ∨ i = 1 ∨ i = 2 ∨ i = 3 ∨ i = 4 := by omega
   rcases this with rfl | rfl | rfl | rfl | rfl <;> decide
 · rw [List.getD_eq_getElem?_getD, List.getElem?_eq_none (by simpa [tE] using h)]; simp
theorem three_len {u x y z : List UInt8} (h : u ∈ [x, y, z]) (hx : x.length ≤ 8) (hy : y.length ≤ 8) (hz : z.length ≤ 8) : u.length ≤ 8 := by
 simp at h
 rcases h with rfl | rfl | rfl <;> assumption
abbrev rdB (l : List Roa) : Res := seqB 64 4 rdF rd0 l
set_option maxHeartbeats 2000000 in
theorem sRds (n : Nat) (L : Nat → Int) (hL : Rok n L) (a : Int) (h0 : 0 ≤ a) (ha : a ≤ 2^38) :
 FSpec Tryz.prog 7 [.ptr 1000000 0] [(1000000, strm n L a)] (fun y r => (∃ l : List Roa, allK rdS 25 l ∧ y = .d (roas l)) ∧ Moved n L a 100 r) := by
 refine spec_of hT (C := []) Tryz.func7 rfl Tryz.call7 rfl rfl rfl ?_
 conv => whnf
 repeat' (first | (refine br_intro ?_ ?_ <;> intro hb <;> (try simp only [brs] at hb) <;> conv => whnf) | (refine RegX.rule (id := 14) hT rfl [] oVRoA7_14 (by decide +kernel) ?_; conv => whnf) | omega | (refine And.intro ?_ ?_; ((try dsimp only); first | omega | (refine szA rfl ?_; omega) | (refine szB rfl ?_; omega) | (unfold inI64; omega) | exact rfl | (simp only [lns] at *; omega) | decide | (unfold inI64; decide)); conv => whnf) | decide | assumption)
 refine LoopX.rule hT (C := []) (ι := Int × Nat × List Roa) (fun (b, i, l) => (a ≤ b ∧ b ≤ a + 15 * i ∧ i ≤ 5) ∧ allK rdS (5 * i) l)
  (fun (b, i, l) => mkSt [(0, .ptr 1000000 0), (3, .buf 3), (9, .d (strs tE)), (10, .d (.int .i64 5)), (11, .d (.int .i64 i))] [(1000000, strm n L b), (3, rdB l)]) (fun (_, i, _) => 5 - i) (a, 0, []) ⟨by simp, by simp [allK]⟩ ?_ ?_
 · exact (Entails.nil 3 3 64 4 (rowF rdF rd0 []) rfl rfl (by decide)).trans (by (refine Entails.mk' [(1000000, 1000000), (3, 3)] rfl rfl ?_ ?_ <;> repeat' (first | exact True.intro | exact lr | exact rr | (exact SV.le_lit rfl rfl) | exact SV.le_int (by omega) | exact SV.le_any _ | refine And.intro ?_ ?_)); done)
 rintro ⟨b, i, l⟩ ⟨⟨p1, p2, p3⟩, p4⟩
 have p1 : a ≤ b := p1
 have p2 : b ≤ a + 15 * i := p2
 have p3 : i ≤ 5 := p3
 have p4 : allK rdS (5 * i) l := p4
 have hll := p4.1
 have htl : tE.length = 5 := rfl
 conv => whnf
 repeat' (first | (refine br_intro ?_ ?_ <;> intro hb <;> (try simp only [brs] at hb) <;> conv => whnf) | (refine RegX.rule (id := 14) hT rfl [] oVRoA7_14 (by decide +kernel) ?_; conv => whnf) | omega | (refine And.intro ?_ ?_; ((try dsimp only); first | omega | (refine szA rfl ?_; omega) | (refine szB rfl ?_; omega) | (unfold inI64; omega) | exact rfl | (simp only [lns] at *; omega) | decide | (unfold inI64; decide)); conv => whnf) | decide | assumption)
 · refine LoopX.rule hT (C := []) (ι := Int × Nat × List Roa) (fun (c, j, l) => (a ≤ c ∧ c ≤ a + 15 * i + 3 * j ∧ j ≤ 5) ∧ allK rdS (5 * i + j) l)
    (fun (c, j, l) => mkSt [(0, .ptr 1000000 0), (3, .buf 3), (5, .d (.str (tE.getD i []))), (9, .d (strs tE)), (10, .d (.int .i64 5)), (11, .d (.int .i64 i)), (15, .d (strs tE)), (16, .d (.int .i64 5)), (17, .d (.int .i64 j))] [(1000000, strm n L c), (3, rdB l)]) (fun (_, j, _) => 5 - j) (b, 0, l) ⟨by simp; omega, by simpa using p4⟩ ?_ ?_
   · exact (by (refine Entails.mk' [(1000000, 1000000), (3, 3)] rfl rfl ?_ ?_ <;> repeat' (first | exact True.intro | exact lr | exact rr | (exact SV.le_lit rfl rfl) | exact SV.le_int (by omega) | exact SV.le_any _ | refine And.intro ?_ ?_)); done)
   rintro ⟨c, j, l⟩ ⟨⟨r1, r2, r3⟩, r4⟩
   have r1 : a ≤ c := r1
   have r2 : c ≤ a + 15 * i + 3 * j := r2
   have r3 : j ≤ 5 := r3
   have r4 : allK rdS (5 * i + j) l := r4
   have hlj := r4.1
   have hi5 : i < 5 := by omega
   conv => whnf
   repeat' (first | (refine CallX.of (s84 n L hL _ ?_ ?_ _ ?_) [(1000000, 1000000)] rfl ⟨lr, lr, trivial⟩ ⟨rr, trivial⟩ rfl rfl ?_; rotate_right; rintro x rout ⟨⟨f, rfl⟩, ⟨c, c1, c2, rfl⟩⟩; refine ⟨rfl, ?_⟩; conv => whnf) | (refine CallX.of (s33 n L hL _ ?_ ?_ [0, 1, 3, 5, 5, 8, 20] ?_ ?_) [(1000000, 1000000)] rfl ⟨lr, SV.le_lit rfl rfl, trivial⟩ ⟨rr, trivial⟩ rfl rfl ?_; rotate_right; rintro x rout ⟨⟨u1, hu1, rfl⟩, ⟨c, c1, c2, rfl⟩⟩; refine ⟨rfl, ?_⟩; conv => whnf) | (refine CallX.of (s33 n L hL _ ?_ ?_ [0, 1, 2, 4] ?_ ?_) [(1000000, 1000000)] rfl ⟨lr, SV.le_lit rfl rfl, trivial⟩ ⟨rr, trivial⟩ rfl rfl ?_; rotate_right; rintro x rout ⟨⟨u2, hu2, rfl⟩, ⟨c, c1, c2, rfl⟩⟩; refine ⟨rfl, ?_⟩; conv => whnf) | (refine br_intro ?_ ?_ <;> intro hb <;> (try simp only [brs] at hb) <;> conv => whnf) | (refine RegX.rule (id := 14) hT rfl [] oVRoA7_14 (by decide +kernel) ?_; conv => whnf) | omega | (refine And.intro ?_ ?_; ((try dsimp only); first | omega | (refine szA rfl ?_; omega) | (refine szB rfl ?_; omega) | (unfold inI64; omega) | exact rfl | (simp only [lns] at *; omega) | decide | (unfold inI64; decide)); conv => whnf) | decide | assumption)
   all_goals first
    | (refine ⟨(_, j + 1, l ++ [⟨tE.getD i [], tE.getD j [], u1, u2⟩]), ⟨⟨by omega, ?_, by omega⟩, allK_snoc r4 (by omega) ⟨Nat.le_trans tE_len (by decide), Nat.le_trans tE_len (by decide)⟩⟩, (show 5 - (j + 1) < 5 - j by omega), Entails.mk' [(1000000, 1000000), (3, 40)] rfl rfl ⟨lr, lr, lr, lr, lr, lr, lr, lr, lr, trivial⟩ ⟨rr, Res.le_snocF rfl, trivial⟩⟩
       show _ ≤ a + 15 * (i : Int) + 3 * ((j + 1 : Nat) : Int)
       omega)
    | (refine ⟨(_, j + 1, l), ⟨⟨by omega, ?_, by omega⟩, allK_le r4 (by omega)⟩, (show 5 - (j + 1) < 5 - j by omega), Entails.mk' [(1000000, 1000000), (3, 3)] rfl rfl ⟨lr, lr, lr, lr, lr, lr, lr, lr, lr, trivial⟩ ⟨rr, rr, trivial⟩⟩
       show _ ≤ a + 15 * (i : Int) + 3 * ((j + 1 : Nat) : Int)
       omega)
    | (refine ⟨(c, i + 1, l), ⟨⟨by omega, by show c ≤ a + 15 * ((i + 1 : Nat) : Int); omega, by omega⟩, allK_le r4 (by omega)⟩, (show 5 - (i + 1) < 5 - i by omega), Entails.mk' [(1000000, 1000000), (3, 3)] rfl rfl ⟨lr, lr, lr, lr, lr, trivial⟩ ⟨rr, rr, trivial⟩⟩)
 all_goals
  have p5 : allK rdS 25 l := allK_le p4 (by omega)
  have hl25 := p5.1
  repeat' (first | (refine CallX.of (s84 n L hL _ ?_ ?_ _ ?_) [(1000000, 1000000)] rfl ⟨lr, lr, trivial⟩ ⟨rr, trivial⟩ rfl rfl ?_; rotate_right; rintro x rout ⟨⟨f, rfl⟩, ⟨c, c1, c2, rfl⟩⟩; refine ⟨rfl, ?_⟩; conv => whnf) | (refine CallX.of (s86 n L hL _ ?_ ?_ _ ?_) [(1000000, 1000000)] rfl ⟨lr, lr, trivial⟩ ⟨rr, trivial⟩ rfl rfl ?_; rotate_right; rintro x rout ⟨⟨j, hj1, hj2, hj3, rfl⟩, ⟨c, c1, c2, rfl⟩⟩; refine ⟨rfl, ?_⟩; conv => whnf) | (refine CallX.of (s15 n L hL _ ?_ ?_ [(l.getD j.toNat rd0).a, [], [98]] (by simp) (by simp)) [(1000000, 1000000)] rfl ⟨lr, SV.le_lit rfl rfl, trivial⟩ ⟨rr, trivial⟩ rfl rfl ?_; rotate_right; rintro x rout ⟨⟨u1, hu1, rfl⟩, ⟨c, c1, c2, rfl⟩⟩; refine ⟨rfl, ?_⟩; conv => whnf) | (refine CallX.of (s15 n L hL _ ?_ ?_ [(l.getD j.toNat rd0).b, [65], [98]] (by simp) (by simp)) [(1000000, 1000000)] rfl ⟨lr, SV.le_lit rfl rfl, trivial⟩ ⟨rr, trivial⟩ rfl rfl ?_; rotate_right; rintro x rout ⟨⟨u2, hu2, rfl⟩, ⟨c, c1, c2, rfl⟩⟩; refine ⟨rfl, ?_⟩; conv => whnf) | (refine CallX.of (s104 n L hL _ ?_ ?_ 0 1000000 ?_ ?_ ?_) [(1000000, 1000000)] rfl ⟨lr, lr, lr, trivial⟩ ⟨rr, trivial⟩ rfl rfl ?_; rotate_right; rintro x rout ⟨⟨u3, hk1, hk2, rfl⟩, ⟨c, c1, c2, rfl⟩⟩; refine ⟨rfl, ?_⟩; conv => whnf) | (refine br_intro ?_ ?_ <;> intro hb <;> (try simp only [brs] at hb) <;> conv => whnf) | (refine RegX.rule (id := 14) hT rfl [] oVRoA7_14 (by decide +kernel) ?_; conv => whnf) | omega | (refine And.intro ?_ ?_; ((try dsimp only); first | omega | (refine szA rfl ?_; omega) | (refine szB rfl ?_; omega) | (unfold inI64; omega) | exact rfl | (simp only [lns] at *; omega) | decide | (unfold inI64; decide)); conv => whnf) | decide | assumption)
 all_goals first
  | (refine .freeze _ 3 64 4 _ _ rfl (.weak _ ?_)
     (conv => whnf)
     have hx := p5.2 (l.getD j.toNat rd0) (getD_mem (by omega))
     have hq1 := three_len hu1 hx.1 (by decide) (by decide)
     have hq2 := three_len hu2 hx.2 (by decide) (by decide)
     exact ⟨_, [(1000000, strm n L _)], SV.le_upd3 (f := rdF) (d := rd0) (fun y : Roa => { y with a := u1 }) (fun y => { y with b := u2 }) (fun y => { y with car := u3 }) (fun _ => rfl) (fun _ => rfl) (fun _ => rfl), ⟨⟨_, allK_upd (g := fun y : Roa => { y with car := u3 }) (allK_upd (g := fun y : Roa => { y with b := u2 }) (allK_upd (g := fun y : Roa => { y with a := u1 }) p5 (fun y hy => ⟨hq1, hy.2⟩)) (fun y hy => ⟨hy.1, hq2⟩)) (fun y hy => hy), rfl⟩, _, by omega, by omega, rfl⟩, rr, trivial⟩)
  | (refine .freeze _ 3 64 4 _ _ rfl (.weak _ ?_)
     (conv => whnf)
     exact ⟨_, [(1000000, strm n L _)], lr, ⟨⟨l, p5, rfl⟩, _, by omega, by omega, rfl⟩, rr, trivial⟩)
def mvG (x : Mov) : Prop := x.a.length ≤ 8 ∧ x.b.length ≤ 8
def ndS (x : Ned) : Prop := x.st.length ≤ 8
abbrev ndB (l : List Ned) : Res := seqB 58 2 ndF nd0 l
set_option maxHeartbeats 2000000 in
theorem sNds (n : Nat) (L : Nat → Int) (hL : Rok n L) (a : Int) (h0 : 0 ≤ a) (ha : a ≤ 2^38) :
 FSpec Tryz.prog 6 [.ptr 1000000 0] [(1000000, strm n L a)] (fun y r => (∃ l : List Ned, allK ndS 5 l ∧ y = .d (neds l)) ∧ Moved n L a 100 r) := by
 refine spec_of hT (C := []) Tryz.func6 rfl Tryz.call6 rfl rfl rfl ?_
 conv => whnf
 repeat' (first | (refine br_intro ?_ ?_ <;> intro hb <;> (try simp only [brs] at hb) <;> conv => whnf) | omega | (refine And.intro ?_ ?_; ((try dsimp only); first | omega | (refine szA rfl ?_; omega) | (refine szB rfl ?_; omega) | (unfold inI64; omega) | exact rfl | (simp only [lns] at *; omega) | decide | (unfold inI64; decide)); conv => whnf) | decide | assumption)
 refine LoopX.rule hT (C := []) (ι := Int × Nat × List Ned) (fun (b, i, l) => (a ≤ b ∧ b ≤ a + 3 * i ∧ i ≤ 5) ∧ allK ndS i l)
  (fun (b, i, l) => mkSt [(0, .ptr 1000000 0), (3, .buf 3), (7, .d (strs tE)), (8, .d (.int .i64 5)), (9, .d (.int .i64 i))] [(1000000, strm n L b), (3, ndB l)]) (fun (_, i, _) => 5 - i) (a, 0, []) ⟨by simp, by simp [allK]⟩ ?_ ?_
 · exact (Entails.nil 3 3 58 2 (rowF ndF nd0 []) rfl rfl (by decide)).trans (by (refine Entails.mk' [(1000000, 1000000), (3, 3)] rfl rfl ?_ ?_ <;> repeat' (first | exact True.intro | exact lr | exact rr | (exact SV.le_lit rfl rfl) | exact SV.le_int (by omega) | exact SV.le_any _ | refine And.intro ?_ ?_)); done)
 rintro ⟨b, i, l⟩ ⟨⟨p1, p2, p3⟩, p4⟩
 have p1 : a ≤ b := p1
 have p2 : b ≤ a + 3 * i := p2
 have p3 : i ≤ 5 := p3
 have p4 : allK ndS i l := p4
 have hll := p4.1
 have htl : tE.length = 5 := rfl
 conv => whnf
 repeat' (first | (refine CallX.of (s84 n L hL _ ?_ ?_ _ ?_) [(1000000, 1000000)] rfl ⟨lr, lr, trivial⟩ ⟨rr, trivial⟩ rfl rfl ?_; rotate_right; rintro x rout ⟨⟨f, rfl⟩, ⟨c, c1, c2, rfl⟩⟩; refine ⟨rfl, ?_⟩; conv => whnf) | (refine CallX.of (s33 n L hL _ ?_ ?_ [0, 1, 2, 3, -1, -2, 4] ?_ ?_) [(1000000, 1000000)] rfl ⟨lr, SV.le_lit rfl rfl, trivial⟩ ⟨rr, trivial⟩ rfl rfl ?_; rotate_right; rintro x rout ⟨⟨u1, hu1, rfl⟩, ⟨c, c1, c2, rfl⟩⟩; refine ⟨rfl, ?_⟩; conv => whnf) | (refine br_intro ?_ ?_ <;> intro hb <;> (try simp only [brs] at hb) <;> conv => whnf) | omega | (refine And.intro ?_ ?_; ((try dsimp only); first | omega | (refine szA rfl ?_; omega) | (refine szB rfl ?_; omega) | (unfold inI64; omega) | exact rfl | (simp only [lns] at *; omega) | decide | (unfold inI64; decide)); conv => whnf) | decide | assumption)
 all_goals try (exfalso; omega)
 · refine ⟨(_, i + 1, l ++ [⟨tE.getD i [], u1⟩]), ⟨⟨by omega, ?_, by omega⟩, allK_snoc p4 (by omega) (Nat.le_trans tE_len (by decide))⟩, (show 5 - (i + 1) < 5 - i by omega), Entails.mk' [(1000000, 1000000), (3, 23)] rfl rfl ⟨lr, lr, lr, lr, lr, trivial⟩ ⟨rr, Res.le_snocF rfl, trivial⟩⟩
   show _ ≤ a + 3 * ((i + 1 : Nat) : Int)
   omega
 · refine ⟨(_, i + 1, l), ⟨⟨by omega, ?_, by omega⟩, allK_le p4 (by omega)⟩, (show 5 - (i + 1) < 5 - i by omega), Entails.mk' [(1000000, 1000000), (3, 3)] rfl rfl ⟨lr, lr, lr, lr, lr, trivial⟩ ⟨rr, rr, trivial⟩⟩
   show _ ≤ a + 3 * ((i + 1 : Nat) : Int)
   omega
 all_goals
  have p5 : allK ndS 5 l := allK_le p4 (by omega)
  have hl5 := p5.1
  repeat' (first | (refine CallX.of (s86 n L hL _ ?_ ?_ _ ?_) [(1000000, 1000000)] rfl ⟨lr, lr, trivial⟩ ⟨rr, trivial⟩ rfl rfl ?_; rotate_right; rintro x rout ⟨⟨j, hj1, hj2, hj3, rfl⟩, ⟨c, c1, c2, rfl⟩⟩; refine ⟨rfl, ?_⟩; conv => whnf) | (refine CallX.of (s15 n L hL _ ?_ ?_ [(l.getD j.toNat nd0).st, [], [97]] (by simp) (by simp)) [(1000000, 1000000)] rfl ⟨lr, SV.le_lit rfl rfl, trivial⟩ ⟨rr, trivial⟩ rfl rfl ?_; rotate_right; rintro x rout ⟨⟨u1, hu1, rfl⟩, ⟨c, c1, c2, rfl⟩⟩; refine ⟨rfl, ?_⟩; conv => whnf) | (refine CallX.of (s104 n L hL _ ?_ ?_ (-20) 20 ?_ ?_ ?_) [(1000000, 1000000)] rfl ⟨lr, lr, lr, trivial⟩ ⟨rr, trivial⟩ rfl rfl ?_; rotate_right; rintro x rout ⟨⟨u3, hk1, hk2, rfl⟩, ⟨c, c1, c2, rfl⟩⟩; refine ⟨rfl, ?_⟩; conv => whnf) | (refine br_intro ?_ ?_ <;> intro hb <;> (try simp only [brs] at hb) <;> conv => whnf) | omega | (refine And.intro ?_ ?_; ((try dsimp only); first | omega | (refine szA rfl ?_; omega) | (refine szB rfl ?_; omega) | (unfold inI64; omega) | exact rfl | (simp only [lns] at *; omega) | decide | (unfold inI64; decide)); conv => whnf) | decide | assumption)
 all_goals first
  | (refine .freeze _ 3 58 2 _ _ rfl (.weak _ ?_)
     (conv => whnf)
     have hx := p5.2 (l.getD j.toNat nd0) (getD_mem (by omega))
     have hq1 := three_len hu1 hx (by decide) (by decide)
     exact ⟨_, [(1000000, strm n L _)], SV.le_upd2 (f := ndF) (d := nd0) (fun y : Ned => { y with st := u1 }) (fun y => { y with many := u3 }) (fun _ => rfl) (fun _ => rfl), ⟨⟨_, allK_upd (g := fun y : Ned => { y with many := u3 }) (allK_upd (g := fun y : Ned => { y with st := u1 }) p5 (fun y hy => hq1)) (fun y hy => hy), rfl⟩, _, by omega, by omega, rfl⟩, rr, trivial⟩)
  | (refine .freeze _ 3 58 2 _ _ rfl (.weak _ ?_)
     (conv => whnf)
     exact ⟨_, [(1000000, strm n L _)], lr, ⟨⟨l, p5, rfl⟩, _, by omega, by omega, rfl⟩, rr, trivial⟩)
def oVPiD8_11 : List (Nat × List Nat) := [(0, []), (1, [0]), (2, [0, 1]), (3, [0, 1]), (8, [0, 1, 2, 3]), (9, [0, 1, 2, 3, 8]), (4, [0, 8, 9]), (5, [8, 9]), (6, [8, 9]), (7, [8, 9]), (10, [0, 5, 6, 7]), (11, []), (12, []), (13, []), (14, [])]
def oVPiD8_16 : List (Nat × List Nat) := [(0, []), (1, [0]), (2, [0, 1]), (4, [0, 1, 2]), (5, [0, 1, 2, 4]), (7, [0, 1, 2, 4, 5]), (8, [0, 1, 2, 4, 5, 7]), (3, [0, 4, 5, 7, 8]), (6, [0, 7, 8]), (9, [0]), (10, [0]), (11, [0]), (12, []), (13, [])]
def oVPiD8_23 : List (Nat × List Nat) := [(0, []), (1, [0]), (2, [0, 1]), (3, [0, 1, 2]), (4, [0, 1, 2]), (5, [0, 1, 2]), (6, [0, 1, 2]), (7, [0, 1, 2]), (9, [0, 1, 2, 3, 4, 5, 6, 7]), (8, [0, 1, 9]), (10, [0, 1]), (11, [1]), (12, [1]), (13, [1]), (14, []), (15, []), (16, [])]
theorem p33 (l : List Roa) (hl : l.length ≤ 2^20) : FSpec Tryz.prog 33 [.d (roas l)] [] (fun y r => y = .buf 7 ∧ r = [(7, rdB l)]) := by
 refine spec_of hT (C := [5]) Tryz.func33 rfl Tryz.call33 rfl rfl rfl ?_
 conv => whnf
 rintro b hbn
 conv => whnf
 repeat' (first | (refine br_intro ?_ ?_ <;> intro hb <;> (try simp only [brs] at hb) <;> conv => whnf) | omega | (refine And.intro ?_ ?_; ((try dsimp only); first | omega | (refine szA rfl ?_; omega) | (refine szB rfl ?_; omega) | (unfold inI64; omega) | exact rfl | (simp only [lns] at *; omega) | decide | (unfold inI64; decide)); conv => whnf) | decide | assumption)
 · have h0 : l = [] := List.eq_nil_of_length_eq_zero (hbn (by assumption))
   subst h0
   refine .ent _ _ (Entails.nil 2 7 64 4 (rowF rdF rd0 []) rfl rfl (by decide)) (.ret _ ?_)
   conv => whnf
   exact ⟨_, ⟨rfl, rfl⟩, rr, trivial⟩
 · refine .ret _ ?_
   conv => whnf
   refine ⟨_, ⟨rfl, rfl⟩, Res.le_buf (by simp) (fun i hi => ?_), trivial⟩
   rw [appGet_ge (by omega)]; rfl
def carL (l : List Roa) (j : Nat) (u : Int) : List Roa := l.set j { l.getD j rd0 with car := u }
theorem carL_at (l : List Roa) (j : Nat) (u : Int) (i : Nat) : ((carL l j u).getD i rd0).a = (l.getD i rd0).a ∧ ((carL l j u).getD i rd0).b = (l.getD i rd0).b ∧ ((carL l j u).getD i rd0).ride = (l.getD i rd0).ride ∧ (((carL l j u).getD i rd0).car = (l.getD i rd0).car ∨ ((carL l j u).getD i rd0).car = u) := by
 unfold carL
 by_cases hj : j < l.length
 · by_cases e : j = i
   · subst e
     have : (l.set j { l.getD j rd0 with car := u }).getD j rd0 = { l.getD j rd0 with car := u } := by
      rw [List.getD_eq_getElem?_getD, List.getElem?_set_self hj]; rfl
     rw [this]; exact ⟨rfl, rfl, rfl, .inr rfl⟩
   · have : (l.set j { l.getD j rd0 with car := u }).getD i rd0 = l.getD i rd0 := by
      rw [List.getD_eq_getElem?_getD, List.getElem?_set_ne e, ← List.getD_eq_getElem?_getD]
     rw [this]; exact ⟨rfl, rfl, rfl, .inl rfl⟩
 · rw [List.set_eq_of_length_le (by omega)]; exact ⟨rfl, rfl, rfl, .inl rfl⟩
theorem rds_car {l : List Roa} (h : rdsE l = 0) {j : Nat} {u : Int} (hu : 0 ≤ u ∧ u ≤ 1000000) : rdsE (carL l j u) = 0 := by
 obtain ⟨h1, h2⟩ := rds_all h
 have hlen : (carL l j u).length = l.length := by unfold carL; rw [List.length_set]
 unfold rdsE
 rw [hlen, if_neg (by omega)]
 refine firstAt_zero fun i hi => ?_
 have h3 := h2 i hi
 obtain ⟨a1, a2, a3, a4⟩ := carL_at l j u i
 obtain ⟨b1, b2, _⟩ := carL_at l j u (i - 1)
 have hb := rd_bd h hi
 have hc : (0 ≤ ((carL l j u).getD i rd0).car ∧ ((carL l j u).getD i rd0).car ≤ 1000000) := by rcases a4 with q | q <;> rw [q]; exact hb.1; exact hu
 unfold rdE at h3 ⊢
 simp only [a1, a2, a3, b1, b2] at h3 ⊢
 rw [if_neg (c := ¬ ((0 ≤ ((carL l j u).getD i rd0).car ∧ ((carL l j u).getD i rd0).car ≤ 1000000) ∧ (0 ≤ (l.getD i rd0).ride ∧ (l.getD i rd0).ride ≤ 1000000))) (fun q => q ⟨hc, hb.2⟩)]
 rw [if_neg (c := ¬ ((0 ≤ (l.getD i rd0).car ∧ (l.getD i rd0).car ≤ 1000000) ∧ (0 ≤ (l.getD i rd0).ride ∧ (l.getD i rd0).ride ≤ 1000000))) (fun q => q ⟨hb.1, hb.2⟩)] at h3
 exact h3
theorem lsV_mem {n : List Ned} {r : List Roa} : ∀ (m a : Nat) (x : Nat → Int), ∀ y ∈ lsV (mvN n r) m a x, ∃ k v, y = mvN n r k v
 | 0, _, _, y, hy => by cases hy
 | m + 1, a, x, y, hy => by
   rw [lsV] at hy
   rcases List.mem_append.1 hy with z | z
   · split at z
     · exact ⟨a, x 0, by simpa using z⟩
     · cases z
   · exact lsV_mem m (a + 1) (vtl x) y z
theorem getD_or {n : List Ned} (i : Nat) : n.getD i nd0 ∈ n ∨ n.getD i nd0 = nd0 := by
 by_cases h : i < n.length
 · exact .inl (getD_mem h)
 · right; rw [List.getD_eq_getElem?_getD, List.getElem?_eq_none (by omega)]; rfl
theorem ned_st {n : List Ned} (hN : allK ndS 5 n) (i : Nat) : (n.getD i nd0).st.length ≤ 8 := by
 rcases getD_or (n := n) i with q | q
 · exact hN.2 _ q
 · rw [q]; decide
theorem mvN_g {n : List Ned} (hN : allK ndS 5 n) {r : List Roa} {k : Nat} {v : Int} : mvG (mvN n r k v) := ⟨ned_st hN _, ned_st hN _⟩
theorem pof_g {n : List Ned} {r : List Roa} {M : PMap Mov} (hN : allK ndS 5 n) (hn : ndsE n = 0) (hr : rdsE r = 0) (h : NowI n r n.length M) {q : Pla Mov} (hq : M (List.replicate (wanS n n.length).length 0) = some q) : allK mvG 100 q.l ∧ ∀ m ∈ q.l, mvS m := by
 have b1 := (h.bnd _ _ hq).1
 have b2 := (nds_all hn).1
 have b3 := wanS_len n n.length
 have b4 : n.length * (wanS n n.length).length ≤ 10 * 10 := Nat.mul_le_mul b2 (by omega)
 have hb := pof_best hn hr h
 rw [hq] at hb
 obtain ⟨x, _, hx⟩ := hb
 exact ⟨⟨by omega, fun y hy => by rw [hx] at hy; obtain ⟨k, v, rfl⟩ := lsV_mem _ _ _ y hy; exact mvN_g hN⟩, b1.2⟩
set_option maxHeartbeats 16000000 in
theorem sMvs (n : Nat) (L : Nat → Int) (hL : Rok n L) (a0 : Int) (h00 : 0 ≤ a0) (ha0 : a0 ≤ 2^35) (N : List Ned) (R : List Roa) (hN : allK ndS 5 N) (hR : allK rdS 25 R) :
 FSpec Tryz.prog 8 [.ptr 1000000 0, .d (neds N), .d (roas R)] [(1000000, strm n L a0)] (fun y r => (∃ l : List Mov, allK mvG 100 l ∧ y = .d (movs l)) ∧ Moved n L a0 200 r) := by
 have hnd : ndOk N := ⟨by have := hN.1; omega, fun x hx => by have h1 : x.st.length ≤ 8 := hN.2 x hx; show x.st.length ≤ 2^40; omega⟩
 have hrd : rdOk R := ⟨by have := hR.1; omega, fun x hx => by have h1 := hR.2 x hx; exact ⟨by have := h1.1; omega, by have := h1.2; omega⟩⟩
 have hRl := hR.1
 have h20 := z20 N hnd
 have h21 := z21 R hrd
 obtain ⟨e1, he1⟩ : ∃ e, ndsE N = e := ⟨_, rfl⟩
 obtain ⟨e2, he2⟩ : ∃ e, rdsE R = e := ⟨_, rfl⟩
 rw [he1] at h20
 rw [he2] at h21
 refine spec_of hT (C := []) Tryz.func8 rfl Tryz.call8 rfl rfl rfl ?_
 conv => whnf
 repeat' (first | (refine CallX.exact (h20) rfl rfl ?_; rotate_right; conv => whnf) | (refine CallX.exact (h21) rfl rfl ?_; rotate_right; conv => whnf) | (refine CallX.of (s84 n L hL _ ?_ ?_ _ ?_) [(1000000, 1000000)] rfl ⟨lr, lr, trivial⟩ ⟨rr, trivial⟩ rfl rfl ?_; rotate_right; rintro x rout ⟨⟨f, rfl⟩, ⟨c, c1, c2, rfl⟩⟩; refine ⟨rfl, ?_⟩; conv => whnf) | (refine CallX.of (p33 R (by omega)) [(7, 7)] rfl ⟨lr, trivial⟩ trivial rfl rfl ?_; rintro x rout ⟨rfl, rfl⟩; refine ⟨rfl, ?_⟩; conv => whnf) | (refine CallX.of (s64 n L hL _ ?_ ?_ 0 5 ?_ ?_ ?_ ?_) [(1000000, 1000000)] rfl ⟨lr, lr, lr, trivial⟩ ⟨rr, trivial⟩ rfl rfl ?_; rotate_right; rintro x rout ⟨⟨k, hk1, hk2, rfl⟩, ⟨c, c1, c2, rfl⟩⟩; refine ⟨rfl, ?_⟩; conv => whnf) | (refine br_intro ?_ ?_ <;> intro hb <;> (try simp only [brs] at hb) <;> conv => whnf) | (refine RegX.rule (id := 11) hT rfl [] oVPiD8_11 (by decide +kernel) ?_; conv => whnf) | (refine RegX.rule (id := 16) hT rfl [] oVPiD8_16 (by decide +kernel) ?_; conv => whnf) | (refine RegX.rule (id := 23) hT rfl [] oVPiD8_23 (by decide +kernel) ?_; conv => whnf) | omega | (refine And.intro ?_ ?_; ((try dsimp only); first | omega | (refine szA rfl ?_; omega) | (refine szB rfl ?_; omega) | (unfold inI64; omega) | exact rfl | (simp only [lns] at *; omega) | decide | (unfold inI64; decide)); conv => whnf) | decide | assumption)
 · have h1 : ndsE N = 0 := by omega
   have h2 : rdsE R = 0 := by omega
   refine LoopX.rule hT (C := []) (ι := Int × List Roa × Nat) (fun (b, l, i) => (a0 ≤ b ∧ b ≤ a0 + 1 + i ∧ i ≤ R.length) ∧ (rdsE l = 0 ∧ l.length = R.length))
    (fun (b, l, i) => mkSt [(1, .d (neds N)), (3, .ptr 3 0), (7, .buf 7), (29, .d (.int .i64 R.length)), (30, .d (.int .i64 i))] [(1000000, strm n L b), (3, .cells 23 [.ptr 1000000 0]), (7, rdB l)]) (fun (_, _, i) => R.length - i) (c, R, 0) ⟨⟨by omega, by show c ≤ a0 + 1 + ((0 : Nat) : Int); omega, by omega⟩, h2, rfl⟩ (by (refine Entails.mk' [(1000000, 1000000), (3, 3), (7, 7)] rfl rfl ?_ ?_ <;> repeat' (first | exact True.intro | exact lr | exact rr | exact SV.le_int (by omega) | exact SV.le_any _ | refine And.intro ?_ ?_)); done) ?_
   rintro ⟨a, l, i⟩ ⟨⟨p1, p2, p3⟩, p4, p5⟩
   have p1 : a0 ≤ a := p1
   have p2 : a ≤ a0 + 1 + i := p2
   have p3 : i ≤ R.length := p3
   have p4 : rdsE l = 0 := p4
   have p5 : l.length = R.length := p5
   rcases Nat.lt_or_ge i R.length with hin | hin
   · conv => whnf
     repeat' (first | (refine CallX.of (s64 n L hL _ ?_ ?_ 0 9 ?_ ?_ ?_ ?_) [(1000000, 1000000)] rfl ⟨lr, lr, lr, trivial⟩ ⟨rr, trivial⟩ rfl rfl ?_; rotate_right; rintro x rout ⟨⟨u, hu1, hu2, rfl⟩, ⟨c, c1, c2, rfl⟩⟩; refine ⟨rfl, ?_⟩; conv => whnf) | (refine br_intro ?_ ?_ <;> intro hb <;> (try simp only [brs] at hb) <;> conv => whnf) | (refine RegX.rule (id := 11) hT rfl [] oVPiD8_11 (by decide +kernel) ?_; conv => whnf) | (refine RegX.rule (id := 16) hT rfl [] oVPiD8_16 (by decide +kernel) ?_; conv => whnf) | (refine RegX.rule (id := 23) hT rfl [] oVPiD8_23 (by decide +kernel) ?_; conv => whnf) | omega | (refine And.intro ?_ ?_; ((try dsimp only); first | omega | (refine szA rfl ?_; omega) | (refine szB rfl ?_; omega) | (unfold inI64; omega) | exact rfl | (simp only [lns] at *; omega) | decide | (unfold inI64; decide)); conv => whnf) | decide | assumption)
     all_goals try (exfalso; omega)
     refine ⟨(_, carL l i u, i + 1), ⟨⟨by omega, ?_, by omega⟩, rds_car p4 ⟨by omega, by omega⟩, by unfold carL; rw [List.length_set]; exact p5⟩, (show R.length - (i + 1) < R.length - i by omega), Entails.mk' [(1000000, 1000000), (3, 3), (7, 7)] rfl rfl ⟨lr, lr, lr, lr, lr, trivial⟩ ⟨rr, rr, Res.le_upd (fun y : Roa => { y with car := u }) (fun _ => rfl), trivial⟩⟩
     show _ ≤ a0 + 1 + ((i + 1 : Nat) : Int)
     omega
   have h0 : 0 ≤ a := by omega
   have ha : a ≤ 2^36 := by omega
   conv => whnf
   repeat' (first | (refine br_intro ?_ ?_ <;> intro hb <;> (try simp only [brs] at hb) <;> conv => whnf) | (refine RegX.rule (id := 11) hT rfl [] oVPiD8_11 (by decide +kernel) ?_; conv => whnf) | (refine RegX.rule (id := 16) hT rfl [] oVPiD8_16 (by decide +kernel) ?_; conv => whnf) | (refine RegX.rule (id := 23) hT rfl [] oVPiD8_23 (by decide +kernel) ?_; conv => whnf) | omega | (refine And.intro ?_ ?_; ((try dsimp only); first | omega | (refine szA rfl ?_; omega) | (refine szB rfl ?_; omega) | (unfold inI64; omega) | exact rfl | (simp only [lns] at *; omega) | decide | (unfold inI64; decide)); conv => whnf) | decide | assumption)
   all_goals try (exfalso; omega)
   refine CallX.freeze _ _ _ _ 7 64 4 _ _ rfl rfl ?_
   refine CallX.of (p35 N l h1 p4) [(7, 9)] rfl ⟨lr, lr, trivial⟩ trivial rfl rfl ?_
   rintro x rout ⟨o, ⟨M, hM, hMo⟩, hcase⟩
   cases o with
   | none =>
     rcases hcase with ⟨hz, rfl, rfl⟩ | ⟨hz, rfl, rfl⟩
     · refine ⟨rfl, ?_⟩
       conv => whnf
       repeat' (first | (refine CallX.of (s64 n L hL _ ?_ ?_ 0 5 ?_ ?_ ?_ ?_) [(1000000, 1000000)] rfl ⟨lr, lr, lr, trivial⟩ ⟨rr, trivial⟩ rfl rfl ?_; rotate_right; rintro x rout ⟨⟨k, hk1, hk2, rfl⟩, ⟨c, c1, c2, rfl⟩⟩; refine ⟨rfl, ?_⟩; conv => whnf) | (refine br_intro ?_ ?_ <;> intro hb <;> (try simp only [brs] at hb) <;> conv => whnf) | (refine RegX.rule (id := 11) hT rfl [] oVPiD8_11 (by decide +kernel) ?_; conv => whnf) | (refine RegX.rule (id := 16) hT rfl [] oVPiD8_16 (by decide +kernel) ?_; conv => whnf) | (refine RegX.rule (id := 23) hT rfl [] oVPiD8_23 (by decide +kernel) ?_; conv => whnf) | omega | (refine And.intro ?_ ?_; ((try dsimp only); first | omega | (refine szA rfl ?_; omega) | (refine szB rfl ?_; omega) | (unfold inI64; omega) | exact rfl | (simp only [lns] at *; omega) | decide | (unfold inI64; decide)); conv => whnf) | decide | assumption)
       refine LoopX.rule hT (C := []) (ι := Int × List Mov × Nat) (fun (b, l, i) => (a ≤ b ∧ b ≤ a + 2 + 3 * i ∧ (i : Int) ≤ k) ∧ allK mvG i l)
        (fun (b, l, i) => mkSt [(3, .ptr 3 0), (11, .buf 11), (70, .d (.int .i64 k)), (71, .d (.int .i64 i))] [(1000000, strm n L b), (3, .cells 23 [.ptr 1000000 0]), (11, mvB l)])
        (fun (_, _, i) => (k - i).toNat) (c, [], 0) ⟨⟨by show a ≤ c; omega, by show c ≤ a + 2 + 3 * ((0 : Nat) : Int); omega, by show ((0 : Nat) : Int) ≤ k; omega⟩, ⟨by simp, fun x hx => by cases hx⟩⟩ ?_ ?_
       · exact (Entails.nil 11 11 70 3 (rowF mvF mv0 []) rfl rfl (by decide)).trans (by (refine Entails.mk' [(1000000, 1000000), (3, 3), (11, 11)] rfl rfl ?_ ?_ <;> repeat' (first | exact True.intro | exact lr | exact rr | exact SV.le_int (by omega) | exact SV.le_any _ | refine And.intro ?_ ?_)); done)
       rintro ⟨b, l, i⟩ ⟨⟨p1, p2, p3⟩, p4⟩
       have p1 : a ≤ b := p1
       have p2 : b ≤ a + 2 + 3 * i := p2
       have p3 : (i : Int) ≤ k := p3
       have p4 : allK mvG i l := p4
       have hl1 := p4.1
       conv => whnf
       repeat' (first | (refine CallX.of (s15 n L hL _ ?_ ?_ [[97], [98], [99], [100]] (by simp) (by simp)) [(1000000, 1000000)] rfl ⟨lr, SV.le_lit rfl rfl, trivial⟩ ⟨rr, trivial⟩ rfl rfl ?_; rotate_right; rintro x rout ⟨⟨u1, hu1, rfl⟩, ⟨c, c1, c2, rfl⟩⟩; have hw1 := mem_len hu1 rfl; refine ⟨rfl, ?_⟩; conv => whnf) | (refine CallX.of (s15 n L hL _ ?_ ?_ [[98], [99], [100], [101]] (by simp) (by simp)) [(1000000, 1000000)] rfl ⟨lr, SV.le_lit rfl rfl, trivial⟩ ⟨rr, trivial⟩ rfl rfl ?_; rotate_right; rintro x rout ⟨⟨u2, hu2, rfl⟩, ⟨c, c1, c2, rfl⟩⟩; have hw2 := mem_len hu2 rfl; refine ⟨rfl, ?_⟩; conv => whnf) | (refine CallX.of (s33 n L hL _ ?_ ?_ [1, 1, 2] ?_ ?_) [(1000000, 1000000)] rfl ⟨lr, SV.le_lit rfl rfl, trivial⟩ ⟨rr, trivial⟩ rfl rfl ?_; rotate_right; rintro x rout ⟨⟨u3, hu3, rfl⟩, ⟨c, c1, c2, rfl⟩⟩; refine ⟨rfl, ?_⟩; conv => whnf) | (refine br_intro ?_ ?_ <;> intro hb <;> (try simp only [brs] at hb) <;> conv => whnf) | (refine RegX.rule (id := 11) hT rfl [] oVPiD8_11 (by decide +kernel) ?_; conv => whnf) | (refine RegX.rule (id := 16) hT rfl [] oVPiD8_16 (by decide +kernel) ?_; conv => whnf) | (refine RegX.rule (id := 23) hT rfl [] oVPiD8_23 (by decide +kernel) ?_; conv => whnf) | omega | (refine And.intro ?_ ?_; ((try dsimp only); first | omega | (refine szA rfl ?_; omega) | (refine szB rfl ?_; omega) | (unfold inI64; omega) | exact rfl | (simp only [lns] at *; omega) | decide | (unfold inI64; decide)); conv => whnf) | decide | assumption)
       · refine ⟨(_, l ++ [⟨u1, u2, u3⟩], i + 1), ⟨⟨by omega, ?_, by omega⟩, allK_snoc p4 (by omega) ⟨hw1, hw2⟩⟩, (show (k - ((i + 1 : Nat) : Int)).toNat < (k - (i : Int)).toNat by omega), Entails.mk' [(1000000, 1000000), (3, 3), (11, 85)] rfl rfl ⟨lr, lr, lr, lr, trivial⟩ ⟨rr, rr, Res.le_snocF rfl, trivial⟩⟩
         show _ ≤ a + 2 + 3 * ((i + 1 : Nat) : Int)
         omega
       have hl5 : l.length ≤ 5 := by omega
       have hi5 : i ≤ 5 := by omega
       refine CallX.of (z99 37 (fun x y => cmpS (mvKey x) (mvKey y)) l (by omega) (fun x y hx hy => z100 x y (p4.2 x hx) (p4.2 y hy))) [(1000001, 11)] rfl ⟨lr, lr, trivial⟩ ⟨rr, trivial⟩ rfl rfl ?_
       rintro x rout ⟨rfl, c1, hc1, rfl⟩
       refine ⟨rfl, ?_⟩
       have hcl1 : c1.length ≤ 5 := by have := hc1.1; omega
       conv => whnf
       refine CallX.of (z102 40 (fun x y => x.a == y.a && x.b == y.b) c1 (by omega) (fun x y _ _ => z103 x y)) [(1000001, 11), (64, 200)] rfl ⟨lr, lr, trivial⟩ ⟨rr, trivial⟩ rfl rfl ?_
       rintro x rout ⟨c2, hc2, nm, hnm, rfl, rfl⟩
       have hcl2 : c2.length ≤ 5 := by have := hc2.1; omega
       rcases hnm with rfl | rfl
       · refine ⟨rfl, ?_⟩
         conv => whnf
         refine CallX.of (z104 n L hL b (by omega) (by omega) c2 (by omega)) [(1000000, 1000000), (1000001, 11), (1000002, 3), (41, 300)] rfl ⟨lr, lr, trivial⟩ ⟨rr, rr, rr, trivial⟩ rfl rfl ?_
         rintro x rout ⟨e, he1, nm, hnm, rfl, c5, ⟨hv1, hv2⟩, rfl⟩
         rcases hnm with rfl | rfl
         · refine ⟨rfl, ?_⟩
           conv => whnf
           have hsh : allK mvG 100 e := ⟨by have := hc1.1; have := hc2.1; have := he1.1; omega, fun p hp => p4.2 p (hc1.2 p (hc2.2 p (he1.2 p hp)))⟩
           have he5 := hsh.1
           repeat' (first | (refine CallX.of (s84 n L hL _ ?_ ?_ _ ?_) [(1000000, 1000000)] rfl ⟨lr, lr, trivial⟩ ⟨rr, trivial⟩ rfl rfl ?_; rotate_right; rintro x rout ⟨⟨f, rfl⟩, ⟨c, c1, c2, rfl⟩⟩; refine ⟨rfl, ?_⟩; conv => whnf) | (refine CallX.of (s86 n L hL _ ?_ ?_ _ ?_) [(1000000, 1000000)] rfl ⟨lr, lr, trivial⟩ ⟨rr, trivial⟩ rfl rfl ?_; rotate_right; rintro x rout ⟨⟨j, hj1, hj2, hj3, rfl⟩, ⟨c, c1, c2, rfl⟩⟩; refine ⟨rfl, ?_⟩; conv => whnf) | (refine CallX.of (s15 n L hL _ ?_ ?_ [(e.getD j.toNat mv0).a, [], [122]] (by simp) (by simp)) [(1000000, 1000000)] rfl ⟨lr, SV.le_lit rfl rfl, trivial⟩ ⟨rr, trivial⟩ rfl rfl ?_; rotate_right; rintro x rout ⟨⟨u1, hu1, rfl⟩, ⟨c, c1, c2, rfl⟩⟩; refine ⟨rfl, ?_⟩; conv => whnf) | (refine CallX.of (s104 n L hL _ ?_ ?_ 1 20 ?_ ?_ ?_) [(1000000, 1000000)] rfl ⟨lr, lr, lr, trivial⟩ ⟨rr, trivial⟩ rfl rfl ?_; rotate_right; rintro x rout ⟨⟨u3, hk1, hk2, rfl⟩, ⟨c, c1, c2, rfl⟩⟩; refine ⟨rfl, ?_⟩; conv => whnf) | (refine br_intro ?_ ?_ <;> intro hb <;> (try simp only [brs] at hb) <;> conv => whnf) | (refine RegX.rule (id := 11) hT rfl [] oVPiD8_11 (by decide +kernel) ?_; conv => whnf) | (refine RegX.rule (id := 16) hT rfl [] oVPiD8_16 (by decide +kernel) ?_; conv => whnf) | (refine RegX.rule (id := 23) hT rfl [] oVPiD8_23 (by decide +kernel) ?_; conv => whnf) | omega | (refine And.intro ?_ ?_; ((try dsimp only); first | omega | (refine szA rfl ?_; omega) | (refine szB rfl ?_; omega) | (unfold inI64; omega) | exact rfl | (simp only [lns] at *; omega) | decide | (unfold inI64; decide)); conv => whnf) | decide | assumption)
           all_goals first
            | (first
                | refine .freeze _ 11 70 3 _ _ rfl (.weak _ ?_)
                | refine .freeze _ 200 70 3 _ _ rfl (.weak _ ?_)
                | refine .freeze _ 300 70 3 _ _ rfl (.weak _ ?_)
               (conv => whnf)
               have hx := hsh.2 (e.getD j.toNat mv0) (getD_mem (by omega))
               have hq1 := three_len hu1 hx.1 (by decide) (by decide)
               exact ⟨_, [(1000000, strm n L _)], SV.le_upd2 (f := mvF) (d := mv0) (l := e) (fun y : Mov => { y with a := u1 }) (fun y => { y with many := u3 }) (fun _ => rfl) (fun _ => rfl), ⟨⟨_, allK_upd (g := fun y : Mov => { y with many := u3 }) (allK_upd (g := fun y : Mov => { y with a := u1 }) hsh (fun y hy => ⟨hq1, hy.2⟩)) (fun y hy => hy), rfl⟩, _, by omega, by omega, rfl⟩, rr, trivial⟩)
            | (first
                | refine .freeze _ 11 70 3 _ _ rfl (.weak _ ?_)
                | refine .freeze _ 200 70 3 _ _ rfl (.weak _ ?_)
                | refine .freeze _ 300 70 3 _ _ rfl (.weak _ ?_)
               (conv => whnf)
               exact ⟨_, [(1000000, strm n L _)], lr, ⟨⟨e, hsh, rfl⟩, _, by omega, by omega, rfl⟩, rr, trivial⟩)
         · refine ⟨rfl, ?_⟩
           conv => whnf
           have hsh : allK mvG 100 e := ⟨by have := hc1.1; have := hc2.1; have := he1.1; omega, fun p hp => p4.2 p (hc1.2 p (hc2.2 p (he1.2 p hp)))⟩
           have he5 := hsh.1
           repeat' (first | (refine CallX.of (s84 n L hL _ ?_ ?_ _ ?_) [(1000000, 1000000)] rfl ⟨lr, lr, trivial⟩ ⟨rr, trivial⟩ rfl rfl ?_; rotate_right; rintro x rout ⟨⟨f, rfl⟩, ⟨c, c1, c2, rfl⟩⟩; refine ⟨rfl, ?_⟩; conv => whnf) | (refine CallX.of (s86 n L hL _ ?_ ?_ _ ?_) [(1000000, 1000000)] rfl ⟨lr, lr, trivial⟩ ⟨rr, trivial⟩ rfl rfl ?_; rotate_right; rintro x rout ⟨⟨j, hj1, hj2, hj3, rfl⟩, ⟨c, c1, c2, rfl⟩⟩; refine ⟨rfl, ?_⟩; conv => whnf) | (refine CallX.of (s15 n L hL _ ?_ ?_ [(e.getD j.toNat mv0).a, [], [122]] (by simp) (by simp)) [(1000000, 1000000)] rfl ⟨lr, SV.le_lit rfl rfl, trivial⟩ ⟨rr, trivial⟩ rfl rfl ?_; rotate_right; rintro x rout ⟨⟨u1, hu1, rfl⟩, ⟨c, c1, c2, rfl⟩⟩; refine ⟨rfl, ?_⟩; conv => whnf) | (refine CallX.of (s104 n L hL _ ?_ ?_ 1 20 ?_ ?_ ?_) [(1000000, 1000000)] rfl ⟨lr, lr, lr, trivial⟩ ⟨rr, trivial⟩ rfl rfl ?_; rotate_right; rintro x rout ⟨⟨u3, hk1, hk2, rfl⟩, ⟨c, c1, c2, rfl⟩⟩; refine ⟨rfl, ?_⟩; conv => whnf) | (refine br_intro ?_ ?_ <;> intro hb <;> (try simp only [brs] at hb) <;> conv => whnf) | (refine RegX.rule (id := 11) hT rfl [] oVPiD8_11 (by decide +kernel) ?_; conv => whnf) | (refine RegX.rule (id := 16) hT rfl [] oVPiD8_16 (by decide +kernel) ?_; conv => whnf) | (refine RegX.rule (id := 23) hT rfl [] oVPiD8_23 (by decide +kernel) ?_; conv => whnf) | omega | (refine And.intro ?_ ?_; ((try dsimp only); first | omega | (refine szA rfl ?_; omega) | (refine szB rfl ?_; omega) | (unfold inI64; omega) | exact rfl | (simp only [lns] at *; omega) | decide | (unfold inI64; decide)); conv => whnf) | decide | assumption)
           all_goals first
            | (first
                | refine .freeze _ 11 70 3 _ _ rfl (.weak _ ?_)
                | refine .freeze _ 200 70 3 _ _ rfl (.weak _ ?_)
                | refine .freeze _ 300 70 3 _ _ rfl (.weak _ ?_)
               (conv => whnf)
               have hx := hsh.2 (e.getD j.toNat mv0) (getD_mem (by omega))
               have hq1 := three_len hu1 hx.1 (by decide) (by decide)
               exact ⟨_, [(1000000, strm n L _)], SV.le_upd2 (f := mvF) (d := mv0) (l := e) (fun y : Mov => { y with a := u1 }) (fun y => { y with many := u3 }) (fun _ => rfl) (fun _ => rfl), ⟨⟨_, allK_upd (g := fun y : Mov => { y with many := u3 }) (allK_upd (g := fun y : Mov => { y with a := u1 }) hsh (fun y hy => ⟨hq1, hy.2⟩)) (fun y hy => hy), rfl⟩, _, by omega, by omega, rfl⟩, rr, trivial⟩)
            | (first
                | refine .freeze _ 11 70 3 _ _ rfl (.weak _ ?_)
                | refine .freeze _ 200 70 3 _ _ rfl (.weak _ ?_)
                | refine .freeze _ 300 70 3 _ _ rfl (.weak _ ?_)
               (conv => whnf)
               exact ⟨_, [(1000000, strm n L _)], lr, ⟨⟨e, hsh, rfl⟩, _, by omega, by omega, rfl⟩, rr, trivial⟩)
       · refine ⟨rfl, ?_⟩
         conv => whnf
         refine CallX.of (z104 n L hL b (by omega) (by omega) c2 (by omega)) [(1000000, 1000000), (1000001, 200), (1000002, 3), (41, 300)] rfl ⟨lr, lr, trivial⟩ ⟨rr, rr, rr, trivial⟩ rfl rfl ?_
         rintro x rout ⟨e, he1, nm, hnm, rfl, c5, ⟨hv1, hv2⟩, rfl⟩
         rcases hnm with rfl | rfl
         · refine ⟨rfl, ?_⟩
           conv => whnf
           have hsh : allK mvG 100 e := ⟨by have := hc1.1; have := hc2.1; have := he1.1; omega, fun p hp => p4.2 p (hc1.2 p (hc2.2 p (he1.2 p hp)))⟩
           have he5 := hsh.1
           repeat' (first | (refine CallX.of (s84 n L hL _ ?_ ?_ _ ?_) [(1000000, 1000000)] rfl ⟨lr, lr, trivial⟩ ⟨rr, trivial⟩ rfl rfl ?_; rotate_right; rintro x rout ⟨⟨f, rfl⟩, ⟨c, c1, c2, rfl⟩⟩; refine ⟨rfl, ?_⟩; conv => whnf) | (refine CallX.of (s86 n L hL _ ?_ ?_ _ ?_) [(1000000, 1000000)] rfl ⟨lr, lr, trivial⟩ ⟨rr, trivial⟩ rfl rfl ?_; rotate_right; rintro x rout ⟨⟨j, hj1, hj2, hj3, rfl⟩, ⟨c, c1, c2, rfl⟩⟩; refine ⟨rfl, ?_⟩; conv => whnf) | (refine CallX.of (s15 n L hL _ ?_ ?_ [(e.getD j.toNat mv0).a, [], [122]] (by simp) (by simp)) [(1000000, 1000000)] rfl ⟨lr, SV.le_lit rfl rfl, trivial⟩ ⟨rr, trivial⟩ rfl rfl ?_; rotate_right; rintro x rout ⟨⟨u1, hu1, rfl⟩, ⟨c, c1, c2, rfl⟩⟩; refine ⟨rfl, ?_⟩; conv => whnf) | (refine CallX.of (s104 n L hL _ ?_ ?_ 1 20 ?_ ?_ ?_) [(1000000, 1000000)] rfl ⟨lr, lr, lr, trivial⟩ ⟨rr, trivial⟩ rfl rfl ?_; rotate_right; rintro x rout ⟨⟨u3, hk1, hk2, rfl⟩, ⟨c, c1, c2, rfl⟩⟩; refine ⟨rfl, ?_⟩; conv => whnf) | (refine br_intro ?_ ?_ <;> intro hb <;> (try simp only [brs] at hb) <;> conv => whnf) | (refine RegX.rule (id := 11) hT rfl [] oVPiD8_11 (by decide +kernel) ?_; conv => whnf) | (refine RegX.rule (id := 16) hT rfl [] oVPiD8_16 (by decide +kernel) ?_; conv => whnf) | (refine RegX.rule (id := 23) hT rfl [] oVPiD8_23 (by decide +kernel) ?_; conv => whnf) | omega | (refine And.intro ?_ ?_; ((try dsimp only); first | omega | (refine szA rfl ?_; omega) | (refine szB rfl ?_; omega) | (unfold inI64; omega) | exact rfl | (simp only [lns] at *; omega) | decide | (unfold inI64; decide)); conv => whnf) | decide | assumption)
           all_goals first
            | (first
                | refine .freeze _ 11 70 3 _ _ rfl (.weak _ ?_)
                | refine .freeze _ 200 70 3 _ _ rfl (.weak _ ?_)
                | refine .freeze _ 300 70 3 _ _ rfl (.weak _ ?_)
               (conv => whnf)
               have hx := hsh.2 (e.getD j.toNat mv0) (getD_mem (by omega))
               have hq1 := three_len hu1 hx.1 (by decide) (by decide)
               exact ⟨_, [(1000000, strm n L _)], SV.le_upd2 (f := mvF) (d := mv0) (l := e) (fun y : Mov => { y with a := u1 }) (fun y => { y with many := u3 }) (fun _ => rfl) (fun _ => rfl), ⟨⟨_, allK_upd (g := fun y : Mov => { y with many := u3 }) (allK_upd (g := fun y : Mov => { y with a := u1 }) hsh (fun y hy => ⟨hq1, hy.2⟩)) (fun y hy => hy), rfl⟩, _, by omega, by omega, rfl⟩, rr, trivial⟩)
            | (first
                | refine .freeze _ 11 70 3 _ _ rfl (.weak _ ?_)
                | refine .freeze _ 200 70 3 _ _ rfl (.weak _ ?_)
                | refine .freeze _ 300 70 3 _ _ rfl (.weak _ ?_)
               (conv => whnf)
               exact ⟨_, [(1000000, strm n L _)], lr, ⟨⟨e, hsh, rfl⟩, _, by omega, by omega, rfl⟩, rr, trivial⟩)
         · refine ⟨rfl, ?_⟩
           conv => whnf
           have hsh : allK mvG 100 e := ⟨by have := hc1.1; have := hc2.1; have := he1.1; omega, fun p hp => p4.2 p (hc1.2 p (hc2.2 p (he1.2 p hp)))⟩
           have he5 := hsh.1
           repeat' (first | (refine CallX.of (s84 n L hL _ ?_ ?_ _ ?_) [(1000000, 1000000)] rfl ⟨lr, lr, trivial⟩ ⟨rr, trivial⟩ rfl rfl ?_; rotate_right; rintro x rout ⟨⟨f, rfl⟩, ⟨c, c1, c2, rfl⟩⟩; refine ⟨rfl, ?_⟩; conv => whnf) | (refine CallX.of (s86 n L hL _ ?_ ?_ _ ?_) [(1000000, 1000000)] rfl ⟨lr, lr, trivial⟩ ⟨rr, trivial⟩ rfl rfl ?_; rotate_right; rintro x rout ⟨⟨j, hj1, hj2, hj3, rfl⟩, ⟨c, c1, c2, rfl⟩⟩; refine ⟨rfl, ?_⟩; conv => whnf) | (refine CallX.of (s15 n L hL _ ?_ ?_ [(e.getD j.toNat mv0).a, [], [122]] (by simp) (by simp)) [(1000000, 1000000)] rfl ⟨lr, SV.le_lit rfl rfl, trivial⟩ ⟨rr, trivial⟩ rfl rfl ?_; rotate_right; rintro x rout ⟨⟨u1, hu1, rfl⟩, ⟨c, c1, c2, rfl⟩⟩; refine ⟨rfl, ?_⟩; conv => whnf) | (refine CallX.of (s104 n L hL _ ?_ ?_ 1 20 ?_ ?_ ?_) [(1000000, 1000000)] rfl ⟨lr, lr, lr, trivial⟩ ⟨rr, trivial⟩ rfl rfl ?_; rotate_right; rintro x rout ⟨⟨u3, hk1, hk2, rfl⟩, ⟨c, c1, c2, rfl⟩⟩; refine ⟨rfl, ?_⟩; conv => whnf) | (refine br_intro ?_ ?_ <;> intro hb <;> (try simp only [brs] at hb) <;> conv => whnf) | (refine RegX.rule (id := 11) hT rfl [] oVPiD8_11 (by decide +kernel) ?_; conv => whnf) | (refine RegX.rule (id := 16) hT rfl [] oVPiD8_16 (by decide +kernel) ?_; conv => whnf) | (refine RegX.rule (id := 23) hT rfl [] oVPiD8_23 (by decide +kernel) ?_; conv => whnf) | omega | (refine And.intro ?_ ?_; ((try dsimp only); first | omega | (refine szA rfl ?_; omega) | (refine szB rfl ?_; omega) | (unfold inI64; omega) | exact rfl | (simp only [lns] at *; omega) | decide | (unfold inI64; decide)); conv => whnf) | decide | assumption)
           all_goals first
            | (first
                | refine .freeze _ 11 70 3 _ _ rfl (.weak _ ?_)
                | refine .freeze _ 200 70 3 _ _ rfl (.weak _ ?_)
                | refine .freeze _ 300 70 3 _ _ rfl (.weak _ ?_)
               (conv => whnf)
               have hx := hsh.2 (e.getD j.toNat mv0) (getD_mem (by omega))
               have hq1 := three_len hu1 hx.1 (by decide) (by decide)
               exact ⟨_, [(1000000, strm n L _)], SV.le_upd2 (f := mvF) (d := mv0) (l := e) (fun y : Mov => { y with a := u1 }) (fun y => { y with many := u3 }) (fun _ => rfl) (fun _ => rfl), ⟨⟨_, allK_upd (g := fun y : Mov => { y with many := u3 }) (allK_upd (g := fun y : Mov => { y with a := u1 }) hsh (fun y hy => ⟨hq1, hy.2⟩)) (fun y hy => hy), rfl⟩, _, by omega, by omega, rfl⟩, rr, trivial⟩)
            | (first
                | refine .freeze _ 11 70 3 _ _ rfl (.weak _ ?_)
                | refine .freeze _ 200 70 3 _ _ rfl (.weak _ ?_)
                | refine .freeze _ 300 70 3 _ _ rfl (.weak _ ?_)
               (conv => whnf)
               exact ⟨_, [(1000000, strm n L _)], lr, ⟨⟨e, hsh, rfl⟩, _, by omega, by omega, rfl⟩, rr, trivial⟩)
     · exact absurd hz (by decide)
   | some q =>
     obtain ⟨hq1, hq2⟩ := pof_g hN h1 p4 hM hMo.symm
     have hql := hq1.1
     simp only [plL] at hcase
     rcases hcase with ⟨hz, rfl, rfl⟩ | ⟨hz, rfl, rfl⟩
     · refine ⟨rfl, ?_⟩
       conv => whnf
       repeat' (first | (refine br_intro ?_ ?_ <;> intro hb <;> (try simp only [brs] at hb) <;> conv => whnf) | (refine RegX.rule (id := 11) hT rfl [] oVPiD8_11 (by decide +kernel) ?_; conv => whnf) | (refine RegX.rule (id := 16) hT rfl [] oVPiD8_16 (by decide +kernel) ?_; conv => whnf) | (refine RegX.rule (id := 23) hT rfl [] oVPiD8_23 (by decide +kernel) ?_; conv => whnf) | omega | (refine And.intro ?_ ?_; ((try dsimp only); first | omega | (refine szA rfl ?_; omega) | (refine szB rfl ?_; omega) | (unfold inI64; omega) | exact rfl | (simp only [lns] at *; omega) | decide | (unfold inI64; decide)); conv => whnf) | decide | assumption)
       all_goals try (exfalso; omega)
       refine .weak _ ?_
       conv => whnf
       exact ⟨_, [(1000000, strm n L _)], SV.le_ro (by exact hz.symm) (fun _ _ => rfl), ⟨⟨q.l, hq1, rfl⟩, _, by omega, by omega, rfl⟩, rr, trivial⟩
     · have hz : 0 < q.l.length := hz
       refine ⟨rfl, ?_⟩
       conv => whnf
       repeat' (first | (refine CallX.of (s84 n L hL _ ?_ ?_ _ ?_) [(1000000, 1000000)] rfl ⟨lr, lr, trivial⟩ ⟨rr, trivial⟩ rfl rfl ?_; rotate_right; rintro x rout ⟨⟨f, rfl⟩, ⟨c, c1, c2, rfl⟩⟩; refine ⟨rfl, ?_⟩; conv => whnf) | (refine CallX.of (s86 n L hL _ ?_ ?_ _ ?_) [(1000000, 1000000)] rfl ⟨lr, lr, trivial⟩ ⟨rr, trivial⟩ rfl rfl ?_; rotate_right; rintro x rout ⟨⟨j, hj1, hj2, hj3, rfl⟩, ⟨c, c1, c2, rfl⟩⟩; have hj5 := hq2 (q.l.getD j.toNat mv0) (getD_mem (by omega)); have hj6 := hj5.1; have hj7 := hj5.2; refine ⟨rfl, ?_⟩; conv => whnf) | (refine CallX.of (s33 n L hL _ ?_ ?_ [1, -1] ?_ ?_) [(1000000, 1000000)] rfl ⟨lr, SV.le_lit rfl rfl, trivial⟩ ⟨rr, trivial⟩ rfl rfl ?_; rotate_right; rintro x rout ⟨⟨u, hu, rfl⟩, ⟨c, c1, c2, rfl⟩⟩; have hu2 : u = 1 ∨ u = -1 := (by simpa using hu); refine ⟨rfl, ?_⟩; conv => whnf) | (refine br_intro ?_ ?_ <;> intro hb <;> (try simp only [brs] at hb) <;> conv => whnf) | (refine RegX.rule (id := 11) hT rfl [] oVPiD8_11 (by decide +kernel) ?_; conv => whnf) | (refine RegX.rule (id := 16) hT rfl [] oVPiD8_16 (by decide +kernel) ?_; conv => whnf) | (refine RegX.rule (id := 23) hT rfl [] oVPiD8_23 (by decide +kernel) ?_; conv => whnf) | omega | (refine And.intro ?_ ?_; ((try dsimp only); first | omega | (refine szA rfl ?_; omega) | (refine szB rfl ?_; omega) | (unfold inI64; omega) | exact rfl | (simp only [lns] at *; omega) | decide | (unfold inI64; decide)); conv => whnf) | decide | assumption)
       all_goals try (exfalso; omega)
       · refine .freeze _ 9 70 3 _ _ rfl (.weak _ ?_)
         (conv => whnf)
         exact ⟨_, [(1000000, strm n L _)], SV.le_upd (f := mvF) (d := mv0) (l := q.l) (fun y : Mov => { y with many := (q.l.getD j.toNat mv0).many + u }) (fun _ => rfl), ⟨⟨_, allK_upd (g := fun y : Mov => { y with many := (q.l.getD j.toNat mv0).many + u }) hq1 (fun y hy => hy), rfl⟩, _, by omega, by omega, rfl⟩, rr, trivial⟩
       · refine .freeze _ 9 70 3 _ _ rfl (.weak _ ?_)
         (conv => whnf)
         exact ⟨_, [(1000000, strm n L _)], lr, ⟨⟨q.l, hq1, rfl⟩, _, by omega, by omega, rfl⟩, rr, trivial⟩
 all_goals
  obtain ⟨a, hae⟩ : ∃ a, a = a0 := ⟨_, rfl⟩
  have h0 : 0 ≤ a := by omega
  have ha : a ≤ 2^36 := by omega
  refine LoopX.rule hT (C := []) (ι := Int × List Mov × Nat) (fun (b, l, i) => (a ≤ b ∧ b ≤ a + 2 + 3 * i ∧ (i : Int) ≤ k) ∧ allK mvG i l)
   (fun (b, l, i) => mkSt [(3, .ptr 3 0), (11, .buf 11), (70, .d (.int .i64 k)), (71, .d (.int .i64 i))] [(1000000, strm n L b), (3, .cells 23 [.ptr 1000000 0]), (11, mvB l)])
   (fun (_, _, i) => (k - i).toNat) (c, [], 0) ⟨⟨by show a ≤ c; omega, by show c ≤ a + 2 + 3 * ((0 : Nat) : Int); omega, by show ((0 : Nat) : Int) ≤ k; omega⟩, ⟨by simp, fun x hx => by cases hx⟩⟩ ?_ ?_
  · exact (Entails.nil 11 11 70 3 (rowF mvF mv0 []) rfl rfl (by decide)).trans (by (refine Entails.mk' [(1000000, 1000000), (3, 3), (11, 11)] rfl rfl ?_ ?_ <;> repeat' (first | exact True.intro | exact lr | exact rr | exact SV.le_int (by omega) | exact SV.le_any _ | refine And.intro ?_ ?_)); done)
  rintro ⟨b, l, i⟩ ⟨⟨p1, p2, p3⟩, p4⟩
  have p1 : a ≤ b := p1
  have p2 : b ≤ a + 2 + 3 * i := p2
  have p3 : (i : Int) ≤ k := p3
  have p4 : allK mvG i l := p4
  have hl1 := p4.1
  conv => whnf
  repeat' (first | (refine CallX.of (s15 n L hL _ ?_ ?_ [[97], [98], [99], [100]] (by simp) (by simp)) [(1000000, 1000000)] rfl ⟨lr, SV.le_lit rfl rfl, trivial⟩ ⟨rr, trivial⟩ rfl rfl ?_; rotate_right; rintro x rout ⟨⟨u1, hu1, rfl⟩, ⟨c, c1, c2, rfl⟩⟩; have hw1 := mem_len hu1 rfl; refine ⟨rfl, ?_⟩; conv => whnf) | (refine CallX.of (s15 n L hL _ ?_ ?_ [[98], [99], [100], [101]] (by simp) (by simp)) [(1000000, 1000000)] rfl ⟨lr, SV.le_lit rfl rfl, trivial⟩ ⟨rr, trivial⟩ rfl rfl ?_; rotate_right; rintro x rout ⟨⟨u2, hu2, rfl⟩, ⟨c, c1, c2, rfl⟩⟩; have hw2 := mem_len hu2 rfl; refine ⟨rfl, ?_⟩; conv => whnf) | (refine CallX.of (s33 n L hL _ ?_ ?_ [1, 1, 2] ?_ ?_) [(1000000, 1000000)] rfl ⟨lr, SV.le_lit rfl rfl, trivial⟩ ⟨rr, trivial⟩ rfl rfl ?_; rotate_right; rintro x rout ⟨⟨u3, hu3, rfl⟩, ⟨c, c1, c2, rfl⟩⟩; refine ⟨rfl, ?_⟩; conv => whnf) | (refine br_intro ?_ ?_ <;> intro hb <;> (try simp only [brs] at hb) <;> conv => whnf) | (refine RegX.rule (id := 11) hT rfl [] oVPiD8_11 (by decide +kernel) ?_; conv => whnf) | (refine RegX.rule (id := 16) hT rfl [] oVPiD8_16 (by decide +kernel) ?_; conv => whnf) | (refine RegX.rule (id := 23) hT rfl [] oVPiD8_23 (by decide +kernel) ?_; conv => whnf) | omega | (refine And.intro ?_ ?_; ((try dsimp only); first | omega | (refine szA rfl ?_; omega) | (refine szB rfl ?_; omega) | (unfold inI64; omega) | exact rfl | (simp only [lns] at *; omega) | decide | (unfold inI64; decide)); conv => whnf) | decide | assumption)
  · refine ⟨(_, l ++ [⟨u1, u2, u3⟩], i + 1), ⟨⟨by omega, ?_, by omega⟩, allK_snoc p4 (by omega) ⟨hw1, hw2⟩⟩, (show (k - ((i + 1 : Nat) : Int)).toNat < (k - (i : Int)).toNat by omega), Entails.mk' [(1000000, 1000000), (3, 3), (11, 85)] rfl rfl ⟨lr, lr, lr, lr, trivial⟩ ⟨rr, rr, Res.le_snocF rfl, trivial⟩⟩
    show _ ≤ a + 2 + 3 * ((i + 1 : Nat) : Int)
    omega
  have hl5 : l.length ≤ 5 := by omega
  have hi5 : i ≤ 5 := by omega
  refine CallX.of (z99 37 (fun x y => cmpS (mvKey x) (mvKey y)) l (by omega) (fun x y hx hy => z100 x y (p4.2 x hx) (p4.2 y hy))) [(1000001, 11)] rfl ⟨lr, lr, trivial⟩ ⟨rr, trivial⟩ rfl rfl ?_
  rintro x rout ⟨rfl, c1, hc1, rfl⟩
  refine ⟨rfl, ?_⟩
  have hcl1 : c1.length ≤ 5 := by have := hc1.1; omega
  conv => whnf
  refine CallX.of (z102 40 (fun x y => x.a == y.a && x.b == y.b) c1 (by omega) (fun x y _ _ => z103 x y)) [(1000001, 11), (64, 200)] rfl ⟨lr, lr, trivial⟩ ⟨rr, trivial⟩ rfl rfl ?_
  rintro x rout ⟨c2, hc2, nm, hnm, rfl, rfl⟩
  have hcl2 : c2.length ≤ 5 := by have := hc2.1; omega
  rcases hnm with rfl | rfl
  · refine ⟨rfl, ?_⟩
    conv => whnf
    refine CallX.of (z104 n L hL b (by omega) (by omega) c2 (by omega)) [(1000000, 1000000), (1000001, 11), (1000002, 3), (41, 300)] rfl ⟨lr, lr, trivial⟩ ⟨rr, rr, rr, trivial⟩ rfl rfl ?_
    rintro x rout ⟨e, he1, nm, hnm, rfl, c5, ⟨hv1, hv2⟩, rfl⟩
    rcases hnm with rfl | rfl
    · refine ⟨rfl, ?_⟩
      conv => whnf
      have hsh : allK mvG 100 e := ⟨by have := hc1.1; have := hc2.1; have := he1.1; omega, fun p hp => p4.2 p (hc1.2 p (hc2.2 p (he1.2 p hp)))⟩
      have he5 := hsh.1
      repeat' (first | (refine CallX.of (s84 n L hL _ ?_ ?_ _ ?_) [(1000000, 1000000)] rfl ⟨lr, lr, trivial⟩ ⟨rr, trivial⟩ rfl rfl ?_; rotate_right; rintro x rout ⟨⟨f, rfl⟩, ⟨c, c1, c2, rfl⟩⟩; refine ⟨rfl, ?_⟩; conv => whnf) | (refine CallX.of (s86 n L hL _ ?_ ?_ _ ?_) [(1000000, 1000000)] rfl ⟨lr, lr, trivial⟩ ⟨rr, trivial⟩ rfl rfl ?_; rotate_right; rintro x rout ⟨⟨j, hj1, hj2, hj3, rfl⟩, ⟨c, c1, c2, rfl⟩⟩; refine ⟨rfl, ?_⟩; conv => whnf) | (refine CallX.of (s15 n L hL _ ?_ ?_ [(e.getD j.toNat mv0).a, [], [122]] (by simp) (by simp)) [(1000000, 1000000)] rfl ⟨lr, SV.le_lit rfl rfl, trivial⟩ ⟨rr, trivial⟩ rfl rfl ?_; rotate_right; rintro x rout ⟨⟨u1, hu1, rfl⟩, ⟨c, c1, c2, rfl⟩⟩; refine ⟨rfl, ?_⟩; conv => whnf) | (refine CallX.of (s104 n L hL _ ?_ ?_ 1 20 ?_ ?_ ?_) [(1000000, 1000000)] rfl ⟨lr, lr, lr, trivial⟩ ⟨rr, trivial⟩ rfl rfl ?_; rotate_right; rintro x rout ⟨⟨u3, hk1, hk2, rfl⟩, ⟨c, c1, c2, rfl⟩⟩; refine ⟨rfl, ?_⟩; conv => whnf) | (refine br_intro ?_ ?_ <;> intro hb <;> (try simp only [brs] at hb) <;> conv => whnf) | (refine RegX.rule (id := 11) hT rfl [] oVPiD8_11 (by decide +kernel) ?_; conv => whnf) | (refine RegX.rule (id := 16) hT rfl [] oVPiD8_16 (by decide +kernel) ?_; conv => whnf) | (refine RegX.rule (id := 23) hT rfl [] oVPiD8_23 (by decide +kernel) ?_; conv => whnf) | omega | (refine And.intro ?_ ?_; ((try dsimp only); first | omega | (refine szA rfl ?_; omega) | (refine szB rfl ?_; omega) | (unfold inI64; omega) | exact rfl | (simp only [lns] at *; omega) | decide | (unfold inI64; decide)); conv => whnf) | decide | assumption)
      all_goals first
       | (first
           | refine .freeze _ 11 70 3 _ _ rfl (.weak _ ?_)
           | refine .freeze _ 200 70 3 _ _ rfl (.weak _ ?_)
           | refine .freeze _ 300 70 3 _ _ rfl (.weak _ ?_)
          (conv => whnf)
          have hx := hsh.2 (e.getD j.toNat mv0) (getD_mem (by omega))
          have hq1 := three_len hu1 hx.1 (by decide) (by decide)
          exact ⟨_, [(1000000, strm n L _)], SV.le_upd2 (f := mvF) (d := mv0) (l := e) (fun y : Mov => { y with a := u1 }) (fun y => { y with many := u3 }) (fun _ => rfl) (fun _ => rfl), ⟨⟨_, allK_upd (g := fun y : Mov => { y with many := u3 }) (allK_upd (g := fun y : Mov => { y with a := u1 }) hsh (fun y hy => ⟨hq1, hy.2⟩)) (fun y hy => hy), rfl⟩, _, by omega, by omega, rfl⟩, rr, trivial⟩)
       | (first
           | refine .freeze _ 11 70 3 _ _ rfl (.weak _ ?_)
           | refine .freeze _ 200 70 3 _ _ rfl (.weak _ ?_)
           | refine .freeze _ 300 70 3 _ _ rfl (.weak _ ?_)
          (conv => whnf)
          exact ⟨_, [(1000000, strm n L _)], lr, ⟨⟨e, hsh, rfl⟩, _, by omega, by omega, rfl⟩, rr, trivial⟩)
    · refine ⟨rfl, ?_⟩
      conv => whnf
      have hsh : allK mvG 100 e := ⟨by have := hc1.1; have := hc2.1; have := he1.1; omega, fun p hp => p4.2 p (hc1.2 p (hc2.2 p (he1.2 p hp)))⟩
      have he5 := hsh.1
      repeat' (first | (refine CallX.of (s84 n L hL _ ?_ ?_ _ ?_) [(1000000, 1000000)] rfl ⟨lr, lr, trivial⟩ ⟨rr, trivial⟩ rfl rfl ?_; rotate_right; rintro x rout ⟨⟨f, rfl⟩, ⟨c, c1, c2, rfl⟩⟩; refine ⟨rfl, ?_⟩; conv => whnf) | (refine CallX.of (s86 n L hL _ ?_ ?_ _ ?_) [(1000000, 1000000)] rfl ⟨lr, lr, trivial⟩ ⟨rr, trivial⟩ rfl rfl ?_; rotate_right; rintro x rout ⟨⟨j, hj1, hj2, hj3, rfl⟩, ⟨c, c1, c2, rfl⟩⟩; refine ⟨rfl, ?_⟩; conv => whnf) | (refine CallX.of (s15 n L hL _ ?_ ?_ [(e.getD j.toNat mv0).a, [], [122]] (by simp) (by simp)) [(1000000, 1000000)] rfl ⟨lr, SV.le_lit rfl rfl, trivial⟩ ⟨rr, trivial⟩ rfl rfl ?_; rotate_right; rintro x rout ⟨⟨u1, hu1, rfl⟩, ⟨c, c1, c2, rfl⟩⟩; refine ⟨rfl, ?_⟩; conv => whnf) | (refine CallX.of (s104 n L hL _ ?_ ?_ 1 20 ?_ ?_ ?_) [(1000000, 1000000)] rfl ⟨lr, lr, lr, trivial⟩ ⟨rr, trivial⟩ rfl rfl ?_; rotate_right; rintro x rout ⟨⟨u3, hk1, hk2, rfl⟩, ⟨c, c1, c2, rfl⟩⟩; refine ⟨rfl, ?_⟩; conv => whnf) | (refine br_intro ?_ ?_ <;> intro hb <;> (try simp only [brs] at hb) <;> conv => whnf) | (refine RegX.rule (id := 11) hT rfl [] oVPiD8_11 (by decide +kernel) ?_; conv => whnf) | (refine RegX.rule (id := 16) hT rfl [] oVPiD8_16 (by decide +kernel) ?_; conv => whnf) | (refine RegX.rule (id := 23) hT rfl [] oVPiD8_23 (by decide +kernel) ?_; conv => whnf) | omega | (refine And.intro ?_ ?_; ((try dsimp only); first | omega | (refine szA rfl ?_; omega) | (refine szB rfl ?_; omega) | (unfold inI64; omega) | exact rfl | (simp only [lns] at *; omega) | decide | (unfold inI64; decide)); conv => whnf) | decide | assumption)
      all_goals first
       | (first
           | refine .freeze _ 11 70 3 _ _ rfl (.weak _ ?_)
           | refine .freeze _ 200 70 3 _ _ rfl (.weak _ ?_)
           | refine .freeze _ 300 70 3 _ _ rfl (.weak _ ?_)
          (conv => whnf)
          have hx := hsh.2 (e.getD j.toNat mv0) (getD_mem (by omega))
          have hq1 := three_len hu1 hx.1 (by decide) (by decide)
          exact ⟨_, [(1000000, strm n L _)], SV.le_upd2 (f := mvF) (d := mv0) (l := e) (fun y : Mov => { y with a := u1 }) (fun y => { y with many := u3 }) (fun _ => rfl) (fun _ => rfl), ⟨⟨_, allK_upd (g := fun y : Mov => { y with many := u3 }) (allK_upd (g := fun y : Mov => { y with a := u1 }) hsh (fun y hy => ⟨hq1, hy.2⟩)) (fun y hy => hy), rfl⟩, _, by omega, by omega, rfl⟩, rr, trivial⟩)
       | (first
           | refine .freeze _ 11 70 3 _ _ rfl (.weak _ ?_)
           | refine .freeze _ 200 70 3 _ _ rfl (.weak _ ?_)
           | refine .freeze _ 300 70 3 _ _ rfl (.weak _ ?_)
          (conv => whnf)
          exact ⟨_, [(1000000, strm n L _)], lr, ⟨⟨e, hsh, rfl⟩, _, by omega, by omega, rfl⟩, rr, trivial⟩)
  · refine ⟨rfl, ?_⟩
    conv => whnf
    refine CallX.of (z104 n L hL b (by omega) (by omega) c2 (by omega)) [(1000000, 1000000), (1000001, 200), (1000002, 3), (41, 300)] rfl ⟨lr, lr, trivial⟩ ⟨rr, rr, rr, trivial⟩ rfl rfl ?_
    rintro x rout ⟨e, he1, nm, hnm, rfl, c5, ⟨hv1, hv2⟩, rfl⟩
    rcases hnm with rfl | rfl
    · refine ⟨rfl, ?_⟩
      conv => whnf
      have hsh : allK mvG 100 e := ⟨by have := hc1.1; have := hc2.1; have := he1.1; omega, fun p hp => p4.2 p (hc1.2 p (hc2.2 p (he1.2 p hp)))⟩
      have he5 := hsh.1
      repeat' (first | (refine CallX.of (s84 n L hL _ ?_ ?_ _ ?_) [(1000000, 1000000)] rfl ⟨lr, lr, trivial⟩ ⟨rr, trivial⟩ rfl rfl ?_; rotate_right; rintro x rout ⟨⟨f, rfl⟩, ⟨c, c1, c2, rfl⟩⟩; refine ⟨rfl, ?_⟩; conv => whnf) | (refine CallX.of (s86 n L hL _ ?_ ?_ _ ?_) [(1000000, 1000000)] rfl ⟨lr, lr, trivial⟩ ⟨rr, trivial⟩ rfl rfl ?_; rotate_right; rintro x rout ⟨⟨j, hj1, hj2, hj3, rfl⟩, ⟨c, c1, c2, rfl⟩⟩; refine ⟨rfl, ?_⟩; conv => whnf) | (refine CallX.of (s15 n L hL _ ?_ ?_ [(e.getD j.toNat mv0).a, [], [122]] (by simp) (by simp)) [(1000000, 1000000)] rfl ⟨lr, SV.le_lit rfl rfl, trivial⟩ ⟨rr, trivial⟩ rfl rfl ?_; rotate_right; rintro x rout ⟨⟨u1, hu1, rfl⟩, ⟨c, c1, c2, rfl⟩⟩; refine ⟨rfl, ?_⟩; conv => whnf) | (refine CallX.of (s104 n L hL _ ?_ ?_ 1 20 ?_ ?_ ?_) [(1000000, 1000000)] rfl ⟨lr, lr, lr, trivial⟩ ⟨rr, trivial⟩ rfl rfl ?_; rotate_right; rintro x rout ⟨⟨u3, hk1, hk2, rfl⟩, ⟨c, c1, c2, rfl⟩⟩; refine ⟨rfl, ?_⟩; conv => whnf) | (refine br_intro ?_ ?_ <;> intro hb <;> (try simp only [brs] at hb) <;> conv => whnf) | (refine RegX.rule (id := 11) hT rfl [] oVPiD8_11 (by decide +kernel) ?_; conv => whnf) | (refine RegX.rule (id := 16) hT rfl [] oVPiD8_16 (by decide +kernel) ?_; conv => whnf) | (refine RegX.rule (id := 23) hT rfl [] oVPiD8_23 (by decide +kernel) ?_; conv => whnf) | omega | (refine And.intro ?_ ?_; ((try dsimp only); first | omega | (refine szA rfl ?_; omega) | (refine szB rfl ?_; omega) | (unfold inI64; omega) | exact rfl | (simp only [lns] at *; omega) | decide | (unfold inI64; decide)); conv => whnf) | decide | assumption)
      all_goals first
       | (first
           | refine .freeze _ 11 70 3 _ _ rfl (.weak _ ?_)
           | refine .freeze _ 200 70 3 _ _ rfl (.weak _ ?_)
           | refine .freeze _ 300 70 3 _ _ rfl (.weak _ ?_)
          (conv => whnf)
          have hx := hsh.2 (e.getD j.toNat mv0) (getD_mem (by omega))
          have hq1 := three_len hu1 hx.1 (by decide) (by decide)
          exact ⟨_, [(1000000, strm n L _)], SV.le_upd2 (f := mvF) (d := mv0) (l := e) (fun y : Mov => { y with a := u1 }) (fun y => { y with many := u3 }) (fun _ => rfl) (fun _ => rfl), ⟨⟨_, allK_upd (g := fun y : Mov => { y with many := u3 }) (allK_upd (g := fun y : Mov => { y with a := u1 }) hsh (fun y hy => ⟨hq1, hy.2⟩)) (fun y hy => hy), rfl⟩, _, by omega, by omega, rfl⟩, rr, trivial⟩)
       | (first
           | refine .freeze _ 11 70 3 _ _ rfl (.weak _ ?_)
           | refine .freeze _ 200 70 3 _ _ rfl (.weak _ ?_)
           | refine .freeze _ 300 70 3 _ _ rfl (.weak _ ?_)
          (conv => whnf)
          exact ⟨_, [(1000000, strm n L _)], lr, ⟨⟨e, hsh, rfl⟩, _, by omega, by omega, rfl⟩, rr, trivial⟩)
    · refine ⟨rfl, ?_⟩
      conv => whnf
      have hsh : allK mvG 100 e := ⟨by have := hc1.1; have := hc2.1; have := he1.1; omega, fun p hp => p4.2 p (hc1.2 p (hc2.2 p (he1.2 p hp)))⟩
      have he5 := hsh.1
      repeat' (first | (refine CallX.of (s84 n L hL _ ?_ ?_ _ ?_) [(1000000, 1000000)] rfl ⟨lr, lr, trivial⟩ ⟨rr, trivial⟩ rfl rfl ?_; rotate_right; rintro x rout ⟨⟨f, rfl⟩, ⟨c, c1, c2, rfl⟩⟩; refine ⟨rfl, ?_⟩; conv => whnf) | (refine CallX.of (s86 n L hL _ ?_ ?_ _ ?_) [(1000000, 1000000)] rfl ⟨lr, lr, trivial⟩ ⟨rr, trivial⟩ rfl rfl ?_; rotate_right; rintro x rout ⟨⟨j, hj1, hj2, hj3, rfl⟩, ⟨c, c1, c2, rfl⟩⟩; refine ⟨rfl, ?_⟩; conv => whnf) | (refine CallX.of (s15 n L hL _ ?_ ?_ [(e.getD j.toNat mv0).a, [], [122]] (by simp) (by simp)) [(1000000, 1000000)] rfl ⟨lr, SV.le_lit rfl rfl, trivial⟩ ⟨rr, trivial⟩ rfl rfl ?_; rotate_right; rintro x rout ⟨⟨u1, hu1, rfl⟩, ⟨c, c1, c2, rfl⟩⟩; refine ⟨rfl, ?_⟩; conv => whnf) | (refine CallX.of (s104 n L hL _ ?_ ?_ 1 20 ?_ ?_ ?_) [(1000000, 1000000)] rfl ⟨lr, lr, lr, trivial⟩ ⟨rr, trivial⟩ rfl rfl ?_; rotate_right; rintro x rout ⟨⟨u3, hk1, hk2, rfl⟩, ⟨c, c1, c2, rfl⟩⟩; refine ⟨rfl, ?_⟩; conv => whnf) | (refine br_intro ?_ ?_ <;> intro hb <;> (try simp only [brs] at hb) <;> conv => whnf) | (refine RegX.rule (id := 11) hT rfl [] oVPiD8_11 (by decide +kernel) ?_; conv => whnf) | (refine RegX.rule (id := 16) hT rfl [] oVPiD8_16 (by decide +kernel) ?_; conv => whnf) | (refine RegX.rule (id := 23) hT rfl [] oVPiD8_23 (by decide +kernel) ?_; conv => whnf) | omega | (refine And.intro ?_ ?_; ((try dsimp only); first | omega | (refine szA rfl ?_; omega) | (refine szB rfl ?_; omega) | (unfold inI64; omega) | exact rfl | (simp only [lns] at *; omega) | decide | (unfold inI64; decide)); conv => whnf) | decide | assumption)
      all_goals first
       | (first
           | refine .freeze _ 11 70 3 _ _ rfl (.weak _ ?_)
           | refine .freeze _ 200 70 3 _ _ rfl (.weak _ ?_)
           | refine .freeze _ 300 70 3 _ _ rfl (.weak _ ?_)
          (conv => whnf)
          have hx := hsh.2 (e.getD j.toNat mv0) (getD_mem (by omega))
          have hq1 := three_len hu1 hx.1 (by decide) (by decide)
          exact ⟨_, [(1000000, strm n L _)], SV.le_upd2 (f := mvF) (d := mv0) (l := e) (fun y : Mov => { y with a := u1 }) (fun y => { y with many := u3 }) (fun _ => rfl) (fun _ => rfl), ⟨⟨_, allK_upd (g := fun y : Mov => { y with many := u3 }) (allK_upd (g := fun y : Mov => { y with a := u1 }) hsh (fun y hy => ⟨hq1, hy.2⟩)) (fun y hy => hy), rfl⟩, _, by omega, by omega, rfl⟩, rr, trivial⟩)
       | (first
           | refine .freeze _ 11 70 3 _ _ rfl (.weak _ ?_)
           | refine .freeze _ 200 70 3 _ _ rfl (.weak _ ?_)
           | refine .freeze _ 300 70 3 _ _ rfl (.weak _ ?_)
          (conv => whnf)
          exact ⟨_, [(1000000, strm n L _)], lr, ⟨⟨e, hsh, rfl⟩, _, by omega, by omega, rfl⟩, rr, trivial⟩)
def lwr (D : List Int) (i : Nat) (x : Int) : List Int := if x < D.getD i 0 then D.set i x else D
theorem p61b (D : List Int) (i : Nat) (x : Int) (hi : i < D.length) : FSpec Tryz.prog 61 [.bel 1000000 1 i 0, .d (.int .i64 x)] [(1000000, seqB 3 1 iF 0 D)]
 (fun y r => y = .d (.bool (decide (x < D.getD i 0))) ∧ r = [(1000000, seqB 3 1 iF 0 (lwr D i x))]) := by
 refine spec_of hT (C := []) Tryz.func61 rfl Tryz.call61 rfl rfl rfl ?_
 conv => whnf
 repeat' (first | (refine br_intro ?_ ?_ <;> intro hb <;> (try simp only [brs] at hb) <;> conv => whnf) | omega | (refine And.intro ?_ ?_; ((try dsimp only); first | omega | (refine szA rfl ?_; omega) | (refine szB rfl ?_; omega) | (unfold inI64; omega) | exact rfl | (simp only [lns] at *; omega) | decide | (unfold inI64; decide)); conv => whnf) | decide | assumption)
 · refine .ret _ ?_
   conv => whnf
   refine ⟨_, ⟨?_, rfl⟩, ?_, trivial⟩
   · conv => lhs; whnf
     rw [decide_eq_false (by omega)]
   · unfold lwr; rw [if_neg (by omega)]; exact rr
 · refine .ret _ ?_
   conv => whnf
   refine ⟨_, ⟨?_, rfl⟩, ?_, trivial⟩
   · conv => lhs; whnf
     rw [decide_eq_true (by omega)]
   · unfold lwr; rw [if_pos (by omega)]; exact Res.le_upd (fun _ => x) (fun y => rfl)
theorem p61a (s x : Int) : FSpec Tryz.prog 61 [.ptr 1000000 0, .d (.int .i64 x)] [(1000000, .cells 3 [.d (.int .i64 s)])]
 (fun y r => y = .d (.bool (decide (x < s))) ∧ r = [(1000000, .cells 3 [.d (.int .i64 (if x < s then x else s))])]) := by
 refine spec_of hT (C := []) Tryz.func61 rfl Tryz.call61 rfl rfl rfl ?_
 conv => whnf
 repeat' (first | (refine br_intro ?_ ?_ <;> intro hb <;> (try simp only [brs] at hb) <;> conv => whnf) | omega | (refine And.intro ?_ ?_; ((try dsimp only); first | omega | (refine szA rfl ?_; omega) | (refine szB rfl ?_; omega) | (unfold inI64; omega) | exact rfl | (simp only [lns] at *; omega) | decide | (unfold inI64; decide)); conv => whnf) | decide | assumption)
 · refine .ret _ ?_
   conv => whnf
   refine ⟨_, ⟨?_, rfl⟩, ?_, trivial⟩
   · conv => lhs; whnf
     rw [decide_eq_false (by omega)]
   · rw [if_neg (by omega)]; exact rr
 · refine .ret _ ?_
   conv => whnf
   refine ⟨_, ⟨?_, rfl⟩, ?_, trivial⟩
   · conv => lhs; whnf
     rw [decide_eq_true (by omega)]
   · rw [if_pos (by omega)]; exact rr
def dst (N : Nat) (D : List Int) (s : Int) (v : Nat) : Int := if v < N then getI D v else s
theorem lwr_len (D : List Int) (i : Nat) (x : Int) : (lwr D i x).length = D.length := by unfold lwr; split <;> simp
theorem dst_set {N : Nat} {D : List Int} {s : Int} {i : Nat} {x : Int} (hi : i < N) (hD : D.length = N) : dst N (D.set i x) s = upd (dst N D s) i x := by
 funext v
 unfold dst
 rw [getI_set (by omega)]
 unfold upd
 by_cases q : v = i
 · subst q; rw [if_pos hi, if_pos rfl, if_pos rfl]
 · rw [if_neg q, if_neg q]
theorem dst_store {N : Nat} {D : List Int} {s x : Int} {v : Nat} (hv : v < N + 1) : dst N D x v = upd (dst N D s) N x v := by
 show (if v < N then getI D v else x) = if v = N then x else (if v < N then getI D v else s)
 by_cases q : v < N
 · rw [if_pos q, if_neg (by omega), if_pos q]
 · rw [if_neg q, if_pos (by omega)]
structure RelI (G : Nw) (R : Nat × Bool → Prop) (p : Nat → Int) (P : Int) (D0 : List Int) (s0 : Int) (D : List Int) (s : Int) (ch : Bool) (Q : Nat × Bool → Prop) : Prop where
 len : D.length = G.N
 pw : ∃ b, G.ext.Pw R p P (dst G.N D s) b
 no : ch = false → (D = D0 ∧ s = s0) ∧ ∀ e, R e → Q e → dst G.N D s (G.ext.hd e) ≤ dst G.N D s (G.ext.tl e) + G.ext.cc e
 yes : ch = true → su (dst G.N D s) (G.N + 1) < su (dst G.N D0 s0) (G.N + 1)
theorem RelI.weak {G : Nw} {R : Nat × Bool → Prop} {p : Nat → Int} {P : Int} {D0 D : List Int} {s0 s : Int} {ch : Bool} {Q Q' : Nat × Bool → Prop} (h : RelI G R p P D0 s0 D s ch Q) (hq : ∀ e, R e → Q' e → Q e) : RelI G R p P D0 s0 D s ch Q' :=
 ⟨h.len, h.pw, fun z => ⟨(h.no z).1, fun e he q => (h.no z).2 e he (hq e he q)⟩, h.yes⟩
theorem RelI.le {G : Nw} {R : Nat × Bool → Prop} {p : Nat → Int} {P : Int} {D0 D : List Int} {s0 s : Int} {ch : Bool} {Q : Nat × Bool → Prop} (h : RelI G R p P D0 s0 D s ch Q) : su (dst G.N D s) (G.N + 1) ≤ su (dst G.N D0 s0) (G.N + 1) := by
 cases hc : ch with
 | false => obtain ⟨⟨e1, e2⟩, _⟩ := h.no hc; rw [e1, e2]; exact Int.le_refl _
 | true => have := h.yes hc; omega
theorem Pw_congr {G : Nw} {R : Nat × Bool → Prop} (hop : ∀ e, R e → G.hd e < G.N ∧ G.tl e < G.N) {p : Nat → Int} {P : Int} {d d' : Nat → Int} {b : Nat → Option (Nat × Bool)} (hd : ∀ v, v < G.N → d' v = d v) (h : G.Pw R p P d b) : G.Pw R p P d' b := by
 refine ⟨fun v hv => by rw [hd v hv]; exact h.low v hv, fun v hv hb => by rw [hd v hv]; exact h.root v hv hb, fun v e hv he => ?_, h.rt⟩
 obtain ⟨h1, h2, h3⟩ := h.st v e hv he
 exact ⟨h1, h2, by rw [hd v hv, hd _ (hop e h1).2]; exact h3⟩
theorem RelI.edge {G : Nw} {R : Nat × Bool → Prop} {p : Nat → Int} {P : Int} {D0 D : List Int} {s0 s : Int} {ch : Bool} {Q : Nat × Bool → Prop} (h : RelI G R p P D0 s0 D s ch Q) (hE : G.ext.Ok) (hp : G.ext.Op R p) {e : Nat × Bool} (he : R e) {x : Int} (hx : dst G.N D s (G.ext.tl e) + G.ext.cc e = x)
 {D' : List Int} {s' : Int} (hl : D'.length = G.N) (h1 : x < dst G.N D s (G.ext.hd e) → ∀ v, v < G.N + 1 → dst G.N D' s' v = upd (dst G.N D s) (G.ext.hd e) x v) (h2 : ¬ x < dst G.N D s (G.ext.hd e) → D' = D ∧ s' = s) :
 RelI G R p P D0 s0 D' s' (decide (x < dst G.N D s (G.ext.hd e)) || ch) (fun e' => Q e' ∨ e' = e) := by
 by_cases q : x < dst G.N D s (G.ext.hd e)
 · have hh := Nw.hd_lt hE (hp.lt e he)
   have hop : ∀ e, R e → G.ext.hd e < G.ext.N ∧ G.ext.tl e < G.ext.N := fun e he => Nw.hd_lt hE (hp.lt e he)
   obtain ⟨b, hb⟩ := h.pw
   have hr := hb.relax hE hp he (by rw [hx]; exact q)
   rw [hx] at hr
   have hle := h.le
   have hs := su_upd (F := dst G.N D s) (n := G.N + 1) (a := G.ext.hd e) (x := x) hh.1
   have hs2 : su (dst G.N D' s') (G.N + 1) = su (upd (dst G.N D s) (G.ext.hd e) x) (G.N + 1) := su_congr fun v hv => h1 q v hv
   refine ⟨hl, ⟨_, Pw_congr hop (h1 q) hr⟩, fun z => ?_, fun _ => by omega⟩
   rw [decide_eq_true q] at z; cases z
 · obtain ⟨rfl, rfl⟩ := h2 q
   rw [decide_eq_false q, Bool.false_or]
   refine ⟨h.len, h.pw, fun z => ⟨(h.no z).1, fun e' he' hq => ?_⟩, h.yes⟩
   rcases hq with hq | rfl
   · exact (h.no z).2 e' he' hq
   · rw [hx]; omega
theorem ext_arc {G : Nw} {k : Nat} (hk : k < G.K) (b : Bool) : G.ext.hd (k, b) = G.hd (k, b) ∧ G.ext.tl (k, b) = G.tl (k, b) ∧ G.ext.cc (k, b) = G.cc (k, b) := by
 have e1 : G.ext.fr k = G.fr k := if_pos hk
 have e2 : G.ext.to k = G.to k := if_pos hk
 have e3 : G.ext.c k = G.c k := if_pos hk
 cases b
 · exact ⟨e2, e1, e3⟩
 · exact ⟨e1, e2, congrArg Neg.neg e3⟩
theorem ext_in {G : Nw} (i : Nat) (b : Bool) : G.ext.hd (G.K + i, b) = (if b = true then G.N else i) ∧ G.ext.tl (G.K + i, b) = (if b = true then i else G.N) ∧ G.ext.cc (G.K + i, b) = 0 := by
 have e1 : G.ext.fr (G.K + i) = G.N := if_neg (by omega)
 have e2 : G.ext.to (G.K + i) = i := by show (if G.K + i < G.K then G.to (G.K + i) else G.K + i - G.K) = i; rw [if_neg (by omega)]; omega
 have e3 : G.ext.c (G.K + i) = 0 := if_neg (by omega)
 cases b
 · exact ⟨e2, e1, e3⟩
 · exact ⟨e1, e2, by show - G.ext.c (G.K + i) = 0; rw [e3]; rfl⟩
theorem RelI.arc {G : Nw} (hG : G.Ok) {R : Nat × Bool → Prop} {p : Nat → Int} {P : Int} {D0 D : List Int} {s0 s : Int} {ch : Bool} {Q : Nat × Bool → Prop} (h : RelI G R p P D0 s0 D s ch Q) (hE : G.ext.Ok) (hp : G.ext.Op R p) {k : Nat} (hk : k < G.K) {b : Bool} (he : R (k, b)) {u w : Nat} (hu : G.tl (k, b) = u) (hw : G.hd (k, b) = w) {x : Int} (hx : D.getD u 0 + G.cc (k, b) = x) :
 RelI G R p P D0 s0 (lwr D w x) s (decide (x < D.getD w 0) || ch) (fun e' => Q e' ∨ e' = (k, b)) := by
 obtain ⟨e1, e2, e3⟩ := ext_arc hk b
 obtain ⟨b1, b2⟩ := Nw.hd_lt hG (e := (k, b)) hk
 have d1 : dst G.N D s (G.ext.hd (k, b)) = D.getD w 0 := by rw [e1, hw]; unfold dst; rw [if_pos (by omega)]; rfl
 have d2 : dst G.N D s (G.ext.tl (k, b)) = D.getD u 0 := by rw [e2, hu]; unfold dst; rw [if_pos (by omega)]; rfl
 rw [← d1]
 refine h.edge hE hp he (by rw [d2, e3]; exact hx) (by rw [lwr_len]; exact h.len) (fun q v _ => ?_) (fun q => ?_)
 · rw [d1] at q
   unfold lwr
   rw [if_pos q, dst_set (by omega) h.len, e1, hw]
 · rw [d1] at q
   unfold lwr
   rw [if_neg q]; exact ⟨rfl, rfl⟩
theorem RelI.inn {G : Nw} {R : Nat × Bool → Prop} {p : Nat → Int} {P : Int} {D0 D : List Int} {s0 s : Int} {ch : Bool} {Q : Nat × Bool → Prop} (h : RelI G R p P D0 s0 D s ch Q) (hE : G.ext.Ok) (hp : G.ext.Op R p) {i : Nat} (hi : i < G.N) (he : R (G.K + i, false)) :
 RelI G R p P D0 s0 (lwr D i s) s (decide (s < D.getD i 0) || ch) (fun e' => Q e' ∨ e' = (G.K + i, false)) := by
 obtain ⟨e1, e2, e3⟩ := ext_in (G := G) i false
 have e1 : G.ext.hd (G.K + i, false) = i := e1
 have e2 : G.ext.tl (G.K + i, false) = G.N := e2
 have d1 : dst G.N D s (G.ext.hd (G.K + i, false)) = D.getD i 0 := by rw [e1]; unfold dst; rw [if_pos hi]; rfl
 have d2 : dst G.N D s (G.ext.tl (G.K + i, false)) = s := by rw [e2]; unfold dst; rw [if_neg (Nat.lt_irrefl _)]
 rw [← d1]
 refine h.edge hE hp he (by rw [d2, e3, Int.add_zero]) (by rw [lwr_len]; exact h.len) (fun q v _ => ?_) (fun q => ?_)
 · rw [d1] at q
   unfold lwr
   rw [if_pos q, dst_set hi h.len, e1]
 · rw [d1] at q
   unfold lwr
   rw [if_neg q]; exact ⟨rfl, rfl⟩
theorem RelI.out {G : Nw} {R : Nat × Bool → Prop} {p : Nat → Int} {P : Int} {D0 D : List Int} {s0 s : Int} {ch : Bool} {Q : Nat × Bool → Prop} (h : RelI G R p P D0 s0 D s ch Q) (hE : G.ext.Ok) (hp : G.ext.Op R p) {i : Nat} (hi : i < G.N) (he : R (G.K + i, true)) :
 RelI G R p P D0 s0 D (if D.getD i 0 < s then D.getD i 0 else s) (decide (D.getD i 0 < s) || ch) (fun e' => Q e' ∨ e' = (G.K + i, true)) := by
 obtain ⟨e1, e2, e3⟩ := ext_in (G := G) i true
 have e1 : G.ext.hd (G.K + i, true) = G.N := e1
 have e2 : G.ext.tl (G.K + i, true) = i := e2
 have d1 : dst G.N D s (G.ext.hd (G.K + i, true)) = s := by rw [e1]; unfold dst; rw [if_neg (Nat.lt_irrefl _)]
 have d2 : dst G.N D s (G.ext.tl (G.K + i, true)) = D.getD i 0 := by rw [e2]; unfold dst; rw [if_pos hi]; rfl
 have key := h.edge hE hp he (x := D.getD i 0) (by rw [d2, e3, Int.add_zero]) (D' := D) (s' := if D.getD i 0 < s then D.getD i 0 else s) h.len (fun q v hv => ?_) (fun q => ?_)
 · rw [d1] at key; exact key
 · rw [d1] at q
   rw [if_pos q, e1]
   exact dst_store hv
 · rw [d1] at q
   rw [if_neg q]; exact ⟨rfl, rfl⟩
theorem RelI.bd {G : Nw} {R : Nat × Bool → Prop} {p : Nat → Int} {P C : Int} {D0 D : List Int} {s0 s : Int} {ch : Bool} {Q : Nat × Bool → Prop} (h : RelI G R p P D0 s0 D s ch Q) (hE : G.ext.Ok) (hp : G.ext.Op R p) (hC : 0 ≤ C) (hc : ∀ e, R e → - C ≤ G.ext.cc e) : (∀ v, v < G.N → - (C * G.N) ≤ D.getD v 0 ∧ D.getD v 0 ≤ 0) ∧ - (C * G.N) ≤ s ∧ s ≤ 0 := by
 obtain ⟨b, hb⟩ := h.pw
 have key : ∀ v, v < G.N + 1 → - (C * G.N) ≤ dst G.N D s v ∧ dst G.N D s v ≤ 0 := fun v hv => by
  have := hb.bd hE hC hp hc (v := v) hv
  have e : ((G.ext.N : Int) - 1) = G.N := by show (((G.N + 1 : Nat) : Int) - 1) = G.N; omega
  rw [e] at this; exact this
 refine ⟨fun v hv => ?_, ?_⟩
 · have := key v (by omega)
   unfold dst at this; rw [if_pos hv] at this; exact this
 · have := key G.N (by omega)
   unfold dst at this; rw [if_neg (Nat.lt_irrefl _)] at this; exact this
def gonF (G : Nw) (f : Nat → Int) (k v : Nat) : Int := su (fun j => if G.fr j = v then f j else 0) k
theorem gonF_succ (G : Nw) (f : Nat → Int) (k v : Nat) : gonF G f (k + 1) v = gonF G f k v + (if G.fr k = v then f k else 0) := rfl
theorem gonF_mono {G : Nw} {f : Nat → Int} {K : Nat} (h0 : ∀ k, k < K → 0 ≤ f k) (v : Nat) : ∀ {k}, k ≤ K → 0 ≤ gonF G f k v ∧ gonF G f k v ≤ gonF G f K v := by
 have nn : ∀ {k}, k ≤ K → 0 ≤ gonF G f k v := fun {k} hk => su_nn fun j hj => by
  have := h0 j (by omega)
  split <;> omega
 intro k hk
 refine ⟨nn hk, ?_⟩
 obtain ⟨d, rfl⟩ : ∃ d, K = k + d := ⟨K - k, by omega⟩
 clear nn hk
 induction d with
 | zero => exact Int.le_refl _
 | succ d ih =>
   have h1 := ih (fun j hj => h0 j (by omega))
   have h2 := h0 (k + d) (by omega)
   have h3 := gonF_succ G f (k + d) v
   have : gonF G f (k + (d + 1)) v = gonF G f (k + d) v + (if G.fr (k + d) = v then f (k + d) else 0) := h3
   rw [this]
   split <;> omega
theorem gonF_all {G : Nw} {B : Nat → Bool} (hb : G.Bip B) {h w f left : Nat → Int} (hs : G.St h w f left (fun _ => 0)) (hw : ∀ v, v < G.N → B v = true → w v = 0) {v : Nat} (hv : v < G.N) (hB : B v = true) : gonF G f G.K v = h v - left v := by
 have h1 := hs.net v hv
 rw [hw v hv hB] at h1
 have e : G.net f v = gonF G f G.K v := su_congr fun k hk => by
  have := hb.to k hk
  have hne : ¬ G.to k = v := fun q => by rw [q, hB] at this; exact absurd this.2 (by simp)
  rw [if_neg hne]; omega
 rw [e] at h1; omega
theorem gonF_none {G : Nw} {B : Nat → Bool} (hb : G.Bip B) {f : Nat → Int} {v : Nat} (hB : B v = false) : gonF G f G.K v = 0 := su_zero fun k hk => by
 have := hb.fr k hk
 rw [if_neg]
 intro q; rw [q, hB] at this; exact absurd this.2 (by simp)
structure Pri where
 st : List UInt8
 cents : Int
def puF : Pri → List DV := fun x => [.str x.st, .int .i64 x.cents]
def pr00 : Pri := ⟨[], 0⟩
abbrev pris (l : List Pri) : DV := seqD 2 puF pr00 l
def priL (n : List Ned) (y : Nat → Int) (i : Nat) : List Pri := (List.range i).map fun j => ⟨(n.getD j nd0).st, if (n.getD j nd0).many ≠ 0 then y j else 0⟩
theorem priL_succ (n : List Ned) (y : Nat → Int) (i : Nat) : priL n y (i + 1) = priL n y i ++ [⟨(n.getD i nd0).st, if (n.getD i nd0).many ≠ 0 then y i else 0⟩] := by
 unfold priL; rw [List.range_succ, List.map_append]; rfl
theorem priL_len (n : List Ned) (y : Nat → Int) (i : Nat) : (priL n y i).length = i := by unfold priL; rw [List.length_map, List.length_range]
def PriceR (n : List Ned) (r : List Roa) (l : List Pri) (e : Int) : Prop :=
 (firstE [ndsE n, rdsE r] ≠ 0 ∧ e = firstE [ndsE n, rdsE r] ∧ l = []) ∨ ((ndsE n = 0 ∧ rdsE r = 0) ∧ ((∀ g, ¬ (nwG n r).Fl (kindB n) (getI (havL n)) (getI (wntL n)) g) ∧ e = 12 ∧ l = [] ∨
   (∃ f left y, (nwG n r).St (getI (havL n)) (getI (wntL n)) f left (fun _ => 0) ∧ (nwG n r).IsOpt (kindB n) (getI (havL n)) (getI (wntL n)) ((nwG n r).cost f) ∧ (nwG n r).Prc (getI (havL n)) f (gonF (nwG n r) f (nwG n r).K) y ∧ (∀ v, v < n.length → -10000000 ≤ y v ∧ y v ≤ 10000000) ∧ l = priL n y n.length) ∧ e = 0))
end Go.Proofs.YteehenjdddlnnaaGreatDoor
