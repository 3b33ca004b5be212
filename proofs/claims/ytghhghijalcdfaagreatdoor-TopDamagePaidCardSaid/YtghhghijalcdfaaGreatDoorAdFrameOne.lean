/- TopDamagePaid is proved: for every input the law returns true, and its argument reads afterwards as it read before. Conditions: those of the given row alone. -/
import Derived.Test.YtghhghijalcdfaaGreatDoorAdEngTwo
import Derived.Test.YtghhghijalcdfaaGreatDoorAdConOne
import Derived.Lib.LaidTab
import Derived.Handed
import Derived.Test.YtghhghijalcdfaaGreatDoorRows
import Derived.Test.YtghhghijalcdfaaGreatDoorCards
import Derived.Test.YtghhghijalcdfaaGreatDoorTie
import Derived.ProofKit
import Derived.OpenShut
import Derived.LaidMore
import Derived.Lay
import Derived.Below
import Derived.SevenTiedAt
import Derived.Stop.Joined
set_option linter.unusedVariables false
set_option linter.unusedSimpArgs false
set_option maxRecDepth 100000
namespace Go.Proofs.YtghhghijalcdfaaGreatDoor
open Go Go.Eng Go.ChangeShapes Go.WideShapes Go.ChangeAt Go.RowKit
theorem post_kept {H : Type} {enc : TypeId × Value → H} {P : Program} {f : Func} {s : ChangeSpec} {apart fresh handsOn again : Bool} {W W' : World} {args : Array Value} {v : Value} {ds gs : List (DataW H)} {before pa pv : List MemPlace}
 (hW : DataW.Whole enc P f.params.toList s.vars apart W args.toList ds gs before)
 (hres : ∀ (b : Nat) (sp : Nat → Bool) (hd : Bool), DataW.TrodAll enc P W' b sp hd f.resultTypes.toList (v.resultList f.resultTypes.size) (s.fn H (ds ++ gs)).results [])
 (hargs : ∀ sp : Nat → Bool, (∀ p ∈ before, sp p.block = true) → DataW.TrodAll enc P W' 0 sp true f.params.toList args.toList (s.fn H (ds ++ gs)).args pa)
 (hvars : ∀ sp : Nat → Bool, (∀ p ∈ before, sp p.block = true) → DataW.TrodVars enc P W' sp s.vars (s.fn H (ds ++ gs)).vars pv)
 (hps : before = pa ++ pv) (hb : Below W.heap.size W W')
 (hok : ∀ (j : Nat) (t : TypeId) (r : Value), f.resultTypes[j]? = some t → (v.resultList f.resultTypes.size)[j]? = some r → Value.okWide P W' .any 0 t r) :
 s.post enc P f apart fresh handsOn again W args v W' := by
 subst hps; have hlt : ∀ p ∈ pa ++ pv, p.block < W.heap.size := fun p hp => hW.lt p hp
 have hold : ∀ p ∈ pa ++ pv, (fun b => decide (b < W.heap.size)) p.block = true := fun p hp => decide_eq_true (hlt p hp)
 refine ⟨ds, gs, pa ++ pv, [], pa, pv, hW, hres _ _ _, hargs _ hold, hvars _ hold, World.keptBut_mono (fun p hp => ⟨hp, Or.inr (List.mem_append.1 hp)⟩) (hb.frame (· ∈ pa ++ pv)), fun _ => ⟨hok, _, _, ([] ++ pa) ++ pv, ⟨[] ++ pa, pv, trodAll_append (hargs _ (fun _ _ => rfl)) (hres _ _ _), hvars _ (fun _ _ => rfl), rfl, fun b off hp => ?_, fun ha => ?_⟩, fun p hp _ => ?_⟩⟩
 · obtain ⟨_, _, _, _, _, hz, _⟩ := hW; have hp' : MemPlace.cell b off ∈ pa ++ pv := by simpa using hp
   rw [hb.frozen (hlt _ hp')]; exact hz b off hp'
 · obtain ⟨_, _, _, _, _, _, hn⟩ := hW; simpa using hn ha
 · simpa using hp
theorem calls_of_spec {P : Program} {f : FuncId} {n : Nat} {g : Nat → List DV} {Q : Hp → Prop} (h : FSpec P f [.d (.ro 1 n g)] [(1000009, .know Q)] (fun x r => x = .d (.bool true) ∧ r = [(1000009, .know Q)])) (W : World) (hQ : ∀ G, (Hp.le (fun b => W.heap[b]?) G) → Q G) {v : Value}
 (hv : DV.Den (fun b => W.heap[b]?) (.ro 1 n g) v) : Calls P f #[v] W fun e w' => e = .returned (.bool true) ∧ Below W.heap.size W w' := by
 have := h.calls (fun b => W.heap[b]?) (fun d => if d = 1000009 then some (.bool true) else none) W [v] (FSpec.atStart (post := fun x => x = .d (.bool true)) h W hQ) rfl
  (fun i x u hx hu => by
    cases i with
    | zero => simp at hx hu; subst hx; subst hu; exact .d _ _ hv
    | succ i => simp at hx)
 refine this.mono ?_; rintro e w' ⟨u, x, rout, G', β', rfl, ⟨rfl, rfl⟩, ho, hd⟩
 cases hd with | d _ _ hd => cases hd with | bool _ =>
 refine ⟨rfl, { os := ho.keep.os, tape := ho.keep.tape, output := ho.keep.output, size := ho.keep.size, block := fun b hb => ho.keep.block b hb ?_ }⟩; rintro ⟨d, r, v, hd, ho, _⟩; obtain ⟨_, rfl⟩ := know_look d r hd; cases ho
theorem den_ints {W : World} {n cap : Nat} {a : Addr} {zs : List Int} (hs : a.spot = none) (hl : n ≤ cap) (hm : cap ≤ maxLen) (hz : zs.length = cap) (hc : ∀ i, i < zs.length → W.cell? (a.add i) = some (.int .i64 (zs.getD i 0))) :
 DV.Den (fun b => W.heap[b]?) (.ro 1 n fun i => [.int .i64 (zs.getD i 0)]) (.slice (some a) n cap) := by
 refine .ro 1 n _ a cap (fun i _ => .int .i64 (zs.getD i 0)) hs hl hm (fun _ _ => rfl) (fun i j x hi hx => ?_) (fun i j x hi hx => ?_)
 · cases j with
   | succ j => simp at hx
   | zero =>
     have := hc i (by omega); rw [show i * 1 + 0 = i by omega]; unfold World.cell? at this; split at this
     · rename_i c e fr hh; split at this
       · cases this
       · rename_i hsp; exact ⟨c, e, fr, hh, by simpa using hsp, by simpa using this⟩
     · cases this
 · cases j with
   | succ j => simp at hx
   | zero => simp at hx; subst hx; exact .int _ _
theorem int_bounds {k : Int} (h : (Lit.int .i64 k).wf = true) : -2^63 ≤ k ∧ k < 2^63 := by
 simp only [Lit.wf, IntKind.min, IntKind.max, IntKind.signed, IntKind.bits, Bool.and_eq_true, decide_eq_true_eq, if_true] at h; omega
theorem has_slice {P : Program} {t e : TypeId} {W : World} {base : Nat} {a : Addr} {len cap : Nat} (ht : P.underlying t = some (.slice e)) (h : Value.okWide P W .any base t (.slice (some a) len cap)) : a.spot = none ∧ a.block < W.heap.size := by
 simp only [Value.okWide, ht, Cell.okWide, Cell.ok, World.has] at h; obtain ⟨_, _, _, h1, row, cells, h2, _⟩ := h; refine ⟨h1, ?_⟩; unfold World.shape? at h2; split at h2
 · rename_i hh; exact (Array.getElem?_eq_some_iff.1 hh).1
 · cases h2
theorem post_law {P : Program} {W : World} {Q : Hp → Prop} {fid : FuncId} {f : Func} {s : ChangeSpec} {tl ti tb : TypeId} (htl : P.underlying tl = some (.slice ti)) (hti : P.underlying ti = some (.int .i64)) (hc : P.cellsOf ti = 1) (htb : P.underlying tb = some .bool)
 (hp : f.params = #[tl]) (hr : f.resultTypes = #[tb]) (hv : s.vars = []) (hfn : ∀ (H : Type) (d : DataW H), s.fn H [d] = { results := [.lit (.bool true)], args := [d] })
 (hlaw : ∀ (n : Nat) (L : Nat → Int), n ≤ maxLen → (∀ i, -2^63 ≤ L i ∧ L i < 2^63) → FSpec P fid [.d (.ro 1 n fun i => [.int .i64 (L i)])] [(1000009, .know Q)] (fun x r => x = .d (.bool true) ∧ r = [(1000009, .know Q)]))
 (hQ : ∀ G, (Hp.le (fun b => W.heap[b]?) G) → Q G) {H : Type} {enc : TypeId × Value → H} {base : Nat} {args : Array Value} {ds gs : List (DataW H)} {before : List MemPlace}
 (hval : ∀ (j : Nat) t v, f.params[j]? = some t → args[j]? = some v → Value.okWide P W .any base t v)
 (hW : DataW.Whole enc P f.params.toList s.vars false W args.toList ds gs before) :
 Calls P fid args W fun e W' => ∃ v, e = .returned v ∧ s.post enc P f false true false false W args v W' := by
 have hW' := hW; obtain ⟨p, q, hA, hV, rfl, _, _⟩ := hW; rw [hp] at hA hval; rw [hv] at hV; obtain ⟨v0, d0, rfl, rfl, h0⟩ := trodAll_one hA; obtain ⟨rfl, rfl⟩ := trodVars_none hV; obtain ⟨fuel, hf⟩ := h0; simp only [List.append_nil] at hW'; have hval0 := hval 0 tl v0 rfl rfl; obtain ⟨a0, len0, cap0, rfl⟩ := okWide_slice htl hval0; rcases open_ints htl hti hc hf with ⟨hcs, hx⟩ | ⟨a, len, cap, zs, hcs, _, hl, hm, hz, hx, hcell, hwz⟩
 · have hcs : [Value.slice a0 len0 cap0] = [.slice none 0 0] := hcs; cases hcs; cases hx; refine (calls_of_spec (hlaw 0 (fun _ => 0) (by simp) (fun _ => by omega)) W hQ (.ronil 1 _)).mono fun e W' ⟨he, hw⟩ => ?_
   subst he; refine ⟨_, rfl, post_kept (pa := []) (pv := []) hW' (fun b sp hd => ?_) (fun sp _ => ?_) (fun _ _ => ?_) (List.append_nil _).symm hw (ok_one hr rfl (okWide_bool_mk htb _))⟩
   · rw [hr, List.append_nil, hfn]; exact trodAll_mk1 (shut_bool htb _)
   · rw [hp, List.append_nil, hfn]; exact trodAll_mk1 (shut_slice_nil htl)
   · rw [hv, List.append_nil, hfn]; rfl
 · have hcs : [Value.slice a0 len0 cap0] = [.slice (some a) len cap] := hcs; obtain ⟨rfl, rfl, rfl⟩ : a0 = some a ∧ len0 = len ∧ cap0 = cap := by simpa using hcs
   cases hx; obtain ⟨hs, hblk⟩ := has_slice htl hval0; have hz : zs.length = cap0 := hz
   have hb : ∀ i, -2^63 ≤ zs.getD i 0 ∧ zs.getD i 0 < 2^63 := fun i => by
    rcases Nat.lt_or_ge i zs.length with h | h
    · rw [List.getD_eq_getElem?_getD, List.getElem?_eq_getElem h]; exact int_bounds (hwz _ (List.getElem_mem h))
    · rw [List.getD_eq_getElem?_getD, List.getElem?_eq_none h]; simp
   refine (calls_of_spec (hlaw len0 (fun i => zs.getD i 0) (by omega) hb) W hQ (den_ints hs hl hm hz hcell)).mono fun e W' ⟨he, hw⟩ => ?_
   subst he; refine ⟨_, rfl, post_kept (pa := MemPlace.row a zs.length) (pv := []) hW' (fun b sp hd => ?_) (fun sp hsp => ?_) (fun _ _ => ?_) (List.append_nil _).symm hw (ok_one hr rfl (okWide_bool_mk htb _))⟩
   · rw [hr, List.append_nil, hfn]; exact trodAll_mk1 (shut_bool htb _)
   · rw [hp, List.append_nil, hfn]; refine trodAll_mk1 ⟨2, shut_ints 0 htl hti hc (Nat.zero_le _) hl hm ?_ (fun i hi => ?_) hwz⟩
     · rw [hz]; rcases Nat.eq_zero_or_pos cap0 with h | h
       · subst h; split <;> omega
       · have : sp a.block = true := by
          refine hsp (.cell a.block a.off) ?_; rw [MemPlace.mem_row]; exact ⟨0, by omega, rfl⟩
         rw [this]; rfl
     · have h1 := hcell i hi; have hbl : (a.add i).block = a.block := Eng.Addr.add_block a i; unfold World.cell? at h1 ⊢; rw [hbl] at h1 ⊢; rw [hw.block _ hblk]; exact h1
   · rw [hv, List.append_nil, hfn]; rfl
theorem change_shaped {H : Type} {enc : TypeId × Value → H} {a : Assume} {C : Checked} {os : Os} {f : FuncId} {fn : Func} {s : ChangeSpec} {conds : List PathCond} {apart fresh handsOn again : Bool} {X : World → Array Value → Prop}
 (hX : ∀ (w w' : World) (args : Array Value), w.heap = w'.heap → X w args → X w' args)
 (own : ownKnob C.prog.godebug = none) (started : os.Started) (noInit : C.prog.inits.idxOf? f = none) (hfn : C.prog.funcs[f]? = some fn)
 (witness : ∃ (w : World) (tape : Tape) (i : Input), w.os = os ∧ (w.forCall tape i).Shaped C.prog ∧ i.vars = [] ∧ Input.okWide C.prog (w.forCall tape i) .any w.heap.size f i ∧
   ((s.pre enc C.prog fn conds apart (w.forCall tape i).memory i.args ∧ X (w.forCall tape i).memory i.args) ∧ sizedMet enc C.prog fn (OpenSpec.ofChange s) apart (w.forCall tape i).memory i.args) ∧ a.holds C.prog (lone (Frame.enter C.prog f i.args .normal) [] (w.forCall tape i)))
 (contract : ∀ (W : World) (base : Nat) (args : Array Value) (ds gs : List (DataW H)) (before : List MemPlace),
   (∀ (j : Nat) t v, fn.params[j]? = some t → args[j]? = some v → Value.okWide C.prog W .any base t v) →
   DataW.Whole enc C.prog fn.params.toList s.vars apart W args.toList ds gs before → X W args → W.ShapedOpen C.prog →
   Calls C.prog f args W fun e W' => ∃ v, e = .returned v ∧ s.post enc C.prog fn apart fresh handsOn again W args v W') :
 ReturnsInHanded a C os f .any (fun w args => (s.pre enc C.prog fn conds apart w args ∧ X w args) ∧ sizedMet enc C.prog fn (OpenSpec.ofChange s) apart w args) (s.post enc C.prog fn apart fresh handsOn again) := by
 refine returnsInHanded_of_calls own started noInit witness ?_; intro w tape i _ hsh _ hok hpre _; obtain ⟨_, _, _, fn', hfn', _, _, _, _, hval⟩ := hok; have e : fn' = fn := Option.some.inj (hfn'.symm.trans hfn); subst e; obtain ⟨⟨⟨ds, gs, before, hw, hc⟩, hx⟩, hz⟩ := hpre; have hw' := DataW.Whole.of_heap (w' := w.forCall tape i) (by rfl) hw; refine (contract (w.forCall tape i) w.heap.size i.args ds gs before hval hw' (hX _ _ _ (by rfl) hx) hsh).mono fun e W' ⟨v, he, hp⟩ => ?_
 subst he; exact ChangeSpec.post_blind hp
def LaidAt (P : Program) (w : World) (n : String) (d : DataW Unit) : Prop :=
 ∃ g t cs fuel p, P.globalNamed n = some g ∧ (P.globals[g]?).map (·.type) = some t ∧ w.var? P n = some cs ∧ DataW.trod (fun _ => ()) P w 0 (fun _ => true) false fuel t cs.toList = some (d, p)
theorem laidAt_of {P : Program} {w : World} : ∀ {l : List (String × DataW Unit)} {ps : List MemPlace}, DataW.LaidVars P w l ps → ∀ (i : Nat) n d, l[i]? = some (n, d) → LaidAt P w n d := by
 intro l
 induction l with
 | nil => intro ps _ i n d h; simp at h
 | cons x l ih =>
   obtain ⟨n0, d0⟩ := x; intro ps h i n d hi; obtain ⟨g, t, cs, fuel, p, q, h1, h2, h3, h4, h5, _⟩ := h
   cases i with
   | zero => simp at hi; obtain ⟨rfl, rfl⟩ := hi; exact ⟨g, t, cs, fuel, p, h1, h2, h3, h4⟩
   | succ i => exact ih h5 i n d (by simpa using hi)
theorem laidAt_tab {P : Program} {W : World} {name : String} {k : IntKind} {zs : List Int} {g : Nat} {t e : TypeId} {n : Nat}
 (hg : P.globalNamed name = some g) (hty : (P.globals[g]?).map (·.type) = some t) (ht : P.underlying t = some (.array n e)) (he : P.underlying e = some (.int k)) (hce : P.cellsOf e = 1) (hct : P.cellsOf t = n)
 (h : LaidAt P W name (Lib.tabData k zs)) : Lib.TabIs P W name k zs := by
 obtain ⟨g', t', cs, fuel, p, hg', ht', hvar, hd⟩ := h; obtain rfl := Option.some.inj (hg.symm.trans hg'); obtain rfl := Option.some.inj (hty.symm.trans ht'); unfold Lib.TabIs; rw [hvar, ← Lib.cells_of_tab ht he hce hct hd]
theorem laidAt_ifc {P : Program} {W : World} {name nm : String} {d : DataW Unit} {g : Nat} {t : TypeId} {ms : Array (String × TypeId)}
 (hg : P.globalNamed name = some g) (hty : (P.globals[g]?).map (·.type) = some t) (ht : P.underlying t = some (.interface ms)) (h : LaidAt P W name (.iface nm d)) :
 ∃ v, W.cell? ⟨g, 0, none⟩ = some v ∧ (v = .nilIface ∨ ∃ t p, v = .iface t p) := by
 obtain ⟨g', t', cs, fuel, p, hg', ht', hvar, hd⟩ := h; obtain rfl := Option.some.inj (hg.symm.trans hg'); obtain rfl := Option.some.inj (hty.symm.trans ht')
 cases fuel with
 | zero => simp [DataW.trod] at hd
 | succ fuel =>
   have hc := World.var?_cell hg hvar 0; rw [show W.cell? ⟨g, 0, none⟩ = cs[0]? from hc]
   match hl : cs.toList with
   | [] => rw [hl] at hd; simp [DataW.trod, ht] at hd
   | [.iface u v] =>
     have : cs[0]? = some (.iface u v) := by rw [← Array.getElem?_toList, hl]; rfl
     exact ⟨_, this, .inr ⟨_, _, rfl⟩⟩
   | [.nilIface] =>
     have : cs[0]? = some .nilIface := by rw [← Array.getElem?_toList, hl]; rfl
     exact ⟨_, this, .inl rfl⟩
   | x :: y :: r => rw [hl] at hd; simp [DataW.trod, ht] at hd
   | [.bool _] | [.int _ _] | [.float _ _] | [.complex _ _ _] | [.string _] | [.pointer _] | [.slice _ _ _] | [.map _] | [.chan _] | [.func _ _ _] | [.nilFunc] | [.agg _] | [.tuple _] => rw [hl] at hd; simp [DataW.trod, ht] at hd
theorem heap_cell {W w : World} (h : ∀ (b : Nat) (o : Obj), W.heap[b]? = some o → w.heap[b]? = some o) {a : Addr} {v : Value} (hc : W.cell? a = some v) : w.cell? a = some v := by
 unfold World.cell? at hc ⊢; split at hc
 · rename_i c e fr hh; rw [h _ _ hh]; exact hc
 · cases hc
theorem heap_tab {P : Program} {W w : World} {name : String} {k : IntKind} {zs : List Int} (h : ∀ (b : Nat) (o : Obj), W.heap[b]? = some o → w.heap[b]? = some o) (ht : Lib.TabIs P W name k zs) : Lib.TabIs P w name k zs := by
 unfold Lib.TabIs World.var? at ht ⊢
 cases hg : P.globalNamed name with
 | none => rw [hg] at ht; cases ht
 | some g =>
   rw [hg] at ht; simp only [Option.bind_some] at ht ⊢; split at ht
   · rename_i cs e fr hh; rw [h _ _ hh]; exact ht
   · cases ht
theorem facts_at {W : World} {laid : List (String × DataW Unit)} (hl : laidMetH Tryz.prog laid W) (hp : ∀ w, laidMetH Tryz.prog laid w = laidMet Tryz.prog laid w) (hs : W.ShapedOpen Tryz.prog) {n1 n2 n3 m2 m3 : String} {d2 d3 : DataW Unit} {i1 i2 i3 : Nat}
 (e1 : laid[i1]? = some (n1, Lib.tabData .u64 Lib.pow10Tab)) (e2 : laid[i2]? = some (n2, .iface m2 d2)) (e3 : laid[i3]? = some (n3, .iface m3 d3))
 (htab : ∀ w, Lib.TabIs Tryz.prog w n1 .u64 Lib.pow10Tab → ∀ n : Int, -9223372036854775808 ≤ n → n ≤ 9223372036854775807 → Calls Tryz.prog 81 #[.int .i64 n] w fun e w' => e = .returned (.string ⟨(Lib.itoa n).toArray⟩) ∧ ∃ k os, w' = Go.Sort.grow (w.drewN k) os)
 {g1 : Nat} {t1 u1 : TypeId} {n20 : Nat} (a1 : Tryz.prog.globalNamed n1 = some g1) (a2 : (Tryz.prog.globals[g1]?).map (·.type) = some t1) (a3 : Tryz.prog.underlying t1 = some (.array n20 u1)) (a4 : Tryz.prog.underlying u1 = some (.int .u64)) (a5 : Tryz.prog.cellsOf u1 = 1) (a6 : Tryz.prog.cellsOf t1 = n20)
 {t2 t3 : TypeId} {ms2 ms3 : Array (String × TypeId)} (b1 : Tryz.prog.globalNamed n2 = some (Tryz.laysC172_ren.g 15)) (b2 : (Tryz.prog.globals[Tryz.laysC172_ren.g 15]?).map (·.type) = some t2) (b3 : Tryz.prog.underlying t2 = some (.interface ms2))
 (c1 : Tryz.prog.globalNamed n3 = some (Tryz.laysC172_ren.g 16)) (c2 : (Tryz.prog.globals[Tryz.laysC172_ren.g 16]?).map (·.type) = some t3) (c3 : Tryz.prog.underlying t3 = some (.interface ms3)) :
 ∀ G, (Hp.le (fun b => W.heap[b]?) G) → facts FX G := by
 rw [hp] at hl; obtain ⟨ps, hl, _, _⟩ := hl; have q1 := laidAt_tab a1 a2 a3 a4 a5 a6 (laidAt_of hl i1 _ _ e1); obtain ⟨v2, q2, q2'⟩ := laidAt_ifc b1 b2 b3 (laidAt_of hl i2 _ _ e2); obtain ⟨v3, q3, q3'⟩ := laidAt_ifc c1 c2 c3 (laidAt_of hl i3 _ _ e3); obtain ⟨m, q4⟩ := Tryz.laysM146.s1_3 W hs; refine facts_start (fun w hw => ⟨fun n h0 h1 => htab w (heap_tab hw q1) n h0 h1, ⟨m, heap_cell hw q4⟩, ⟨v2, heap_cell hw q2, q2'⟩, ⟨v3, heap_cell hw q3, q3'⟩⟩)
end Go.Proofs.YtghhghijalcdfaaGreatDoor
