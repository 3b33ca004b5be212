/- EntriesFollow is proved: for every input the law returns true, and its argument reads afterwards as it read before. Conditions: those of the given row alone. -/
import Derived.Test.YtafhoijegjmdcaaGreatDoorLzConSex
import Derived.Test.YtafhoijegjmdcaaGreatDoorLzConQui
import Derived.Test.YtafhoijegjmdcaaGreatDoorLzEngTwo
import Derived.Test.YtafhoijegjmdcaaGreatDoorLzConOne
import Derived.Sort.OwnSortedInts
import Derived.Shelf.GgSortFunc.InsertionK
import Derived.Shelf.SlLaysF0
import Derived.Test.YtafhoijegjmdcaaGreatDoorProg
import Derived.Shelf.SlSortCmp.NoneTotal
import Derived.Shelf.SlicesG.Cmp
import Derived.Test.YtafhoijegjmdcaaGreatDoorLzConTwo
import Derived.Test.YtafhoijegjmdcaaGreatDoorLzConTri
set_option linter.unusedVariables false
set_option linter.unusedSimpArgs false
set_option maxHeartbeats 16000000
namespace Go.Proofs
open Go Go.RowKit Go.Shelf
attribute [local go_sem] Oper.semAt_some Gr
open Go.Proofs.YtafhoijegjmdcaaGreatDoor (gh ep)
def iR (W:World)(B:Nat)(s:gh):Prop:=W.heap[B]? =some (.cells #[.int .i64 s.k,.string ⟨s.st.toArray⟩,.int .i64 s.sin] 230 (0,0))
theorem iR.lt {W:World}{B:Nat}{s:gh}(h:iR W B s):B<W.heap.size:=(Array.getElem?_eq_some_iff.1 h).1
theorem iR.kept {W W':World}{row:Option Nat}{B:Nat}{s:gh}(h:iR W B s)(hg:W.grownBy W' row)(hne:some B≠row):iR W' B s:=(hg.block B h.lt hne).trans h
theorem iR.alloc {W:World}{B:Nat}{s:gh}(h:iR W B s)(o:Obj):iR (W.alloc o) B s:=h.kept (World.grownBy_alloc W o none) (by simp)
theorem iR.below {W W':World}{B n₀:Nat}{s:gh}(h:iR W B s)(hb:Below n₀ W W')(hn:B<n₀):iR W' B s:=(hb.block B hn).trans h
theorem iR.c0 {W:World}{B:Nat}{s:gh}(h:iR W B s):W.cell? ⟨B,0,none⟩=some (.int .i64 s.k):=by simp[World.cell?,show W.heap[B]? =_ from h]
theorem iR.c1 {W:World}{B:Nat}{s:gh}(h:iR W B s):W.cell? ⟨B,1,none⟩=some (.string ⟨s.st.toArray⟩):=by simp[World.cell?,show W.heap[B]? =_ from h]
theorem iR.c2 {W:World}{B:Nat}{s:gh}(h:iR W B s):W.cell? ⟨B,2,none⟩=some (.int .i64 s.sin):=by simp[World.cell?,show W.heap[B]? =_ from h]
theorem iR.f {W:World}{B j:Nat}{s:gh}(h:iR W B s):W.frozen? ⟨B,j,none⟩=false:=by simp[World.frozen?,show W.heap[B]? =_ from h]
theorem oP {W:World}{B j:Nat}{t:TypeId}{fr:Nat×Nat}{c:Array Value}(h:W.heap[B]? =some (.cells c t fr))(v:Value):(W.setCell ⟨B,j,none⟩ v).heap[B]? =some (.cells (c.setIfInBounds j v) t fr):=by
 obtain⟨hlt,hk⟩:=Array.getElem?_eq_some_iff.1 h;show(W.heap.modify B _)[B]? =_;rw[Array.getElem?_eq_getElem (by rw[Array.size_modify];exact hlt),Array.getElem_modify_self,hk];rfl
theorem iR.set {W:World}{B:Nat}{s:gh}(h:iR W B s)(s':gh):iR (((W.setCell ⟨B,0,none⟩ (.int .i64 s'.k)).setCell ⟨B,1,none⟩ (.string ⟨s'.st.toArray⟩)).setCell ⟨B,2,none⟩ (.int .i64 s'.sin)) B s':=
 oP (oP (oP h _) _) _
theorem qK {n₀:Nat}{W W':World}{B:Nat}(h:Below n₀ W W')(hB:n₀≤B)(a b c:Value):Below n₀ W (((W'.setCell ⟨B,0,none⟩ a).setCell ⟨B,1,none⟩ b).setCell ⟨B,2,none⟩ c):=
 ((h.setCell (p:=⟨B,0,none⟩) hB _).setCell (p:=⟨B,1,none⟩) hB _).setCell (p:=⟨B,2,none⟩) hB _
theorem rc {β:Type}(B:Nat)(f:β→gh):Own (fun s W=>iR W B (f s)):=fun s X Y row hs hg hrow=>
 hs.kept hg (fun e' =>by obtain⟨o,ho,hc⟩:=hrow B e'.symm;rw[show X.heap[B]? =_ from hs]at ho;cases ho;cases hc)
theorem FP {zs:List gh}{s:gh}(h:s ∈ zs):∃i,(i,s) ∈ vE zs zs.length:=by
 obtain⟨j,hj,rfl⟩:=List.getElem_of_mem h;refine⟨(zs.length:Int) - 1 - ((zs.length - 1 - j:Nat):Nat),List.mem_map.2 ⟨zs.length - 1 - j,List.mem_range.2 (by omega),?_⟩⟩;rw[show zs.length - 1 - (zs.length - 1 - j)=j by omega,List.getElem?_eq_getElem hj];rfl
theorem FE {zs:List gh}:∀ {k:Nat},k≤zs.length→(vE zs k).map (·.2)=zs.reverse.take k:=by
 intro k hk;apply List.ext_getElem
 · simp[vE,hk]
 · intro i h1 h2;have hi:i<k:=by simpa [vE]using h1
   simp only[vE,List.map_map,List.getElem_map,List.getElem_range,Function.comp_apply,List.getElem_take,List.getElem_reverse];rw[List.getElem?_eq_getElem (by omega)];rfl
theorem Cl {zs:List gh}{t:Int}{k:Nat}{last:Int×gh}(hk:k+1≤zs.length)(e5: [((zs.length:Int) - 1 - (k:Nat),zs[zs.length - 1 - k]?.getD ep)]= [last])(h1:∀p ∈ vE zs k,t<p.2.sin)(h2:last.2.sin≤t):
 zs.reverse.find? (fun s=>decide (s.sin≤t))=some last.2:=by
 have e1:=FE (k:=k+1) hk;rw[ny,e5]at e1;rw[←List.take_append_drop (k+1) zs.reverse,←e1,List.find?_append]
 have:((vE zs k++ [last]).map (·.2)).find? (fun s=>decide (s.sin≤t))=some last.2:=by
  rw[List.map_append,List.find?_append,List.find?_eq_none.2 (fun s hs=>by
   obtain⟨p,hp,rfl⟩:=List.mem_map.1 hs;have:=h1 p hp
   simpa using this)]
  simp[h2]
 rw[this];rfl
set_option maxRecDepth 100000 in
theorem yc (F:Fence)(n:Nat)(h1:F.fn 148)(h2:F.fn 201)(h3:F.fn 202)(h4:F.fn 258)(hro:F.round=none)(hn:4≤n)(lv:Value)(v:ByteArray)(t:Int)(zs:List gh)(hreach:zs.length*32≤140737488351232)(w:World)
 (hst:∀w',Below w.heap.size w w'→CallsIn F (n - 1) Tryz.prog 201 #[lv,.string v] w' fun e W=>Below w'.heap.size w' W∧∃b off cap br,e= .returned (.tuple #[.slice (some ⟨b,off,none⟩) zs.length cap,br])∧oC W.heap.size W b off zs):
 CallsIn F n Tryz.prog 148 #[lv,.string v,.int .i64 t] w fun e W=>e= .returned (Gr (((zs.reverse.find? fun s=>decide (s.sin≤t))).getD ep))∧Below w.heap.size w W:=by
 have hn1:1≤n:=by omega
 refine callsIn_of_wp_marks Tryz.func148 rfl h1 ?_ hro;simp only[Tryz.ntmps148,List.size_toArray,List.length_cons,List.length_nil,Nat.reduceAdd,Nat.reduceSub,Array.replicate_succ,Array.replicate_zero,List.push_toArray,List.append_toArray,List.nil_append,List.cons_append];have hB0:Below w.heap.size w ((w.alloc (.cells #[.int .i64 t] 3)).alloc (.cells #[.int .i64 0,.string ⟨#[]⟩,.int .i64 0] 230)):=((Below.refl _ w).alloc (Nat.le_refl _) _).alloc (by simp) _;have bT:=(Boxed.new w 3 (.int .i64 t)).alloc (.cells #[.int .i64 0,.string ⟨#[]⟩,.int .i64 0] 230)
 have bR:iR ((w.alloc (.cells #[.int .i64 t] 3)).alloc (.cells #[.int .i64 0,.string ⟨#[]⟩,.int .i64 0] 230)) (w.heap.size+1) ep:=by
  have:=World.alloc_heap_new (w.alloc (.cells #[.int .i64 t] 3)) (.cells #[.int .i64 0,.string ⟨#[]⟩,.int .i64 0] 230);rwa [World.size_alloc]at this
 have hz0:((w.alloc (.cells #[.int .i64 t] 3)).alloc (.cells #[.int .i64 0,.string ⟨#[]⟩,.int .i64 0] 230)).heap.size=w.heap.size+2:=by simp
 gi_wp2_with (gi_at_call 201;refine(hst _ hB0).mono ?_;rintro e W1 ⟨hb1,b,off,cap,br,rfl,hsa⟩)
 gi_wp2_with (gi_at_call 202;refine(FY F (n - 1) h3 hro _ _ _ _).mono ?_;rintro e w' ⟨rfl,rfl⟩)
 have hs1:=hb1.size;rw[hz0]at hs1;have bN:=Boxed.new W1 274 (.slice (some ⟨b,off,none⟩) zs.length cap);have bT1:Boxed (W1.alloc (.cells #[.slice (some ⟨b,off,none⟩) zs.length cap] 274)) w.heap.size 3 (.int .i64 t):=Boxed.alloc ((hb1.block w.heap.size (by rw[hz0];omega)).trans bT) _;have bR1:iR (W1.alloc (.cells #[.slice (some ⟨b,off,none⟩) zs.length cap] 274)) (w.heap.size+1) ep:=(bR.below hb1 (by rw[hz0];omega)).alloc _;have hB1:Below w.heap.size w (W1.alloc (.cells #[.slice (some ⟨b,off,none⟩) zs.length cap] 274)):=(hB0.trans (hb1.mono (by rw[hz0];omega))).alloc (by omega) _
 have hsa1:oC (W1.heap.size+1) (W1.alloc (.cells #[.slice (some ⟨b,off,none⟩) zs.length cap] 274)) b off zs:=by
  have:=hsa.below ((Below.refl W1.heap.size W1).alloc (Nat.le_refl _) (.cells #[.slice (some ⟨b,off,none⟩) zs.length cap] 274));exact⟨by have:=this.1;omega,this.2⟩
 have hz1:(W1.alloc (.cells #[.slice (some ⟨b,off,none⟩) zs.length cap] 274)).heap.size=W1.heap.size+1:=by simp
 obtain⟨W0,hW0⟩:∃W0,W1.alloc (.cells #[.slice (some ⟨b,off,none⟩) zs.length cap] 274)=W0:=⟨_,rfl⟩;rw[hW0]at bN bT1 bR1 hB1 hsa1 hz1 ⊢;clear hW0
 refine wpIn_rangeFunc_ownH hro hn1 (gf:=258) (lb:=#[.pointer (some ⟨W1.heap.size,0,none⟩)]) rfl h4 (enters_of Tryz.func258 (by kernel_rfl) rfl)
  (yA F (n - 1) h4 hro (by omega) W1.heap.size (W1.heap.size+1) b off cap zs hreach W0 (by omega) (by omega) (by omega) bN.cell hsa1) belowK_t (belowK_b (by omega)) (Below.refl _ _) (fun _=>rfl)
  (fun pre W=>((Boxed W w.heap.size 3 (.int .i64 t)∧iR W (w.heap.size+1) ep)∧∀p ∈ pre,t<p.2.sin)∧Below w.heap.size W0 W)
  (fun c pre W=>(c= .ret∧∃ini last,pre=ini++ [last]∧(∀p ∈ ini,t<p.2.sin)∧last.2.sin≤t∧iR W (w.heap.size+1) last.2)∧Below w.heap.size W0 W)
  (OwnFrom.and (Own.from (fun s A B row hs hg hr=>⟨⟨boxed_own w.heap.size 3 (fun(_:Unit)=>Value.int .i64 t) () A B row hs.1.1 hg hr,rc (w.heap.size+1) (fun(_:Unit)=>ep) () A B row hs.1.2 hg hr⟩,hs.2⟩) _) (ownFrom_below (by omega) (by omega)))
  (fun c=>OwnFrom.and (Own.from (fun s A B row hs hg hr=>by obtain⟨hc,ini,last,e1,e2,e3,e4⟩:=hs;exact⟨hc,ini,last,e1,e2,e3,rc (w.heap.size+1) (fun(_:Unit)=>last.2) () A B row e4 hg hr⟩) _) (ownFrom_below (by omega) (by omega)))
  ⟨⟨⟨bT1,bR1⟩,by simp⟩,Below.refl _ _⟩
  (fun x a' W=>∃Bx,w.heap.size+1<Bx∧iR W Bx x.2∧a' ={tmps:=#[lv,.string v,.int .i64 t,undef,undef,.pointer (some ⟨w.heap.size,0,none⟩),.pointer (some ⟨w.heap.size+1,0,none⟩),.slice (some ⟨b,off,none⟩) zs.length cap,br,undef,.pointer (some ⟨Bx,0,none⟩),.tuple #[.slice (some ⟨b,off,none⟩) zs.length cap,br],lv,.string v,.tuple #[.slice (some ⟨b,off,none⟩) zs.length cap,br],.slice (some ⟨b,off,none⟩) zs.length cap,br,.slice (some ⟨b,off,none⟩) zs.length cap,.func (.func 258) #[] #[.pointer (some ⟨W1.heap.size,0,none⟩)],.int .i64 x.1,Gr x.2,undef,undef,undef,undef,undef,undef],defers:= []})
  (fun x a' _ X Y row hs hg hr=>by obtain⟨Bx,h1,h2,h3⟩:=hs;exact⟨Bx,h1,rc Bx (fun(_:Unit)=>x.2) () X Y row h2 hg (fun r e=>(hr r e).2),h3⟩)
  ?assign ?body ?done ?stop
 case assign=>
  rintro l pre x W K ⟨⟨⟨bT2,bR2⟩,hp⟩,hB2⟩ hK;have hsW:=hB2.size
  gi_wp2
  exact hK _ _ ((KeepsOthers.alloc _ _).from _) ((Below.refl _ W).alloc (by omega) _) ⟨⟨⟨bT2.alloc _,bR2.alloc _⟩,hp⟩,hB2.alloc (by omega) _⟩ ⟨W.heap.size,bR2.lt,World.alloc_heap_new W _,rfl⟩
 case body=>
  rintro l pre x a' W hl ⟨r,hr⟩ ⟨⟨⟨bT2,bR2⟩,hp⟩,hB2⟩ ⟨Bx,hBx,bX,rfl⟩ hlt;have cT:=bT2.cell;have cx0:=bX.c0;have cx1:=bX.c1;have cx2:=bX.c2;have cr0:=bR2.c0;have cr1:=bR2.c1;have cr2:=bR2.c2;have f0:=bR2.f (j:=0);have f1:=bR2.f (j:=1);have f2:=bR2.f (j:=2)
  gi_wp2
  · have hx:x.2.sin≤t:=by assumption
    exact⟨(((KeepsOthers.setCell _ _ _).trans (KeepsOthers.setCell _ _ _)).trans (KeepsOthers.setCell _ _ _)).from _,⟨rfl,pre,x,rfl,hp,hx,iR.set bR2 x.2⟩,qK hB2 (by omega) _ _ _⟩
  · have hx:t<x.2.sin:=by assumption
    exact⟨KeepsFrom.refl _ _,Below.refl _ _,⟨⟨bT2,bR2⟩,fun p hp' =>(List.mem_append.1 hp').elim (hp p) (fun e=>by simp at e;subst e;exact hx)⟩,hB2⟩
 case done=>
  rintro D ys W hD rfl ⟨⟨⟨bT2,bR2⟩,hp⟩,hB2⟩ hK;have cr0:=bR2.c0;have cr1:=bR2.c1;have cr2:=bR2.c2;have f0:=bR2.f (j:=0);have f1:=bR2.f (j:=1);have f2:=bR2.f (j:=2)
  gi_wp2
  have hK':(((W.setCell ⟨w.heap.size+1,0,none⟩ (.int .i64 0)).setCell ⟨w.heap.size+1,1,none⟩ (.string ⟨#[]⟩)).setCell ⟨w.heap.size+1,2,none⟩ (.int .i64 0)).heap[D]? =some (.deferred (some [])):=
   (((KeepsOthers.setCell W ⟨w.heap.size+1,0,none⟩ (.int .i64 0)).trans (KeepsOthers.setCell _ ⟨w.heap.size+1,1,none⟩ (.string ⟨#[]⟩))).trans (KeepsOthers.setCell _ ⟨w.heap.size+1,2,none⟩ (.int .i64 0))).same D _ hK rfl
  have bS:iR (((W.setCell ⟨w.heap.size+1,0,none⟩ (.int .i64 0)).setCell ⟨w.heap.size+1,1,none⟩ (.string ⟨#[]⟩)).setCell ⟨w.heap.size+1,2,none⟩ (.int .i64 0)) (w.heap.size+1) ep:=iR.set bR2 ep;have hB3:=qK (n₀:=w.heap.size) (B:=w.heap.size+1) hB2 (by omega) (.int .i64 0) (.string ⟨#[]⟩) (.int .i64 0);generalize (((W.setCell ⟨w.heap.size+1,0,none⟩ (.int .i64 0)).setCell ⟨w.heap.size+1,1,none⟩ (.string ⟨#[]⟩)).setCell ⟨w.heap.size+1,2,none⟩ (.int .i64 0))=W3 at hK' bS hB3 ⊢;refine⟨by simp,.inl ⟨_,_,rfl,run_takeDeferred hK',?_⟩⟩;have bE:iR (W3.putObj D (.deferred none)) (w.heap.size+1) ep:=bS.kept (grownBy_putObj' W3 D (.deferred none)) (fun e=>by cases e;rw[show W3.heap[_]? =_ from bS]at hK';cases hK');have k0:=bE.c0;have k1:=bE.c1;have k2:=bE.c2
  have hnone:zs.reverse.find? (fun s=>decide (s.sin≤t))=none:=List.find?_eq_none.2 fun s hs=>by
   have hs':=List.mem_reverse.1 hs;obtain⟨i,hi⟩:=FP hs';have:=hp _ hi;simpa using this
  rw[hnone];refine⟨Gr ep,?_,rfl,hB1.trans (hB3.trans (belowK_b (w:=w) (Nat.le_refl _) W3 D _ _ (by omega) hK' rfl rfl))⟩;simp[results,Tryz.f148,go_sem,k0,k1,k2,ep]
 case stop=>
  rintro D c pre W hD ⟨k,hk,rfl⟩ ⟨⟨rfl,ini,last,e1,e2,e3,bR2⟩,hB2⟩ hK
  gi_wp2
  refine⟨by simp,.inl ⟨_,_,rfl,run_takeDeferred hK,?_⟩⟩;have bE:iR (W.putObj D (.deferred none)) (w.heap.size+1) last.2:=iR.kept bR2 (grownBy_putObj' W D (.deferred none)) (fun e=>by cases e;rw[show W.heap[_]? =_ from bR2]at hK;cases hK);have k0:=bE.c0;have k1:=bE.c1;have k2:=bE.c2
  obtain⟨k',rfl⟩:∃k',k=k'+1:=by
   cases k with
   |zero=>simp[vE]at e1
   |succ k' =>exact⟨k',rfl⟩
  rw[ny]at e1;obtain⟨rfl,e5⟩:=List.append_inj' e1 rfl;have hfind:zs.reverse.find? (fun s=>decide (s.sin≤t))=some last.2:=Cl hk e5 e2 e3;rw[hfind];refine⟨Gr last.2,?_,rfl,hB1.trans (hB2.trans (belowK_b (w:=w) (Nat.le_refl _) W D _ _ (by omega) hK rfl rfl))⟩;simp[results,Tryz.f148,go_sem,k0,k1,k2]
end Go.Proofs
set_option maxRecDepth 20000
namespace Go.Proofs.YtafhoijegjmdcaaGreatDoor
open Go Go.Eng Go.RowKit
theorem Fz {G:Hp}{W:World}(hG:∀b o,G b=some o→W.heap[b]? =some o){a:Addr}{v:Value}(h:oK G a v):W.cell? ⟨a.block,a.off,none⟩=some v:=by
 obtain⟨c,e,fr,h1,_,h3⟩:=h;simp[World.cell?,hG _ _ h1,h3]
theorem Dy (b off k:Nat):(⟨b,off,none⟩:Addr).add k=⟨b,off+k,none⟩:=by
 unfold Addr.add;split
 · rename_i h;subst h;rfl
 · rfl
theorem GZ {G:Hp}{W:World}{zs:List gh}(hne:zs≠ []){v:Value}(h:aG G (d6 3 jC ep zs) v)(hG:∀b o,G b=some o→W.heap[b]? =some o):∃b off cap,v= .slice (some ⟨b,off,none⟩) zs.length cap∧oC W.heap.size W b off zs:=by
 have hl:zs.length≠0:=fun e=>hne (List.length_eq_zero_iff.1 e)
 obtain⟨n,hn⟩:∃n,n=zs.length:=⟨_,rfl⟩;unfold d6 at h;rw[←hn]at h hl ⊢
 cases h with
 |ronil=>exact absurd rfl hl
 | ro _ _ _ a cap vals hs hcap hmax hlen hc hd=>
   obtain⟨b,off,sp⟩:=a;cases hs;have get:∀i j x,i<n→(aR jC ep zs i)[j]? =some x→W.cell? ⟨b,off+(i*3+j),none⟩=some (vals i j)∧aG G x (vals i j):=fun i j x hi hx=>⟨by have:=Fz hG (hc i j x hi hx);rw[Dy]at this;exact this,hd i j x hi hx⟩
   have hr:∀i,i<n→aR jC ep zs i=jC (zs[i]?.getD ep):=fun i hi=>by simp[aR,List.getD_eq_getElem?_getD]
   refine⟨b,off,cap,rfl,?_,fun i hi=> ?_⟩
   · obtain⟨c,_,_,h1,_,_⟩:=hc 0 0 _ (by omega) (by rw[hr 0 (by omega)];rfl);exact(Array.getElem?_eq_some_iff.1 (hG _ _ h1)).1
   · rw[←hn]at hi;obtain⟨k0,d0⟩:=get i 0 _ hi (by rw[hr i hi];rfl);obtain⟨k1,d1⟩:=get i 1 _ hi (by rw[hr i hi];rfl);obtain⟨k2,d2⟩:=get i 2 _ hi (by rw[hr i hi];rfl);generalize vals i 0=a0 at k0 d0;generalize vals i 1=a1 at k1 d1;generalize vals i 2=a2 at k2 d2
     cases d0 with|int _ _=>
     cases d1 with|str _=>
     cases d2 with|int _ _=>
     exact⟨k0,k1,k2⟩
theorem zx (v:List UInt8):∀ (l:List aS) (acc:List gh),(l.foldl (kS v) acc).length≤acc.length+l.length
 | [],acc=>by simp
 | x::l,acc=>by
   rw[List.foldl_cons];have:=zx v l (kS v acc x);have h2:(kS v acc x).length≤acc.length+1:=by unfold kS;split<;>simp
   simp only[List.length_cons];omega
theorem Nz (l:List aS)(hl:l.length≤2^20)(v:List UInt8)(t:Int):ae Tryz.prog 148 [.d (ic l),.d (.str v),.d (.int .i64 t)] [] (fun y r=>y= .agg ((jC (mo l v t)).map .d)∧r= []):=by
 refine gz Tryz.call148 (fun G β w vs hG hl0 hd=> ?_)
 match vs,hl0 with
 | [u0,u1,u2],_=>
   have h0:=hd 0 _ _ rfl rfl;have h1:=hd 1 _ _ rfl rfl;have h2:=hd 2 _ _ rfl rfl
   cases h0 with|d _ _ h0=>
   cases h1 with|d _ _ h1=>cases h1 with|str _=>
   cases h2 with|d _ _ h2=>cases h2 with|int _ _=>
   refine⟨Gr (mo l v t),fun G β=> ?_,?_⟩
   · refine .agg _ [_,_,_] rfl (fun i x u hx hu=> ?_)
     match i with
     |0=>cases hx;cases hu;exact .d _ _ (.int _ _)
     |1=>cases hx;cases hu;exact .d _ _ (.str _)
     |2=>cases hx;cases hu;exact .d _ _ (.int _ _)
     |i+3=>cases hx
   · refine callsIn_wide.1 (yc Fence.wide 5 trivial trivial trivial trivial rfl (by omega) u0 ⟨v.toArray⟩ t (Ha v l) (by have:=zx v l [ep];simp only[List.length_singleton]at this;unfold Ha;omega) w (fun w' hB=>callsIn_wide.2 ?_))
     have hG':∀b o,G b=some o→w'.heap[b]? =some o:=fun b o e=>by
      have:=hG b o e;rw[hB.block b (Array.getElem?_eq_some_iff.1 this).1];exact this
     refine((Ml l hl v).calls G (fun _=>none) w' [u0,.string ⟨v.toArray⟩] ⟨hG',fun _ _ q=>(by cases q),fun _ _ _ _ _ _ _ q=>(by cases q),fun _ _ _ _ q=>(by cases q),fun _ _ q=>(by cases q)⟩ rfl (fun i x u hx hu=> ?_)).mono ?_
     · match i with
       |0=>cases hx;cases hu;exact .d _ _ h0
       |1=>cases hx;cases hu;exact .d _ _ (.str _)
       |i+2=>cases hx
     · rintro e W ⟨u,x,rout,G',β',rfl,⟨⟨L,rfl⟩,rfl⟩,ho,hden⟩;refine⟨⟨ho.keep.os,ho.keep.tape,ho.keep.output,ho.keep.size,fun b hb=>ho.keep.block b hb (fun q=>by obtain⟨d,r,_,q,_⟩:=q;cases q)⟩,?_⟩
       cases hden with|tup _ us hlu hdu=>
       match us,hlu with
       | [x0,x1],_=>
         have d0:=hdu 0 _ _ rfl rfl
         cases d0 with|d _ _ d0=>
         obtain⟨b,off,cap,rfl,hs⟩:=GZ (W:=W) (yB v l [ep] (by simp)) d0 ho.gw;exact⟨b,off,cap,x1,rfl,hs⟩
theorem Kh (l:List aS)(hl:l.length≤2^20)(v:List UInt8)(t:Int):ae Tryz.prog 148 [.buf 1000001,.d (.str v),.d (.int .i64 t)] [(1000001,nC l)] (fun y r=>y= .agg ((jC (mo l v t)).map .d)∧r= [(1000001,nC l)]):=by
 refine ae.mono (j8 (args:= [.buf 1000001,.d (.str v),.d (.int .i64 t)]) 1000001 72 5 l.length (aR eV cj l) (Nz l hl v t) rfl (fun _ _ q=>by cases q) rfl (fun x r h=> ?_)) ?_
 · obtain⟨rfl,rfl⟩:=h;exact⟨rfl,fun _ _ q=>(by cases q),rfl⟩
 · rintro x r ⟨r0,⟨rfl,rfl⟩,rfl⟩;exact⟨rfl,rfl⟩
theorem KI (l:List aS)(hl:l.length≤2^20):ae Tryz.prog 153 [.buf 1000001] [(1000001,nC l)] (fun y r=>y= .buf 7∧r= [(7,nC l),(1000001,nC l)]):=by
 refine g9 hT (C:= [5]) Tryz.func153 rfl Tryz.call153 rfl rfl rfl ?_;conv=>whnf
 rintro b hbn;conv=>whnf
 repeat' ((first|refine aa ?_ ?_<;>intro hb<;>try simp only[am]at hb|omega|refine ao ?_|decide|assumption)<;>conv=>whnf)
 · have h0:l= []:=List.length_eq_zero_iff.1 (hbn (by assumption));subst h0;refine .ent _ _ (du.nil 2 7 72 5 (aR eV cj []) rfl rfl (by decide)) ?_;refine .ret _ ?_;conv=>whnf
   exact⟨_,⟨rfl,rfl⟩,rr,rr,trivial⟩
 · refine .ret _ ?_;conv=>whnf
   refine⟨_,⟨rfl,rfl⟩,cY (by simp) (fun i hi=> ?_),rr,trivial⟩;rw[dR (by omega)];rfl
abbrev Pc (h:df):bh:=.cells 77 (oU h++ [.buf 1000005,.mp 1000006,.mp 1000007,.mp 1000008])
theorem O3 (h:df):ae Tryz.prog 44 [hou h] [] (fun y r=>y= .ptr 8 0∧r= [(8,.cells 77 (oU h++ [.d .nilsl,.mp 4,.mp 5,.mp 6])),(4,dM true (ez fG) ez (Mp.nil fG)),(5,dM true (cQ none) cQ (Mp.nil none)),(6,dM false [.int .i64 0] xU (Mp.nil 0))]):=by
 refine aj hT Tryz.func44 Tryz.call44 ?_;conv=>whnf
 repeat' ((first|refine aa ?_ ?_<;>intro hb<;>try simp only[am]at hb|omega|refine ao ?_|decide|assumption)<;>conv=>whnf)
 refine .ret _ ?_;conv=>whnf
 refine⟨_,⟨rfl,rfl⟩,?_⟩;refine⟨rr,bn (fun K hK=> ?_),bn (fun K hK=> ?_),bn (fun K hK=> ?_),trivial⟩
 all_goals
  obtain⟨s,rfl⟩:=dL hK;exact⟨rfl,rfl⟩
abbrev uz (h:df)(o:fJ):List (Nat×bh):= [(1000001,Pc h),(1000005,nC o.log),(1000006,dM true (ez fG) ez o.bks),(1000007,dM true (cQ none) cQ o.his),(1000008,dM false [.int .i64 0] xU o.paid)]
theorem MW (h:df)(o:fJ)(key:List UInt8)(c:Int)(hc: -2^40≤c∧c≤2^40)(hp: -2^40≤o.paid.val key∧o.paid.val key≤2^40):
 ae Tryz.prog 101 [.ptr 1000001 0,.d (.str key),.d (.int .i64 c)] (uz h o) (fun y r=>y= .d (.int .i64 (iX o key c))∧r=uz h (if iX o key c=0 then{o with paid:=o.paid.put key (o.paid.val key+c)}else o)):=by
 obtain⟨hc1,hc2⟩:=hc;obtain⟨hp1,hp2⟩:=hp;rcases hv:o.his.val key with _|g
 all_goals
  refine aj hT Tryz.func101 Tryz.call101 ?_;conv=>whnf
  repeat' (first|(refine ab (HG _ _ _) rfl rfl ?_;rotate_right;conv=>whnf)|((first|(refine And.intro (by show bC (o.paid.val key+c);unfold bC;omega) ?_)|(refine And.intro (rfl:bt _=some (cQ none)) ?_;refine cm (row':=cQ none) (congrArg cQ hv) ?_)|(refine And.intro (rfl:bt _=some (cQ none)) ?_;refine cm (row':=dS g) (congrArg cQ hv) ?_)|refine And.intro (rfl:bt _=some [.int .i64 0]) ?_|refine aa ?_ ?_<;>intro hb<;>try simp only[am]at hb|omega|refine ao ?_|decide|assumption)<;>conv=>whnf))
  all_goals (try simp only[cf]at*)
  all_goals first
   | (have hS:(if iX o key c=0 then{o with paid:=o.paid.put key (o.paid.val key+c)}else o)=o:=by
       unfold iX;first|(simp_all;done)|grind
      rw[hS];refine .ret _ ?_;conv=>whnf
      refine⟨_,⟨?_,rfl⟩,rr,rr,rr,rr,rr,trivial⟩;conv=>lhs;whnf
      congr 2
      unfold iX
      first|(simp_all;done)|grind)
   | (have hz:iX o key c=0:=by
       unfold iX;first|(simp_all;done)|grind
      rw[hz,if_pos rfl];refine .ret _ ?_;conv=>whnf
      exact⟨_,⟨rfl,rfl⟩,rr,rr,rr,rr,eQ,trivial⟩)
end Go.Proofs.YtafhoijegjmdcaaGreatDoor
namespace Go.Eng
open Go Go.Proofs Go.Sort Go.RowKit
end Go.Eng
namespace Go.Eng
open Go Go.Proofs Go.Sort Go.RowKit
variable {α:Type} [Inhabited α]
structure Ho (k:Nat)(enc:α→List Value)(fF:α→List DV):Prop where
 pos:0<k
 len:∀a,(enc a).length=k
 lenF:∀a,(fF a).length=k
 den:∀ (a:α) (j:Nat) (x:DV),(fF a)[j]? =some x→∀ (G:Hp) (u:Value),aG G x u↔(enc a)[j]? =some u
theorem rU {k:Nat}{enc:α→List Value}(hk:0<k)(hlen:∀a,(enc a).length=k){d:α}{l:List α}{t:Nat}(ht:t<l.length*k):(flatK enc k l.toArray).toList[t]? =(enc (l.getD (t/k) d))[t%k]? :=by
 have hi:t/k<l.length:=Nat.div_lt_of_lt_mul (by rwa [Nat.mul_comm]);have hj:t%k<k:=Nat.mod_lt _ hk;have hg:=get_flatK enc k l.toArray t (by simpa using ht);rw[getElem!_pos _ t (by rw[size_flatK];simpa using ht)]at hg;have hd:l.toArray[t/k]! =l.getD (t/k) d:=by simp[hi,List.getD_eq_getElem?_getD]
 have hj2:t%k<(enc (l.getD (t/k) d)).length:=by rw[hlen];exact hj
 rw[hd,getElem!_pos _ (t%k) hj2]at hg;rw[Array.getElem?_toList,Array.getElem?_eq_getElem (by rw[size_flatK];simpa using ht),hg,List.getElem?_eq_getElem hj2]
theorem Er {k:Nat}{enc:α→List Value}(hk:0<k)(hlen:∀a,(enc a).length=k){d:α}{l:List α}{xs:List Value}(hl:xs.length=l.length*k)(h:∀i j,i<l.length→j<k→xs[i*k+j]? =(enc (l.getD i d))[j]?):
 xs=(flatK enc k l.toArray).toList:=by
 apply List.ext_getElem?
 intro t
 by_cases ht:t<l.length*k
 · have hi:t/k<l.length:=Nat.div_lt_of_lt_mul (by rwa [Nat.mul_comm]);have e:=h (t/k) (t%k) hi (Nat.mod_lt _ hk);rw[show t/k*k+t%k=t by rw[Nat.mul_comm];exact Nat.div_add_mod t k]at e;rw[e,rU hk hlen ht]
 · rw[List.getElem?_eq_none (by omega),List.getElem?_eq_none (by simp;omega)]
theorem D4 {k:Nat}{enc:α→List Value}(hk:0<k)(hlen:∀a,(enc a).length=k){d:α}{l:List α}{i j:Nat}(hi:i<l.length)(hj:j<k):(flatK enc k l.toArray).toList[i*k+j]? =(enc (l.getD i d))[j]? :=by
 have hlt:i*k+j<l.length*k:=calc i*k+j<i*k+k:=by omega
  _=(i+1)*k:=by rw[Nat.add_mul,Nat.one_mul]
  _≤l.length*k:=Nat.mul_le_mul_right _ hi
 have e1:(i*k+j)/k=i:=by rw[Nat.mul_comm,Nat.mul_add_div hk,Nat.div_eq_of_lt hj,Nat.add_zero]
 have e2:(i*k+j)%k=j:=by rw[Nat.mul_comm,Nat.mul_add_mod,Nat.mod_eq_of_lt hj]
 rw[rU hk hlen (d:=d) hlt,e1,e2]
theorem CY {w:World}{g:Nat}{cur:Array Value}{e:TypeId}{D:Array Value}(hb:w.heap[g]? =some (.cells cur e (0,0)))(ht:cur.toList.take D.size=D.toList):Holds id w g 0 D:=by
 intro j hj;refine⟨?_,by simp[World.frozen?,hb]⟩;have h1:(cur.toList.take D.size)[j]? =D.toList[j]? :=by rw[ht]
 rw[List.getElem?_take_of_lt hj]at h1;simp only[World.cell?,hb,Nat.zero_add];simp only[Option.isSome_none,Bool.false_eq_true,if_false];rw[←Array.getElem?_toList,h1];simp[hj]
theorem FQ {w:World}{g n:Nat}{os:Array Obj}{cur:Array Value}{e:TypeId}{fr:Nat×Nat}(d:Array Value)(hb:w.heap[g]? =some (.cells cur e fr)):
 (grow (putRow id (Sort.ahead w n) g 0 d) os).heap[g]? =some (.cells (putCells id 0 d cur) e fr):=by
 have hg:g<w.heap.size:=(Array.getElem?_eq_some_iff.1 hb).1;rw[heap_grow_old _ _ (by simpa using hg)];simp[putRow,mapBlock,Sort.ahead,Array.getElem?_modify,hb,onCells]
theorem DX {w:World}{g n:Nat}{os:Array Obj}(d:Array Value):w.grownBy (grow (putRow id (Sort.ahead w n) g 0 d) os) (some g):=by
 refine⟨rfl,rfl,rfl,by simp,fun k hk hne=> ?_⟩;rw[heap_grow_old _ _ (by simpa using hk)];have:g≠k:=fun e=>hne (by rw[e])
 simp[putRow,mapBlock,Sort.ahead,Array.getElem?_modify,this]
theorem GF (cur D:Array Value)(h:D.size≤cur.size):(putCells id 0 D cur).toList.take D.size=D.toList:=by
 apply List.ext_getElem?
 intro j
 by_cases hj:j<D.size
 · rw[List.getElem?_take_of_lt hj,Array.getElem?_toList];simp[putCells,hj,show j<cur.size by omega]
 · rw[List.getElem?_take_eq_none (by omega),List.getElem?_eq_none (by simp;omega)]
theorem wB {k:Nat}{enc:α→List Value}{fF:α→List DV}(he:Ho k enc fF)(d0:α){P:Program}{f g:FuncId}{e:TypeId}{lt:α→α→Bool}(henter:∀args w,(callFunc f args).run P w= .ok (.enter f args) w)(l:List α)(h1:0<l.length)
 (hc:∀ (gR cap:Nat) (w:World),HoldsK enc k w gR 0 l.toArray→gR<w.heap.size→Calls P f #[.slice (some ⟨gR,0,none⟩) l.length cap,.func (.func g) #[] #[]] w fun e' w' =>e' = .returned (.tuple #[])∧∃d' n os,PermIn 0 l.length l.toArray d'∧SortedIn lt 0 l.length d'∧w' =sortWorldK enc k w gR 0 n d' os):
 ae P f [.buf 1000001,.fn g []] [(1000001,aD e k fF d0 l)] (fun y r=>y= .tup []∧∃m:List α,m.Perm l∧m.Pairwise (fun a b=>lt b a=false)∧r= [(1000001,aD e k fF d0 m)]):=by
 refine⟨henter,fun G β w vs hpre hvl hvd=> ?_⟩
 match vs,hvl with
 | [v,v2],_=>
   have hv:=hvd 0 _ _ rfl rfl;have hv2:=hvd 1 _ _ rfl rfl
   cases hv2 with|fn _ _ cs hcl _=>
   have hcs:cs= []:=List.length_eq_zero_iff.1 hcl;subst hcs
   cases hv with|buf _ _ hb _=>
   have hR:aC [(1000001,aD e k fF d0 l)] 1000001=some (aD e k fF d0 l):=by simp[aC]
   have hrow:∀ {q:List α} d r,aC [(1000001,aD e k fF d0 q)] d=some r→d=1000001∧r=aD e k fF d0 q:=by
    intro q d r hr;simp only[aC]at hr
    cases hq:Nat.beq d 1000001 with
    |false=>rw[show(d.beq 1000001)=false from hq]at hr;cases hr
    |true=>rw[show(d.beq 1000001)=true from hq]at hr;cases hr;exact⟨Nat.eq_of_beq_eq_true hq,rfl⟩
   obtain⟨v',xs,hv',hown,_,_,hden⟩:=hpre.rs _ _ hR;rw[hb]at hv';cases hv';rcases hown.2 with⟨_,hz⟩|⟨gg,cap,cur,rfl,hg,hh,hnc,hcm,hcz,htake⟩
   · omega
   have hxs:xs=(flatK enc k l.toArray).toList:=by
    refine Er he.pos he.len (d:=d0) hown.1 fun i j hi hj=> ?_
    have hj2:j<(fF (l.getD i d0)).length:=by rw[he.lenF];exact hj
    obtain⟨u,hu,hd⟩:=hden i j ((fF (l.getD i d0))[j]) hi (List.getElem?_eq_getElem hj2);rw[hu,(he.den _ _ _ (List.getElem?_eq_getElem hj2) _ _).1 hd]
   have hgs:gg<w.heap.size:=(Array.getElem?_eq_some_iff.1 hh).1;have hho:HoldsK enc k w gg 0 l.toArray:=CY hh (by rw[←hxs,size_flatK,List.size_toArray];exact htake);refine(hc gg cap w hho hgs).mono ?_;rintro e' w' ⟨rfl,d',n,os,hperm,hsort,rfl⟩;have hsz:d'.size=l.length:=hperm.1.trans (by simp);have hm:d'.toList.toArray=d':=by simp
   have hml:d'.toList.length=l.length:=by rw[Array.length_toList,hsz]
   have hgb:=DX (w:=w) (g:=gg) (n:=n) (os:=os) (flatK enc k d');have hDs:(flatK enc k d').size=l.length*k:=by rw[size_flatK,hsz]
   have vD:(sortWorldK enc k w gg 0 n d' os).ownsRow 0 e k (.slice (some ⟨gg,0,none⟩) l.length cap) l.length (flatK enc k d').toList:=
    ⟨by rw[Array.length_toList,hDs],.inr ⟨gg,cap,_,rfl,Nat.zero_le _,FQ _ hh,hnc,hcm,by simp[putCells,hcz],by rw[←hDs];exact GF _ _ (by rw[hDs,hcz];exact Nat.mul_le_mul_right _ hnc)⟩⟩
   have hTin:B5 w β (aC [(1000001,aD e k fF d0 l)]) gg:=⟨1000001,_,_,hR,rfl,hb,.of rfl⟩;have hGg:G gg=none:=hpre.og _ _ _ gg hR rfl hb (.of rfl)
   have hpl:d'.toList.Perm l:=by
    have:=hperm.2.2;rw[←hsz,Array.extract_size]at this;have e2:l.toArray.extract 0 d'.size=l.toArray:=by rw[hsz];simp
    rw[e2]at this;exact this
   have hpw:d'.toList.Pairwise (fun a b=>lt b a=false):=by
    rw[List.pairwise_iff_getElem];intro i j hi hj hij;have:=hsort i j (Nat.zero_le _) hij (by rw[Array.length_toList,hsz]at hj;exact hj);rw[getElem!_pos _ j (by simpa using hj),getElem!_pos _ i (by simpa using hi)]at this;simpa using this
   refine⟨.tuple #[],.tup [],[(1000001,aD e k fF d0 d'.toList)],G,β,rfl,⟨rfl,d'.toList,hpl,hpw,rfl⟩,⟨Hp.le_refl G,eP.le_refl β,fun b o ho=> ?_,fun b o ho=>.inl ho,⟨hgb.os,hgb.tape,hgb.output,hgb.size,fun b hlt hT=> ?_⟩,fun d r hr=> ?_,fun d d2 r r' _ _ _ e1 e2 _ _ _ _ _ _=> ?_,fun d r u b e1 _ hu hbk=> ?_⟩,.tup [] [] rfl (fun i x v hx=>by simp at hx)⟩
   · have hw:=hpre.gw b o ho;rw[show(sortWorldK enc k w gg 0 n d' os).heap[b]? =w.heap[b]? from hgb.block b (Array.getElem?_eq_some_iff.1 hw).1 (fun q=>by cases q;rw[hGg]at ho;cases ho)];exact hw
   · exact hgb.block b hlt (fun q=>by cases q;exact hT hTin)
   · obtain⟨rfl,rfl⟩:=hrow d r hr;refine⟨_,_,hb,by rw[hml];exact vD,he.pos,fun i hi=>he.lenF _,fun i j x hi hx=> ?_⟩;rw[hml]at hi;have hx:(fF (d'.toList.getD i d0))[j]? =some x:=hx;have hj:j<k:=by rw[←he.lenF (d'.toList.getD i d0)];exact(List.getElem?_eq_some_iff.1 hx).1
     have hj3:j<(enc (d'.toList.getD i d0)).length:=by rw[he.len];exact hj
     have hat:=D4 he.pos he.len (d:=d0) (l:=d'.toList) (i:=i) (by rw[hml];exact hi) hj;rw[hm,List.getElem?_eq_getElem hj3]at hat;exact⟨_,hat,(he.den _ _ _ hx _ _).2 (List.getElem?_eq_getElem hj3)⟩
   · rw[(hrow d r e1).1,(hrow d2 r' e2).1]
   · obtain⟨rfl,rfl⟩:=hrow d r e1;rw[hb]at hu;cases hu;cases hbk.plain rfl;exact⟨hGg,.inl hTin⟩
theorem uq {γ:Type}{k:Nat}{fF:γ→List DV}(d0:γ){P:Program}{f g:FuncId}{e:TypeId}(henter:∀args w,(callFunc f args).run P w= .ok (.enter f args) w)
 (hc:∀ (p:Option Addr) (cap:Nat) (w:World),Calls P f #[.slice p 0 cap,.func (.func g) #[] #[]] w fun e' w' =>e' = .returned (.tuple #[])∧w' =w):
 ae P f [.buf 1000001,.fn g []] [(1000001,aD e k fF d0 [])] (fun y r=>y= .tup []∧r= [(1000001,aD e k fF d0 [])]):=by
 refine⟨henter,fun G β w vs hpre hvl hvd=> ?_⟩
 match vs,hvl with
 | [v,v2],_=>
   have hv:=hvd 0 _ _ rfl rfl;have hv2:=hvd 1 _ _ rfl rfl
   cases hv2 with|fn _ _ cs hcl _=>
   have hcs:cs= []:=List.length_eq_zero_iff.1 hcl;subst hcs
   cases hv with|buf _ _ hb _=>
   have hR:aC [(1000001,aD e k fF d0 [])] 1000001=some (aD e k fF d0 []):=by simp[aC]
   have hrow:∀d r,aC [(1000001,aD e k fF d0 [])] d=some r→d=1000001∧r=aD e k fF d0 []:=by
    intro d r hr;simp only[aC]at hr
    cases hq:Nat.beq d 1000001 with
    |false=>rw[show(d.beq 1000001)=false from hq]at hr;cases hr
    |true=>rw[show(d.beq 1000001)=true from hq]at hr;cases hr;exact⟨Nat.eq_of_beq_eq_true hq,rfl⟩
   obtain⟨v',xs,hv',hown,hk0,hj0,hden⟩:=hpre.rs _ _ hR;rw[hb]at hv';cases hv'
   have hrun:Calls P f #[v,.func (.func g) #[] #[]] w fun e' w' =>e' = .returned (.tuple #[])∧w' =w:=by
    rcases hown.2 with⟨rfl,_⟩|⟨gg,cap,cur,rfl,_⟩
    · exact hc none 0 w
    · exact hc _ cap w
   refine hrun.mono ?_;rintro e' w' ⟨rfl,rfl⟩;refine⟨.tuple #[],.tup [],[(1000001,aD e k fF d0 [])],G,β,rfl,⟨rfl,rfl⟩,⟨Hp.le_refl G,eP.le_refl β,fun b o ho=>hpre.gw b o ho,fun b o ho=>.inl ho,⟨rfl,rfl,rfl,Nat.le_refl _,fun b hlt hT=>rfl⟩,fun d r hr=>hpre.rs d r hr,fun d d2 r r' _ _ _ e1 e2 _ _ _ _ _ _=> ?_,fun d r u b e1 _ hu hbk=> ?_⟩,.tup [] [] rfl (fun i x v hx=>by simp at hx)⟩
   · rw[(hrow d r e1).1,(hrow d2 r' e2).1]
   · obtain⟨rfl,rfl⟩:=hrow d r e1;exact⟨hpre.og _ _ _ b hR rfl hu hbk,.inl ⟨1000001,_,_,hR,rfl,hu,hbk⟩⟩
end Go.Eng
namespace Go.Proofs
open Go.Shelf
def ir:Go.Shelf.Ren:=⟨fun|6=>149|15=>126|14=>203|28=>192|29=>193|20=>238|21=>259|22=>260|23=>261|24=>262|25=>263|26=>264|27=>265|46=>298|47=>241|48=>242|49=>299|50=>300|57=>320|n=>n,fun|22=>51|24=>72|25=>203|3=>3|39=>206|0=>0|53=>263|55=>265|4=>4|46=>257|45=>256|50=>224|5=>5|9=>9|66=>300|70=>304|76=>335|77=>336|n=>n,fun|n=>n⟩
theorem qJ:Go.Proofs.SlLaysF0.n6 Tryz.prog ir:={
 mixed:=by kernel_rfl
 f6:=⟨Tryz.f149.name,by decide,Tryz.func149.trans (congrArg some (by kernel_rfl))⟩
 f14:=⟨Tryz.f203.name,by decide,Tryz.func203.trans (congrArg some (by kernel_rfl))⟩
 f15:=Tryz.func126.trans (congrArg some (by kernel_rfl))
 f20:=⟨Tryz.f238.name,by decide,Tryz.func238.trans (congrArg some (by kernel_rfl))⟩
 f21:=⟨Tryz.f259.name,by decide,Tryz.func259.trans (congrArg some (by kernel_rfl))⟩
 f22:=⟨Tryz.f260.name,by decide,Tryz.func260.trans (congrArg some (by kernel_rfl))⟩
 f23:=⟨Tryz.f261.name,by decide,Tryz.func261.trans (congrArg some (by kernel_rfl))⟩
 f24:=⟨Tryz.f262.name,by decide,Tryz.func262.trans (congrArg some (by kernel_rfl))⟩
 f25:=⟨Tryz.f263.name,by decide,Tryz.func263.trans (congrArg some (by kernel_rfl))⟩
 f26:=⟨Tryz.f264.name,by decide,Tryz.func264.trans (congrArg some (by kernel_rfl))⟩
 f27:=⟨Tryz.f265.name,by decide,Tryz.func265.trans (congrArg some (by kernel_rfl))⟩
 f28:=Tryz.func192.trans (congrArg some (by kernel_rfl))
 f29:=Tryz.func193.trans (congrArg some (by kernel_rfl))
 f46:=⟨Tryz.f298.name,by decide,Tryz.func298.trans (congrArg some (by kernel_rfl))⟩
 f47:=Tryz.func241.trans (congrArg some (by kernel_rfl))
 f48:=Tryz.func242.trans (congrArg some (by kernel_rfl))
 f49:=⟨Tryz.f299.name,by decide,Tryz.func299.trans (congrArg some (by kernel_rfl))⟩
 f50:=⟨Tryz.f300.name,by decide,Tryz.func300.trans (congrArg some (by kernel_rfl))⟩
 f57:=⟨Tryz.f320.name,by decide,Tryz.func320.trans (congrArg some (by kernel_rfl))⟩
 t0:=Tryz.underlying0
 a0:=Tryz.isAgg0
 z0:=Tryz.sizeOf0
 v0:=Tryz.zeroValue0
 t3:=Tryz.underlying3
 a3:=Tryz.isAgg3
 z3:=Tryz.sizeOf3
 v3:=Tryz.zeroValue3
 t4:=Tryz.underlying4
 a4:=Tryz.isAgg4
 z4:=Tryz.sizeOf4
 v4:=Tryz.zeroValue4
 t5:=Tryz.underlying5
 a5:=Tryz.isAgg5
 z5:=Tryz.sizeOf5
 v5:=Tryz.zeroValue5
 t9:=Tryz.underlying9
 a9:=Tryz.isAgg9
 z9:=Tryz.sizeOf9
 v9:=Tryz.zeroValue9
 t22:=Tryz.underlying51
 a22:=Tryz.isAgg51
 z22:=Tryz.sizeOf51
 v22:=Tryz.zeroValue51
 t25:=Tryz.underlying203
 a25:=Tryz.isAgg203
 z25:=Tryz.sizeOf203
 v25:=Tryz.zeroValue203
 t39:=Tryz.underlying206
 a39:=Tryz.isAgg206
 z39:=Tryz.sizeOf206
 v39:=Tryz.zeroValue206
 t45:=Tryz.underlying256
 a45:=Tryz.isAgg256
 z45:=Tryz.sizeOf256
 v45:=Tryz.zeroValue256
 t46:=Tryz.underlying257
 a46:=Tryz.isAgg257
 z46:=Tryz.sizeOf257
 v46:=Tryz.zeroValue257
 t50:=Tryz.underlying224
 a50:=Tryz.isAgg224
 z50:=Tryz.sizeOf224
 v50:=Tryz.zeroValue224
 t53:=Tryz.underlying263
 a53:=Tryz.isAgg263
 z53:=Tryz.sizeOf263
 v53:=Tryz.zeroValue263
 t55:=Tryz.underlying265
 a55:=Tryz.isAgg265
 z55:=Tryz.sizeOf265
 v55:=Tryz.zeroValue265
 t66:=Tryz.underlying300
 a66:=Tryz.isAgg300
 z66:=Tryz.sizeOf300
 v66:=Tryz.zeroValue300
 t70:=Tryz.underlying304
 a70:=Tryz.isAgg304
 z70:=Tryz.sizeOf304
 v70:=Tryz.zeroValue304
 t76:=Tryz.underlying335
 a76:=Tryz.isAgg335
 z76:=Tryz.sizeOf335
 v76:=Tryz.zeroValue335
 t77:=Tryz.underlying336
 a77:=Tryz.isAgg336
 z77:=Tryz.sizeOf336
 v77:=Tryz.zeroValue336}
end Go.Proofs
set_option maxRecDepth 20000
namespace Go.Proofs.YtafhoijegjmdcaaGreatDoor
open Go Go.Eng
open Go.Proofs Go.Shelf
def Cj (x:aS):List Value:= [.int .i64 x.tm,.string ⟨x.veh.toArray⟩,.string ⟨x.st.toArray⟩,.int .i64 x.kind,.string ⟨x.to.toArray⟩]
def Cv (x:aS):Prop:= -2^60≤x.tm∧x.tm≤2^60
open Go.Sort Go.RowKit Go.Lib in
theorem ML (n:Int)(W:World):Calls Tryz.prog 134 #[.int .i64 n] W fun e w' =>e= .returned (.int .i64 (bJ n 0))∧w' =W:=by
 go_enter Tryz.func134,Tryz.ntmps134
 go_wp2_with fail
 all_goals
  go_ret
  first
   |(rw[show bJ n 0= -1 from by unfold bJ;(repeat' split)<;>omega];exact⟨rfl,rfl⟩)
   |(rw[show bJ n 0=1 from by unfold bJ;(repeat' split)<;>omega];exact⟨rfl,rfl⟩)
   |(rw[show bJ n 0=0 from by unfold bJ;(repeat' split)<;>omega];exact⟨rfl,rfl⟩)
open Go.Sort Go.RowKit Go.Lib in
theorem KD (a b:List UInt8)(W:World):Calls Tryz.prog 65 #[.string ⟨a.toArray⟩,.string ⟨b.toArray⟩] W fun e w' =>e= .returned (.int .i64 (dq a b))∧w' =W:=by
 have h:=Go.Proofs.Any.strings_Compare Go.Proofs.Tryz.lays106 ⟨a.toArray⟩ ⟨b.toArray⟩ W
 change Calls Tryz.prog 65 _ _ _ at h
 refine h.mono ?_;rintro e w' ⟨rfl,rfl⟩;exact⟨by rw[←El],rfl⟩
open Go.Sort Go.RowKit Go.Lib in
theorem JU (a b:aS)(ha:Cv a)(hb:Cv b)(W:World):Calls Tryz.prog 150 #[.agg (Cj a).toArray,.agg (Cj b).toArray] W fun e w' =>e= .returned (.int .i64 (aX a b))∧∃q os',w' =grow (W.drewN q) os':=by
 obtain⟨a1,a2⟩:=ha;obtain⟨b1,b2⟩:=hb;have h1:=ML;have h2:=KD
 have e1:(a.tm !=b.tm)=true→aX a b=bJ (a.tm - b.tm) 0:=fun h=>by
  rw[lC];unfold aX ah bJ;simp at h;grind
 have e2:(a.tm !=b.tm)=false→aX a b=dq a.veh b.veh:=fun h=>by
  have q1:a.tm=b.tm:=by simpa using h
  unfold aX;rw[ah,if_pos (dw.2 q1)];unfold ah ah;split
  · rename_i z;exact z.symm
  · rfl
 generalize aX a b=r at e1 e2 ⊢;unfold Cj
 go_enter Tryz.func150,Tryz.ntmps150
 go_wp2_with (first|(go_at_call 134;refine(h1 _ _).mono ?_;rintro e w' ⟨rfl,rfl⟩)|(go_at_call 65;refine(h2 _ _ _).mono ?_;rintro e w' ⟨rfl,rfl⟩))
 all_goals go_ret
 all_goals first
  |(rw[e1 (by assumption)];exact⟨rfl,0,_,by rw[alloc_eq_grow,alloc_eq_grow,grow_grow];rfl⟩)
  |(rw[e2 (by assumption)];exact⟨rfl,0,_,by rw[alloc_eq_grow,alloc_eq_grow,grow_grow];rfl⟩)
abbrev VV:Type:={x:aS//Cv x}
def JO:VV:=⟨cj,by simp[Cv,cj]⟩
instance:Inhabited VV:=⟨JO⟩
def H9 (x:VV):List Value:=Cj x.1
def fS (x:VV):List DV:=eV x.1
theorem Gm:Ho 5 H9 fS:=⟨by decide,fun _=>rfl,fun _=>rfl,fun a j x hx G u=>by
 match j with
 |0=>cases hx;exact⟨fun h=>by cases h;rfl,fun h=>by cases h;exact .int _ _⟩
 |1=>cases hx;exact⟨fun h=>by cases h;rfl,fun h=>by cases h;exact .str _⟩
 |2=>cases hx;exact⟨fun h=>by cases h;rfl,fun h=>by cases h;exact .str _⟩
 |3=>cases hx;exact⟨fun h=>by cases h;rfl,fun h=>by cases h;exact .int _ _⟩
 |4=>cases hx;exact⟨fun h=>by cases h;rfl,fun h=>by cases h;exact .str _⟩
 |j+5=>cases hx⟩
theorem OI (L:List VV):aD 72 5 fS JO L=nC (L.map (·.1)):=by
 show bh.buf 72 5 L.length (aR fS JO L)=bh.buf 72 5 (L.map (·.1)).length (aR eV cj (L.map (·.1)));rw[List.length_map];congr 1
 funext i
 unfold aR fS;congr 1
 rw[List.getD_eq_getElem?_getD,List.getD_eq_getElem?_getD,List.getElem?_map];cases L[i]? <;>rfl
open Go.Sort Go.RowKit Go.Lib in
theorem Of:SWO (ltOf fun x y:VV=>aX x.1 y.1) where
 irrefl x:=by unfold ltOf;have:=dx.sw x.1 x.1;simp;omega
 trans x y z h1 h2:=by unfold ltOf at*;simp at*;exact dx.tr _ _ _ h1 h2
 ntrans x y z h1 h2:=by
  unfold ltOf at*;simp at*;have:=dx.sw y.1 x.1;have:=dx.sw z.1 y.1;have:=dx.sw z.1 x.1;have:=dx.le_tr (a:=z.1) (b:=y.1) (c:=x.1) (by omega) (by omega);omega
open Go.Sort Go.RowKit Go.Lib in
theorem Oi (l:List aS)(hl:l.length<2^40)(hr:∀x ∈ l,Cv x)(hz:∀a ∈ l,∀b ∈ l,aX a b=0→a=b):ae Tryz.prog 149 [.buf 1000001,.fn 150 []] [(1000001,nC l)] (fun y r=>y= .tup []∧r= [(1000001,nC (bc aX l))]):=by
 have e:ir.f 6=149:=rfl;have et:ir.t 24=72:=rfl;obtain⟨L,hL⟩:∃L:List VV,L.map (·.1)=l:=⟨l.attachWith Cv hr,by simp⟩;have hLl:L.length=l.length:=by rw[←hL];simp
 rw[←hL]at hz;rw[←hL,←OI]
 cases L with
 | nil=>
   refine ae.mono (uq (fF:=fS) (k:=5) JO (g:=150) (e:=72) Tryz.call149 fun p cap w=> ?_) fun x r h=>⟨h.1,h.2⟩
   have:=AnyF.slices_SortFunc_none qJ p cap (.func (.func 150) #[] #[]) w;rw[e]at this
   exact this
 | cons x L=>
   refine ae.mono (wB Gm JO (g:=150) (e:=72) (lt:=ltOf fun x y:VV=>aX x.1 y.1) Tryz.call149 (x::L) (by simp) fun gR cap w hH hb=> ?_) fun y r h=> ?_
   · have:=AnyQ.slices_SortFunc qJ 5 (by rw[et];exact Tryz.isAgg72) (by rw[et];exact Tryz.sizeOf72) H9 (fun _=>rfl) (fun x v hv=>by simp[H9,Cj]at hv;rcases hv with rfl|rfl|rfl|rfl|rfl<;>rfl) (fun x y=>aX x.1 y.1) Of 150 #[] gR 0 cap (x::L).toArray w Tryz.call150 (fun _ _ _ _ x y=>JU x.1 y.1 x.2 y.2 _) hH hb (by simp at hLl ⊢;omega);rw[e]at this;simpa using this
   · obtain⟨h1,m,hm,hs,hr⟩:=h;refine⟨h1,?_⟩;rw[hr,OI];congr 3
     refine nv dx hz (hm.map _) ?_;unfold kP;rw[List.pairwise_map];refine hs.imp (fun{a b} q=> ?_);unfold ltOf at q;have:=dx.sw a.1 b.1;simp at q;omega
def qw:TL:= [(1,[(0,[]),(1,[]),(2,[]),(3,[]),(4,[]),(5,rg 5),(6,rg 5),(7,[]),(8,[])]),(6,[(0,[]),(1,[]),(2,[]),(3,[]),(4,rg 4),(5,rg 4),(6,rg 6),(7,rg 6),(9,rg 8),(14,[0,1,2,3,4,5,6,7,9]),(8,[9,14]),(10,[14]),(11,[14]),(12,[14]),(13,[14,12]),(15,[13]),(16,[])]),(9,[(0,[]),(1,[0]),(2,[0]),(3,[0]),(4,[0]),(5,rg 5),(6,rg 5),(7,[0]),(8,[]),(9,[]),(10,[])])]
abbrev iP (h:df)(o:fJ):List (Nat×bh):= [(1000001,.cells 77 (oU h++ [.buf 50,.mp 1000006,.mp 1000007,.mp 1000008])),(50,nC o.log),(1000006,dM true (ez fG) ez o.bks),(1000007,dM true (cQ none) cQ o.his),(1000008,dM false [.int .i64 0] xU o.paid)]
structure me (l:List aS):Prop where
 apt:l.Pairwise fun a b=>¬ (a.veh=b.veh∧a.tm=b.tm)
 tm:∀x ∈ l,Cv x
def iK (vm:Mp (List UInt8))(sm:Mp Bool)(l:List aS)(x:aS):List aS:=if eY vm sm l x=0 then bc aX (l++ [x])else l
theorem xR (l:List aS)(x:aS):(l.any fun y=>decide (y.tm=x.tm)&&decide (y.veh=x.veh))=l.any (nZ x):=rfl
theorem wW {l:List aS}{x:aS}(ha:me l)(hx:Cv x)(hn:l.any (nZ x)=false):me (l++ [x]) where
 apt:=by
  rw[List.pairwise_append];refine⟨ha.apt,List.pairwise_singleton _ _,fun a h1 b h2 c=> ?_⟩;rw[List.mem_singleton]at h2;subst h2;rw[List.any_eq_false]at hn;exact hn a h1 (by unfold nZ;rw[decide_eq_true c.2,decide_eq_true c.1];rfl)
 tm y hy:=by
  rcases List.mem_append.1 hy with q|q
  · exact ha.tm y q
  · rw[List.mem_singleton]at q;subst q;exact hx
theorem me.sort {l:List aS}(h:me l):me (bc aX l) where
 apt:=(aK aX l).symm.pairwise h.apt (fun{a b} q c=>q ⟨c.1.symm,c.2.symm⟩)
 tm y hy:=h.tm y ((aK aX l).mem_iff.1 hy)
theorem Jl {f:nc}{x:aS}(h:Gs f x=0):0≤x.tm∧x.tm≤5761439:=by
 unfold Gs at h
 by_cases q:0≤x.tm∧x.tm≤5761439
 · exact q
 · rw[if_pos q]at h;exact absurd h (by decide)
theorem GB {vm:Mp (List UInt8)}{sm:Mp Bool}{l:List aS}{x:aS}(h:me l):me (iK vm sm l x):=by
 unfold iK;split
 · rename_i q;unfold eY at q
   by_cases g1:zX vm sm x≠0
   · rw[if_pos g1]at q;exact absurd q g1
   rw[if_neg g1]at q
   by_cases g2:(l.any (nZ x))=true
   · rw[xR,if_pos g2]at q;exact absurd q (by decide)
   refine(wW h ?_ (by simpa using g2)).sort;have g1:zX vm sm x=0:=by simpa using g1
   unfold zX at g1
   by_cases q:0≤x.tm∧x.tm≤5761439
   · unfold Cv;omega
   · rw[if_pos q]at g1;exact absurd g1 (by decide)
 · exact h
theorem AX {vm:Mp (List UInt8)}{sm:Mp Bool}{l:List aS}{x:aS}:(iK vm sm l x).length≤l.length+1:=by
 unfold iK;split
 · rw[(aK aX _).length_eq];simp
 · omega
theorem NO (h:df)(hv:h.flt.veh.length≤2^40)(hs:h.flt.sta.length≤2^40)(o:fJ)(x:aS)(hl:o.log.length≤2^19)(ha:me o.log):
 ae Tryz.prog 98 [.ptr 1000001 0,.agg ((eV x).map .d)] (uz h o) (fun y r=>y= .d (.int .i64 (eY (b8 h.flt.veh) (bV h.flt.sta) o.log x))∧r=iP h {o with log:=iK (b8 h.flt.veh) (bV h.flt.sta) o.log x}):=by
 have c1:=Nm h.flt hv hs x;have c2:=Nu o.log (by omega) x;have c3:=Kh o.log (by omega) x.veh x.tm;have c4:=KJ (mo o.log x.veh x.tm) x
 have eE:eY (b8 h.flt.veh) (bV h.flt.sta) o.log x=if Gs h.flt x≠0 then Gs h.flt x else if o.log.any (nZ x)=true then 6 else if dF (mo o.log x.veh x.tm) x=true then 0 else 11:=by
  unfold eY;rw[←J7,xR]
 have eL:iK (b8 h.flt.veh) (bV h.flt.sta) o.log x=if eY (b8 h.flt.veh) (bV h.flt.sta) o.log x=0 then bc aX (o.log++ [x])else o.log:=rfl;rw[eL,eE];clear eL eE;have hx:=@Jl h.flt x;generalize mo o.log x.veh x.tm=S at c3 c4 ⊢;generalize wS S x=S2 at c4;generalize Gs h.flt x=E at c1 hx ⊢
 by_cases g1:E=0
 · subst g1;have hx:=hx rfl;rw[if_neg (show ¬ ((0:Int)≠0)from fun c=>c rfl)]
   cases g2:o.log.any (nZ x)with
   | true=>
     rw[g2]at c2;rw[if_pos (rfl:true=true),if_neg (show ¬ ((6:Int)=0)by decide)];refine aj hT Tryz.func98 Tryz.call98 ?_;conv=>whnf
     repeat' ((first|refine ab c1 rfl rfl ?_|(refine bP c2 [(1000001,1000005),(1000002,3)] ?_)|refine aa ?_ ?_<;>intro hb<;>try simp only[am]at hb|refine bg hT qw ?_|omega|refine ao ?_|decide|assumption)<;>conv=>whnf)
     refine .ent _ _ (ac (ts:= [(4,.d (.int .i64 6))]) (rs:=iP h o) wu rfl rfl ⟨lr,trivial⟩ ⟨rr,rr,rr,rr,rr,trivial⟩) ?_;refine .ret _ ?_;conv=>whnf
     exact⟨_,⟨rfl,rfl⟩,rr,rr,rr,rr,rr,trivial⟩
   | false=>
     rw[g2]at c2;have hI:=wW ha (by unfold Cv;omega) g2;have c5:=Oi (o.log++ [x]) (by simp;omega) hI.tm (vK hI.apt);rw[if_neg (show ¬ (false=true)by decide)]
     cases g3:dF S x with
     | true=>
       rw[g3]at c4;rw[if_pos (rfl:true=true),if_pos (rfl:(0:Int)=0)];refine aj hT Tryz.func98 Tryz.call98 ?_;conv=>whnf
       repeat' (first|((first|refine ab c1 rfl rfl ?_|(refine bP c2 [(1000001,1000005),(1000002,3)] ?_)|(refine bP c3 [(1000001,1000005)] ?_))<;>conv=>whnf)|(refine ab (c4) rfl rfl ?_;rotate_right;conv=>whnf)|((first|(refine dP.of c5 [(1000001,48)] rfl ⟨lr,lr,trivial⟩ ⟨aB (x:=x) rfl,trivial⟩ rfl rfl ?_;rintro u rout ⟨rfl,rfl⟩;refine⟨rfl,?_⟩)|refine aa ?_ ?_<;>intro hb<;>try simp only[am]at hb|refine bg hT qw ?_|omega|refine ao ?_|decide|assumption)<;>conv=>whnf))
       refine .ent _ _ (ac (ts:= [(4,.d (.int .i64 0))]) (rs:=iP h {o with log:=bc aX (o.log++ [x])}) [(1000001,1000001),(50,48),(1000006,1000006),(1000007,1000007),(1000008,1000008)] rfl rfl ⟨lr,trivial⟩ ⟨rr,rr,rr,rr,rr,trivial⟩) ?_;refine .ret _ ?_;conv=>whnf
       exact⟨_,⟨rfl,rfl⟩,rr,rr,rr,rr,rr,trivial⟩
     | false=>
       rw[g3]at c4;rw[if_neg (show ¬ (false=true)by decide),if_neg (show ¬ ((11:Int)=0)by decide)];refine aj hT Tryz.func98 Tryz.call98 ?_;conv=>whnf
       repeat' (first|((first|refine ab c1 rfl rfl ?_|(refine bP c2 [(1000001,1000005),(1000002,3)] ?_)|(refine bP c3 [(1000001,1000005)] ?_))<;>conv=>whnf)|(refine ab (c4) rfl rfl ?_;rotate_right;conv=>whnf)|((first|refine aa ?_ ?_<;>intro hb<;>try simp only[am]at hb|refine bg hT qw ?_|omega|refine ao ?_|decide|assumption)<;>conv=>whnf))
       refine .ent _ _ (ac (ts:= [(4,.d (.int .i64 11))]) (rs:=iP h o) wu rfl rfl ⟨lr,trivial⟩ ⟨rr,rr,rr,rr,rr,trivial⟩) ?_;refine .ret _ ?_;conv=>whnf
       exact⟨_,⟨rfl,rfl⟩,rr,rr,rr,rr,rr,trivial⟩
 · rw[if_pos g1,if_neg g1];refine aj hT Tryz.func98 Tryz.call98 ?_;conv=>whnf
   repeat' ((first|refine ab c1 rfl rfl ?_|refine aa ?_ ?_<;>intro hb<;>try simp only[am]at hb|refine bg hT qw ?_|omega|refine ao ?_|decide|assumption)<;>conv=>whnf)
   all_goals first
    |(exfalso;omega)
    |skip
   refine .ent _ _ (ac (ts:= [(4,.d (.int .i64 E))]) (rs:=iP h o) wu rfl rfl ⟨lr,trivial⟩ ⟨rr,rr,rr,rr,rr,trivial⟩) ?_;refine .ret _ ?_;conv=>whnf
   exact⟨_,⟨rfl,rfl⟩,rr,rr,rr,rr,rr,trivial⟩
theorem KT (h:df)(o:fJ)(next:cq)(e:Int)(he:e≠0)(old:List aS)(st ve:List UInt8):
 ae Tryz.prog 154 [.ptr 1000001 0,.agg ((dS next).map .d),.d (.int .i64 e),.d (ic old),.d (.str st),.d (.str ve)] (uz h o) (fun y r=>y= .d (.int .i64 e)∧r=iP h o):=by
 refine aj hT Tryz.func154 Tryz.call154 ?_;conv=>whnf
 repeat' ((first|refine aa ?_ ?_<;>intro hb<;>try simp only[am]at hb|omega|refine ao ?_|decide|assumption)<;>conv=>whnf)
 all_goals first
  |(exfalso;omega)
  |skip
 refine .ent _ _ (ac (ts:= [(12,.d (.int .i64 e))]) (rs:=iP h o) wu rfl rfl ⟨lr,trivial⟩ ⟨rr,rr,rr,rr,rr,trivial⟩) ?_;refine .ret _ ?_;conv=>whnf
 exact⟨_,⟨rfl,rfl⟩,rr,rr,rr,rr,rr,trivial⟩
theorem wD (old l:List aS)(x:aS):sH old (l++ [x])=sH old l++if x ∈ old then []else [x]:=by
 unfold sH;rw[List.filter_append];congr 1
 by_cases q:x ∈ old<;>simp[q]
theorem vA (old l:List aS):(sH old l).length≤l.length:=List.length_filter_le _ _
theorem pe (vm:Mp (List UInt8))(sm:Mp Bool)(log:List aS)(x:aS)(l:List aS):dE vm sm log (x::l)=if eY vm sm log x≠0 then(eY vm sm log x,log)else dE vm sm (iK vm sm log x) l:=by
 rw[dE]
 by_cases q:eY vm sm log x=0
 · rw[if_neg (fun c=>c q),if_neg (fun c=>c q),iK,if_pos q]
 · rw[if_pos q,if_pos q]
theorem tq {g:cq}{x:aS}(h:x ∈ cK g):x.kind=2∨x.kind=3:=by
 have h:=(aK aX _).mem_iff.1 h;obtain⟨y,hy,h⟩:=List.mem_flatMap.1 h;unfold iM at h;rcases List.mem_cons.1 h with q|q
 · rw[q];exact .inl rfl
 · split at q
   · cases q
   · rw[List.mem_singleton]at q;rw[q];exact .inr rfl
theorem Km (h:df)(hv:h.flt.veh.length≤2^40)(hs:h.flt.sta.length≤2^40)(o:fJ)(hl:o.log.length≤2^18)(ha:me o.log)(next:cq)(hle:next.legs.length≤2^10)
 (htm:∀x ∈ next.legs,(-2^60≤x.out.tm∧x.out.tm≤2^60)∧(-2^60≤x.inn.tm∧x.inn.tm≤2^60))(hz1:∀a ∈ ef next.legs,∀b ∈ ef next.legs,aX a b=0→a=b)(old:List aS)(hol:old.length≤2^40)
 (hz2:∀a ∈ sH old (cK next),∀b ∈ sH old (cK next),xn a b=0→a=b)(st ve:List UInt8):
 ae Tryz.prog 154 [.ptr 1000001 0,.agg ((dS next).map .d),.d (.int .i64 0),.d (ic old),.d (.str st),.d (.str ve)] (uz h o)
  (fun y r=>y= .d (.int .i64 (eG (b8 h.flt.veh) (bV h.flt.sta) o.log 0 next old st ve))∧r=iP h {o with log:=iq (b8 h.flt.veh) (bV h.flt.sta) o.log 0 next old st ve}):=by
 have c1:=FW next hle htm hz1
 have hevl:(cK next).length≤2^11:=by
  unfold cK;rw[(aK aX _).length_eq];have:=ls next.legs;omega
 have c3:=x6 206 xn Ao (sH old (cK next)) (by have:=vA old (cK next);omega) hz2 (fun p q hp hq=>Na p q (by have:=tq (List.mem_filter.1 hp).1;omega) (by have:=tq (List.mem_filter.1 hq).1;omega));have hfl:(bc xn (sH old (cK next))).length=(sH old (cK next)).length:=(aK xn _).length_eq;have hfl2:=vA old (cK next);obtain⟨fr,hfr⟩:∃fr,bc xn (sH old (cK next))=fr:=⟨_,rfl⟩;have hfl3:fr.length≤2^11:=by rw[←hfr];omega
 obtain⟨vm,hvm⟩:∃vm,b8 h.flt.veh=vm:=⟨_,rfl⟩;obtain⟨sm,hsm⟩:∃sm,bV h.flt.sta=sm:=⟨_,rfl⟩
 have eE:eG vm sm o.log 0 next old st ve=if(st≠ []∧pY h.flt.sta st<0)∨(ve≠ []∧m5 h.flt.veh ve<0)then 8 else(dE vm sm o.log fr).1:=by
  unfold eG B3;have p1:(pY h.flt.sta st<0)=(sm.val st=false):=propext (by rw[uE,hsm]);have p2:(m5 h.flt.veh ve<0)=(vm.has ve=false):=propext (by rw[zK,hvm]);rw[if_neg (by decide),hfr];simp only[p1,p2]
 have eL:iq vm sm o.log 0 next old st ve=if eG vm sm o.log 0 next old st ve=0 then(dE vm sm o.log fr).2 else o.log:=by
  unfold iq B3;rw[hfr]
 rw[hvm,hsm,eL,eE];clear eL eE;generalize cK next=ev at*;have c2:=KI o.log (by omega);obtain⟨SE,SL,hSA⟩:∃SE SL,dE vm sm o.log fr=(SE,SL):=⟨_,_,rfl⟩;rw[hSA]
 by_cases hC:(st≠ []∧pY h.flt.sta st<0)∨(ve≠ []∧m5 h.flt.veh ve<0)
 · rw[if_pos hC,if_neg (show ¬ ((8:Int)=0)by decide)];refine aj hT Tryz.func154 Tryz.call154 ?_;conv=>whnf
   repeat' (first|(refine ab (I8 h.flt hs st) rfl rfl ?_;rotate_right;conv=>whnf)|(refine ab (z85 h.flt hv ve) rfl rfl ?_;rotate_right;conv=>whnf)|((first|(refine bP c2 [(7,30),(1000001,1000005)] ?_)|refine ab c1 rfl rfl ?_|refine aa ?_ ?_<;>intro hb<;>try simp only[am]at hb|omega|refine ao ?_|decide|assumption)<;>conv=>whnf))
   all_goals try(exfalso;rcases hC with⟨a1,a2⟩|⟨a1,a2⟩<;>first|omega|exact a1 (by assumption))
   all_goals
    refine .ent _ _ (ac (ts:= [(12,.d (.int .i64 8))]) (rs:=iP h o) wu rfl rfl ⟨lr,trivial⟩ ⟨rr,rr,rr,rr,rr,trivial⟩) ?_;refine .ret _ ?_;conv=>whnf
    exact⟨_,⟨rfl,rfl⟩,rr,rr,rr,rr,rr,trivial⟩
 · rw [if_neg hC];show ae _ _ _ _ (fun y r=>y= .d (.int .i64 SE)∧r=iP h {o with log:=if SE=0 then SL else o.log});refine aj hT Tryz.func154 Tryz.call154 ?_;conv=>whnf
   repeat' (first|(refine ab (I8 h.flt hs st) rfl rfl ?_;rotate_right;conv=>whnf)|(refine ab (z85 h.flt hv ve) rfl rfl ?_;rotate_right;conv=>whnf)|((first|(refine bP c2 [(7,30),(1000001,1000005)] ?_)|refine ab c1 rfl rfl ?_|refine aa ?_ ?_<;>intro hb<;>try simp only[am]at hb|omega|refine ao ?_|decide|assumption)<;>conv=>whnf))
   all_goals try(exfalso;first|exact hC (.inl ⟨by assumption,by omega⟩)|exact hC (.inr ⟨by assumption,by omega⟩))
   all_goals
    refine af hT (C:= []) (ι:=Nat) (fun i=>i≤ev.length)
     (fun i=>aJ [(0,.ptr 1000001 0),(3,.d (ic old)),(13,.buf 30),(14,.buf 20),(55,.d (ic ev)),(56,.d (.int .i64 ev.length)),(57,.d (.int .i64 i))] ((20,nC (sH old (ev.take i)))::(30,nC o.log)::uz h o))
     (fun i=>ev.length - i) 0 (by simp) ?_ ?_
    · refine du.trans (du.nil 14 20 72 5 (aR eV cj []) rfl rfl (by decide)) ?_;exact ac [(20,20),(30,30),(1000001,1000001),(1000005,1000005),(1000006,1000006),(1000007,1000007),(1000008,1000008)] rfl rfl ⟨lr,lr,lr,lr,lr,lr,lr,trivial⟩ ⟨rr,rr,rr,rr,rr,rr,rr,trivial⟩
    intro i p1;have p1:i≤ev.length:=p1;have e1:=ek i;have hl2:=vA old (ev.take i);have hl3:(ev.take i).length≤ev.length:=by rw[List.length_take];omega
    conv=>whnf
    repeat' (first|(refine ab (NX old hol _) rfl rfl ?_;rotate_right;conv=>whnf)|((first|(refine And.intro (by show(_+1)*64≤_;omega) ?_)|(refine And.intro (by unfold bC;omega) ?_)|refine aa ?_ ?_<;>intro hb<;>try simp only[am]at hb|omega|refine ao ?_|decide|assumption)<;>conv=>whnf))
    · have hi:i<ev.length:=by omega
      have hx:ev[i]=ev.getD (i:Int).toNat cj:=by rw[e1,List.getD_eq_getElem?_getD,List.getElem?_eq_getElem hi];rfl
      refine⟨i+1,by omega,by omega,ac [(20,68),(30,30),(1000001,1000001),(1000005,1000005),(1000006,1000006),(1000007,1000007),(1000008,1000008)] rfl rfl ⟨lr,lr,lr,lr,lr,lr,lr,trivial⟩ ⟨?_,rr,rr,rr,rr,rr,rr,trivial⟩⟩;rw[dh hi,wD,hx,if_neg (by simpa using hb)];exact aB rfl
    · have hi:i<ev.length:=by omega
      have hx:ev[i]=ev.getD (i:Int).toNat cj:=by rw[e1,List.getD_eq_getElem?_getD,List.getElem?_eq_getElem hi];rfl
      refine⟨i+1,by omega,by omega,ac [(20,20),(30,30),(1000001,1000001),(1000005,1000005),(1000006,1000006),(1000007,1000007),(1000008,1000008)] rfl rfl ⟨lr,lr,lr,lr,lr,lr,lr,trivial⟩ ⟨?_,rr,rr,rr,rr,rr,rr,trivial⟩⟩;rw[dh hi,wD,hx,if_pos (by simpa using hb),List.append_nil];exact rr
    · have hi:i=ev.length:=by omega
      rw[hi,List.take_length];clear hi hl2 hl3 e1 p1;repeat' ((first|(refine bP c3 [(1000001,20)] ?_)|refine aa ?_ ?_<;>intro hb<;>try simp only[am]at hb|omega|refine ao ?_|decide|assumption)<;>conv=>whnf)
      rw[hfr]
      refine af hT (C:= []) (ι:=Nat×List aS) (fun(i,L)=>i≤fr.length∧(SE,SL)=dE vm sm L (fr.drop i)∧me L∧L.length≤o.log.length+i)
       (fun(i,L)=>aJ [(0,.ptr 1000001 0),(13,.buf 30),(72,.buf 20),(73,.d (.int .i64 fr.length)),(74,.d (.int .i64 i))] ((20,nC fr)::(30,nC o.log)::iP h {o with log:=L}))
       (fun(i,_)=>fr.length - i) (0,o.log) ⟨by simp,hSA.symm,ha,by simp⟩ ?_ ?_
      · exact ac [(20,20),(30,30),(1000001,1000001),(50,1000005),(1000006,1000006),(1000007,1000007),(1000008,1000008)] rfl rfl ⟨lr,lr,lr,lr,lr,trivial⟩ ⟨rr,rr,rr,rr,rr,rr,rr,trivial⟩
      rintro⟨i,L⟩ ⟨p1,p2,p3,p4⟩;have p1:i≤fr.length:=p1;have p2:(SE,SL)=dE vm sm L (fr.drop i):=p2;have p3:me L:=p3;have p4:L.length≤o.log.length+i:=p4;have e1:=ek i;have c4:=NO h hv hs {o with log:=L} (fr.getD i cj) (by show L.length≤_;omega) p3;rw[hvm,hsm]at c4;conv=>whnf
      repeat' ((first|(refine bP c4 [(1000001,1000001),(1000005,50),(1000006,1000006),(1000007,1000007),(1000008,1000008),(50,90)] ?_)|(refine And.intro (by unfold bC;omega) ?_)|refine aa ?_ ?_<;>intro hb<;>try simp only[am]at hb|omega|refine ao ?_|decide|assumption)<;>conv=>whnf)
      · have hi:i<fr.length:=by omega
        have hx:fr.drop i=fr.getD i cj::fr.drop (i+1):=by rw[List.drop_eq_getElem_cons hi,List.getD_eq_getElem?_getD,List.getElem?_eq_getElem hi];rfl
        rw[hx,pe,if_pos hb]at p2;obtain⟨q1,q2⟩:=Prod.mk.inj p2;rw[q1,q2,if_neg hb];refine .ent _ _ (ac (ts:= [(12,.d (.int .i64 (eY vm sm L (fr.getD i cj))))]) (rs:=iP h o) [(1000001,1000001),(50,30),(1000006,1000006),(1000007,1000007),(1000008,1000008)] rfl rfl ⟨lr,trivial⟩ ⟨rr,rr,rr,rr,rr,trivial⟩) ?_;refine .ret _ ?_;conv=>whnf
        exact⟨_,⟨rfl,rfl⟩,rr,rr,rr,rr,rr,trivial⟩
      · have hi:i<fr.length:=by omega
        have hx:fr.drop i=fr.getD i cj::fr.drop (i+1):=by rw[List.drop_eq_getElem_cons hi,List.getD_eq_getElem?_getD,List.getElem?_eq_getElem hi];rfl
        refine⟨(i+1,iK vm sm L (fr.getD i cj)),⟨by omega,?_,GB p3,?_⟩,by show fr.length - (i+1)<fr.length - i;omega,ac [(20,20),(30,30),(1000001,1000001),(50,90),(1000006,1000006),(1000007,1000007),(1000008,1000008)] rfl rfl ⟨lr,lr,lr,lr,lr,trivial⟩ ⟨rr,rr,rr,rr,rr,rr,rr,trivial⟩⟩
        · rw[p2,hx,pe,if_neg (by simpa using hb)]
        · have:=@AX vm sm L (fr.getD i cj);omega
      · have hi:i=fr.length:=by omega
        rw[hi,List.drop_length,dE]at p2;obtain⟨q1,q2⟩:=Prod.mk.inj p2;rw[q1,q2,if_pos (rfl:(0:Int)=0)];refine .ent _ _ (ac (ts:= [(12,.d (.int .i64 0))]) (rs:=iP h {o with log:=L}) [(1000001,1000001),(50,50),(1000006,1000006),(1000007,1000007),(1000008,1000008)] rfl rfl ⟨lr,trivial⟩ ⟨rr,rr,rr,rr,rr,trivial⟩) ?_;refine .ret _ ?_;conv=>whnf
        exact⟨_,⟨rfl,rfl⟩,rr,rr,rr,rr,rr,trivial⟩
theorem Lc (r:ij)(h:r.st.length≤2^40):ae Tryz.prog 321 [.agg ((EZ r).map .d)] [] (fun x o=>x= .d (.int .i64 (iy r))∧o= []):=by
 refine aj hT Tryz.func321 Tryz.call321 ?_;conv=>whnf
 repeat' (first|(refine ab (Gd _) rfl rfl ?_;rotate_right;conv=>whnf)|(refine ab (vB _ h) rfl rfl ?_;rotate_right;conv=>whnf)|(refine ab (kf _ _ _) rfl rfl ?_;rotate_right;conv=>whnf)|((first|refine aa ?_ ?_<;>intro hb<;>try simp only[am]at hb|omega|refine ao ?_|decide|assumption)<;>conv=>whnf))
 all_goals
  refine .ret _ ?_;conv=>whnf
  refine⟨[],⟨?_,rfl⟩,trivial⟩;conv=>lhs;whnf
  congr 2
  unfold iy;grind
theorem NL (a b:Int):ae Tryz.prog 301 [.agg [.d (.int .i64 a),.d (.int .i64 b)]] [] (fun x o=>x= .d (.int .i64 (iS a b))∧o= []):=by
 refine aj hT Tryz.func301 Tryz.call301 ?_;conv=>whnf
 repeat' ((first|refine aa ?_ ?_<;>intro hb<;>try simp only[am]at hb|omega|refine ao ?_|decide|assumption)<;>conv=>whnf)
 all_goals
  refine .ret _ ?_;conv=>whnf
  refine⟨[],⟨?_,rfl⟩,trivial⟩;conv=>lhs;whnf
  congr 2
  unfold iS;grind
theorem LP (h:cq)(hk:IL h)(i:Nat)(hi:i<h.legs.length):ae Tryz.prog 302 [.agg ((dS h).map .d),.d (.int .i64 i)] [] (fun x o=>x= .d (.int .i64 (iQ h i))∧o= []):=by
 have e1:=ek i;have hl:=hk.2.2.1;have hx:IW (h.legs.getD (i:Int).toNat cr):=hk.2.2.2 _ (al (by omega));refine aj hT Tryz.func302 Tryz.call302 ?_;conv=>whnf
 repeat' (first|(refine ab (vB _ hx.1) rfl rfl ?_;rotate_right;conv=>whnf)|(refine ab (Lc (h.legs.getD (i:Int).toNat cr).out hx.2.1) rfl rfl ?_;rotate_right;conv=>whnf)|(refine ab (Lc (h.legs.getD (i:Int).toNat cr).inn hx.2.2) rfl rfl ?_;rotate_right;conv=>whnf)|((first|refine aa ?_ ?_<;>intro hb<;>try simp only[am]at hb|omega|refine ao ?_|decide|assumption)<;>conv=>whnf))
 all_goals
  refine .ret _ ?_;conv=>whnf
  refine⟨[],⟨?_,rfl⟩,trivial⟩;conv=>lhs;whnf
  congr 2
  clear hx hk;simp only[e1,aE]at*;unfold iQ;grind
theorem z183 (h:cq)(hk:IL h):ae Tryz.prog 266 [.agg ((dS h).map .d)] [] (fun x o=>x= .d (.int .i64 (aT h))∧o= []):=by
 have c1:=vB h.key hk.1;have c2:=vB h.drv hk.2.1;have c3:=NL h.frm h.to;have hl:=hk.2.2.1
 cases q1:aN h.key with
 | false=>
   rw[nL (.inl q1)];rw[q1]at c1;refine aj hT Tryz.func266 Tryz.call266 ?_;conv=>whnf
   repeat' (first|(refine ab (c1) rfl rfl ?_;rotate_right;conv=>whnf)|((first|refine aa ?_ ?_<;>intro hb<;>try simp only[am]at hb|omega|refine ao ?_|decide|assumption)<;>conv=>whnf))
   refine .ret _ ?_;conv=>whnf
   refine⟨[],⟨?_,rfl⟩,trivial⟩
   conv=>lhs;whnf
 |true=>
 rw[q1]at c1
 cases q2:aN h.drv with
 | false=>
   rw[nL (.inr q2)];rw[q2]at c2;refine aj hT Tryz.func266 Tryz.call266 ?_;conv=>whnf
   repeat' (first|(refine ab (c1) rfl rfl ?_;rotate_right;conv=>whnf)|(refine ab (c2) rfl rfl ?_;rotate_right;conv=>whnf)|((first|refine aa ?_ ?_<;>intro hb<;>try simp only[am]at hb|omega|refine ao ?_|decide|assumption)<;>conv=>whnf))
   refine .ret _ ?_;conv=>whnf
   refine⟨[],⟨?_,rfl⟩,trivial⟩
   conv=>lhs;whnf
 |true=>
 rw[q2]at c2
 by_cases q3:iS h.frm h.to=0
 · have hE:=tN q1 q2 q3;rw[hE];clear hE;rw[q3]at c3
   by_cases q4:h.legs.length=0
   · rw[if_pos q4];refine aj hT Tryz.func266 Tryz.call266 ?_;conv=>whnf
     repeat' (first|(refine ab (c1) rfl rfl ?_;rotate_right;conv=>whnf)|(refine ab (c2) rfl rfl ?_;rotate_right;conv=>whnf)|(refine ab (c3) rfl rfl ?_;rotate_right;conv=>whnf)|((first|refine aa ?_ ?_<;>intro hb<;>try simp only[am]at hb|omega|refine ao ?_|decide|assumption)<;>conv=>whnf))
     all_goals first
      |(exfalso;omega)
      | (refine .ret _ ?_
         conv=>whnf
         refine⟨[],⟨?_,rfl⟩,trivial⟩;conv=>lhs;whnf
         all_goals rfl)
   by_cases q5:20<h.legs.length
   · rw[if_neg q4,if_pos q5];refine aj hT Tryz.func266 Tryz.call266 ?_;conv=>whnf
     repeat' (first|(refine ab (c1) rfl rfl ?_;rotate_right;conv=>whnf)|(refine ab (c2) rfl rfl ?_;rotate_right;conv=>whnf)|(refine ab (c3) rfl rfl ?_;rotate_right;conv=>whnf)|((first|refine aa ?_ ?_<;>intro hb<;>try simp only[am]at hb|omega|refine ao ?_|decide|assumption)<;>conv=>whnf))
     all_goals first
      |(exfalso;omega)
      | (refine .ret _ ?_
         conv=>whnf
         refine⟨[],⟨?_,rfl⟩,trivial⟩;conv=>lhs;whnf
         all_goals rfl)
   obtain⟨F,hfin⟩:∃F:Int,F=a8 (iQ h) h.legs.length:=⟨_,rfl⟩;rw[if_neg q4,if_neg q5,←hfin];refine aj hT Tryz.func266 Tryz.call266 ?_;conv=>whnf
   repeat' (first|(refine ab (c1) rfl rfl ?_;rotate_right;conv=>whnf)|(refine ab (c2) rfl rfl ?_;rotate_right;conv=>whnf)|(refine ab (c3) rfl rfl ?_;rotate_right;conv=>whnf)|((first|refine aa ?_ ?_<;>intro hb<;>try simp only[am]at hb|omega|refine ao ?_|decide|assumption)<;>conv=>whnf))
   all_goals first
    |(exfalso;omega)
    |skip
   refine af hT (C:= []) (ι:=Nat) (fun i=>i≤h.legs.length∧∀j,j<i→iQ h j=0) (fun i=>aJ [(1,.ptr 1 0),(34,.d (.int .i64 h.legs.length)),(35,.d (.int .i64 i))] [(1,rf h)]) (fun i=>h.legs.length - i) 0 ⟨by omega,by omega⟩ (by exact a7 [(1,1)]) ?_;rintro i ⟨p1,p2⟩;have e1:=ek i;conv=>whnf
   repeat' ((first|refine Fc (LP h hk i (by omega)) ?_|refine aa ?_ ?_<;>intro hb<;>try simp only[am]at hb|omega|refine ao ?_|decide|assumption)<;>conv=>whnf)
   · refine .ret _ ?_;conv=>whnf
     refine⟨[],⟨?_,rfl⟩,trivial⟩;conv=>lhs;whnf
     congr 2
     rw[hfin];exact(aP (by omega) p2 (by simpa using hb) rfl).symm
   · exact⟨i+1,⟨by omega,aL p2 (by simpa using hb)⟩,by omega,(by exact a7 [(1,1)])⟩
   · refine .ret _ ?_;conv=>whnf
     refine⟨[],⟨?_,rfl⟩,trivial⟩;conv=>lhs;whnf
     congr 2
     have:i=h.legs.length:=by omega
     subst this;rw[hfin,ay p2]
 · rw[tp q1 q2 q3];generalize iS h.frm h.to=E at c3 q3;refine aj hT Tryz.func266 Tryz.call266 ?_;conv=>whnf
   repeat' (first|(refine ab (c1) rfl rfl ?_;rotate_right;conv=>whnf)|(refine ab (c2) rfl rfl ?_;rotate_right;conv=>whnf)|(refine ab (c3) rfl rfl ?_;rotate_right;conv=>whnf)|((first|refine aa ?_ ?_<;>intro hb<;>try simp only[am]at hb|omega|refine ao ?_|decide|assumption)<;>conv=>whnf))
   all_goals first
    |(exfalso;omega)
    | (refine .ret _ ?_
       conv=>whnf
       refine⟨[],⟨?_,rfl⟩,trivial⟩;conv=>lhs;whnf
       all_goals rfl)
def Df:TL:= [(0,[(0,[]),(1,[]),(2,[]),(3,[]),(4,rg 4),(5,rg 4),(6,rg 4),(7,rg 4),(8,rg 4),(9,rg 4),(10,rg 10),(11,[]),(12,[]),(13,[])])]
def Ew:TL:= [(0,[(0,[]),(1,[]),(2,[]),(3,[]),(4,rg 4),(5,rg 4),(6,rg 4),(7,rg 4),(8,rg 4),(9,rg 4),(10,rg 10),(11,[]),(12,[]),(13,[])]),(1,[(0,[]),(1,[0]),(2,[0]),(3,[0]),(4,[0]),(5,rg 5),(6,rg 6),(7,rg 7),(8,rg 5),(9,rg 5),(10,[0]),(11,[]),(12,[]),(13,[])])]
abbrev B4 (r:ij):bh:=.cells 176 [.d (.int .i64 r.tm),.d (.str r.st),.d (.int .i64 r.meter),.d (.int .i64 r.fuel)]
abbrev AW (h:cq)(d:Nat):bh:=.cells 112 [.d (.str h.key),.d (.str h.drv),.d (.int .i64 h.frm),.d (.int .i64 h.to),.buf d]
abbrev Ak (n:Int):bh:=.cells 3 [.d (.int .i64 n)]
theorem qe {h:cq}(q:fx h=true):1≤h.legs.length:=by
 rcases Nat.eq_zero_or_pos h.legs.length with e|e
 · exfalso;rw[List.length_eq_zero_iff]at e;unfold fx at q;rw[e]at q;exact absurd q (by decide)
 · exact e
theorem E9 (h:cq)(hk:IL h):ae Tryz.prog 204 [.agg ((dS h).map .d)] [] (fun y r=>y= .tup [.agg ((dS (if aT h=0 then h else fq)).map .d),.d (.int .i64 (aT h))]∧r= []):=by
 have h183:=z183 h hk
 by_cases q:aT h=0
 · rw[if_pos q];rw[q]at h183 ⊢;refine aj hT Tryz.func204 Tryz.call204 ?_;conv=>whnf
   repeat' (first|(refine ab (h183) rfl rfl ?_;rotate_right;conv=>whnf)|((first|refine aa ?_ ?_<;>intro hb<;>try simp only[am]at hb|omega|refine ao ?_|decide|assumption)<;>conv=>whnf))
   refine .ret _ ?_;conv=>whnf
   exact⟨[],⟨rfl,rfl⟩,trivial⟩
 · rw[if_neg q];generalize aT h=E at h183 q;refine aj hT Tryz.func204 Tryz.call204 ?_;conv=>whnf
   repeat' (first|(refine ab (h183) rfl rfl ?_;rotate_right;conv=>whnf)|((first|refine aa ?_ ?_<;>intro hb<;>try simp only[am]at hb|omega|refine ao ?_|decide|assumption)<;>conv=>whnf))
   all_goals first
    |(exfalso;omega)
    | (refine .weak _ ?_
       conv=>whnf
       exact⟨.tup [.agg ((dS fq).map .d),.d (.int .i64 E)],[],aU ⟨be ⟨lr,lr,lr,lr,aI,trivial⟩,lr,trivial⟩,⟨rfl,rfl⟩,trivial⟩)
theorem AM (h:cq)(hl:h.legs.length≤2^40):ae Tryz.prog 268 [.agg ((dS h).map .d)] [] (fun y r=>y= .d (.bool (fx h))∧r= []):=by
 by_cases q:1≤h.legs.length
 · refine aj hT Tryz.func268 Tryz.call268 ?_;conv=>whnf
   repeat' ((first|refine aa ?_ ?_<;>intro hb<;>try simp only[am]at hb|omega|refine ao ?_|decide|assumption)<;>conv=>whnf)
   all_goals try(exfalso;omega)
   refine .ret _ ?_;conv=>whnf
   refine⟨[],⟨?_,rfl⟩,trivial⟩;conv=>lhs;whnf
   rfl
 · have e:fx h=false:=by
    cases e:fx h with
    |false=>rfl
    |true=>exact absurd (qe e) q
   rw[e];refine aj hT Tryz.func268 Tryz.call268 ?_;conv=>whnf
   repeat' ((first|refine aa ?_ ?_<;>intro hb<;>try simp only[am]at hb|omega|refine ao ?_|decide|assumption)<;>conv=>whnf)
   all_goals try(exfalso;omega)
   refine .ret _ ?_;conv=>whnf
   refine⟨[],⟨?_,rfl⟩,trivial⟩;conv=>lhs;whnf
theorem Mc (h:cq)(to:Int):ae Tryz.prog 209 [.ptr 1000001 0,.ptr 1000002 0] [(1000001,AW h 1000005),(1000002,Ak to),(1000005,xD h.legs)] (fun y o=>y= .tup []∧o= [(1000001,AW (sO h to) 1000005),(1000002,Ak to),(1000005,xD h.legs)]):=by
 refine aj hT Tryz.func209 Tryz.call209 ?_;conv=>whnf
 repeat' ((first|refine aa ?_ ?_<;>intro hb<;>try simp only[am]at hb|omega|refine ao ?_|decide|assumption)<;>conv=>whnf)
 refine .ret _ ?_;conv=>whnf
 exact⟨_,⟨rfl,rfl⟩,rr,rr,rr,trivial⟩
theorem NV (h:cq)(h1:1≤h.legs.length)(hl:h.legs.length≤2^20)(r:ij):
 ae Tryz.prog 210 [.ptr 1000001 0,.ptr 1000002 0] [(1000001,AW h 1000005),(1000002,B4 r),(1000005,xD h.legs)] (fun y o=>y= .tup []∧o= [(1000001,AW h 1000005),(1000002,B4 r),(1000005,xD (ct h.legs r))]):=by
 refine aj hT Tryz.func210 Tryz.call210 ?_;conv=>whnf
 repeat' ((first|refine aa ?_ ?_<;>intro hb<;>try simp only[am]at hb|refine bg hT Df ?_|omega|refine ao ?_|decide|assumption)<;>conv=>whnf)
 refine .ret _ ?_;conv=>whnf
 exact⟨_,⟨rfl,rfl⟩,rr,rr,jg lM,trivial⟩
theorem MD (h:cq)(h1:1≤h.legs.length)(hl:h.legs.length≤2^20)(ri ro:ij)(v:List UInt8):
 ae Tryz.prog 208 [.ptr 1000001 0,.ptr 1000002 0,.ptr 1000003 0,.ptr 1000004 0] [(1000001,AW h 1000005),(1000002,B4 ri),(1000003,Av v),(1000004,B4 ro),(1000005,xD h.legs)]
  (fun y o=>y= .tup []∧o= [(1000001,AW h 28),(1000002,B4 ri),(1000003,Av v),(1000004,B4 ro),(28,xD (ct h.legs ri++ [⟨v,ro,r8⟩]))]):=by
 refine aj hT Tryz.func208 Tryz.call208 ?_;conv=>whnf
 repeat' ((first|refine aa ?_ ?_<;>intro hb<;>try simp only[am]at hb|refine bg hT Ew ?_|omega|refine ao ?_|decide|assumption)<;>conv=>whnf)
 refine .ret _ ?_;conv=>whnf
 exact⟨_,⟨rfl,rfl⟩,rr,rr,rr,rr,oO lM rfl,trivial⟩
def gP (g next:cq):cq:=if dK g next=0 then next else fq
theorem K8 (h:cq)(hk:sd h)(to:Int):
 ae Tryz.prog 207 [.agg ((dS h).map .d),.fn 209 [.ptr 1000002 0]] [(1000002,Ak to)]
  (fun y o=>y= .tup [.agg ((dS (gP h (sO h to))).map .d),.d (.int .i64 (dK h (sO h to)))]∧o= [(1000002,Ak to)]):=by
 have hH:sd (sO h to):=hk;have hl:=hk.2.2.1;generalize hHe:sO h to=H at hH ⊢
 by_cases q:fx h=true
 · have e1:dK h H=aT H:=if_neg (by rw[q];decide);have e2:gP h H=if aT H=0 then H else fq:=by unfold gP;rw[e1]
   rw[e1,e2];have c1:=AM h (by omega);rw[q]at c1;have hn:=qe q;have c2:=E9 H hH.k;generalize aT H=E at c2 ⊢;generalize hR:(if E=0 then H else fq)=R at c2 ⊢;subst hHe;refine aj hT Tryz.func207 Tryz.call207 ?_;conv=>whnf
   repeat' (first|(refine ab (c1) rfl rfl ?_;rotate_right;conv=>whnf)|((first|(refine bP (FI h.legs hn (by omega)) [(7,20)] ?_)|(refine bP (Mc h to) [(1000001,2),(1000002,1000002),(1000005,20)] ?_)|(refine dP.freeze _ _ _ _ 20 178 9 _ _ rfl rfl ?_;refine ap c2 ⟨be ⟨lr,lr,lr,lr,lr,trivial⟩,trivial⟩ rfl ?_)|refine aa ?_ ?_<;>intro hb<;>try simp only[am]at hb|omega|refine ao ?_|decide|assumption)<;>conv=>whnf))
   refine .ret _ ?_;conv=>whnf
   exact⟨_,⟨rfl,rfl⟩,rr,trivial⟩
 · have e1:dK h H=11:=if_pos (by simpa using q);have e2:gP h H=fq:=by unfold gP;rw[e1];rfl
   rw[e1,e2];have c1:=AM h (by omega);rw[show fx h=false by simpa using q]at c1;refine aj hT Tryz.func207 Tryz.call207 ?_;conv=>whnf
   repeat' (first|(refine ab (c1) rfl rfl ?_;rotate_right;conv=>whnf)|((first|refine aa ?_ ?_<;>intro hb<;>try simp only[am]at hb|omega|refine ao ?_|decide|assumption)<;>conv=>whnf))
   refine .weak _ ?_;conv=>whnf
   exact⟨.tup [.agg ((dS fq).map .d),.d (.int .i64 11)],_,aU ⟨be ⟨lr,lr,lr,lr,aI,trivial⟩,lr,trivial⟩,⟨rfl,rfl⟩,rr,trivial⟩
theorem KM (h:cq)(hk:sd h)(ri:ij)(hr:ri.st.length≤2^40):
 ae Tryz.prog 207 [.agg ((dS h).map .d),.fn 210 [.ptr 1000002 0]] [(1000002,B4 ri)]
  (fun y o=>y= .tup [.agg ((dS (gP h (q8 h ri))).map .d),.d (.int .i64 (dK h (q8 h ri)))]∧o= [(1000002,B4 ri)]):=by
 have hH:sd (q8 h ri):=⟨hk.1,hk.2.1,by show(ct h.legs ri).length≤_;rw[cU];exact hk.2.2.1,qk hk.2.2.2 hr⟩;have hl:=hk.2.2.1;generalize hHe:q8 h ri=H at hH ⊢
 by_cases q:fx h=true
 · have e1:dK h H=aT H:=if_neg (by rw[q];decide);have e2:gP h H=if aT H=0 then H else fq:=by unfold gP;rw[e1]
   rw[e1,e2];have c1:=AM h (by omega);rw[q]at c1;have hn:=qe q;have c2:=E9 H hH.k;generalize aT H=E at c2 ⊢;generalize hR:(if E=0 then H else fq)=R at c2 ⊢;subst hHe;refine aj hT Tryz.func207 Tryz.call207 ?_;conv=>whnf
   repeat' (first|(refine ab (c1) rfl rfl ?_;rotate_right;conv=>whnf)|((first|(refine bP (FI h.legs hn (by omega)) [(7,20)] ?_)|(refine bP (NV h hn (by omega) ri) [(1000001,2),(1000002,1000002),(1000005,20)] ?_)|(refine dP.freeze _ _ _ _ 20 178 9 _ _ rfl rfl ?_;refine ap c2 ⟨be ⟨lr,lr,lr,lr,lr,trivial⟩,trivial⟩ rfl ?_)|refine aa ?_ ?_<;>intro hb<;>try simp only[am]at hb|omega|refine ao ?_|decide|assumption)<;>conv=>whnf))
   refine .ret _ ?_;conv=>whnf
   exact⟨_,⟨rfl,rfl⟩,rr,trivial⟩
 · have e1:dK h H=11:=if_pos (by simpa using q);have e2:gP h H=fq:=by unfold gP;rw[e1];rfl
   rw[e1,e2];have c1:=AM h (by omega);rw[show fx h=false by simpa using q]at c1;refine aj hT Tryz.func207 Tryz.call207 ?_;conv=>whnf
   repeat' (first|(refine ab (c1) rfl rfl ?_;rotate_right;conv=>whnf)|((first|refine aa ?_ ?_<;>intro hb<;>try simp only[am]at hb|omega|refine ao ?_|decide|assumption)<;>conv=>whnf))
   refine .weak _ ?_;conv=>whnf
   exact⟨.tup [.agg ((dS fq).map .d),.d (.int .i64 11)],_,aU ⟨be ⟨lr,lr,lr,lr,aI,trivial⟩,lr,trivial⟩,⟨rfl,rfl⟩,rr,trivial⟩
theorem K6 (h:cq)(hk:sd h)(hs:h.legs.length<2^19)(ri:ij)(hr:ri.st.length≤2^40)(v:List UInt8)(hv:v.length≤2^40)(ro:ij)(ho:ro.st.length≤2^40):
 ae Tryz.prog 207 [.agg ((dS h).map .d),.fn 208 [.ptr 1000002 0,.ptr 1000003 0,.ptr 1000004 0]] [(1000002,B4 ri),(1000003,Av v),(1000004,B4 ro)]
  (fun y o=>y= .tup [.agg ((dS (gP h (ng h ri v ro))).map .d),.d (.int .i64 (dK h (ng h ri v ro)))]∧o= [(1000002,B4 ri),(1000003,Av v),(1000004,B4 ro)]):=by
 have hH:sd (ng h ri v ro):=⟨hk.1,hk.2.1,by show(ct h.legs ri++ [_]).length≤_;rw[List.length_append,cU,List.length_singleton];omega,fun x hx=>by
  rcases List.mem_append.1 hx with q|q
  · exact qk hk.2.2.2 hr x q
  · rw[List.mem_singleton]at q;subst q;exact⟨hv,ho,by simp[r8]⟩⟩
 have hl:=hk.2.2.1;generalize hHe:ng h ri v ro=H at hH ⊢
 by_cases q:fx h=true
 · have e1:dK h H=aT H:=if_neg (by rw[q];decide);have e2:gP h H=if aT H=0 then H else fq:=by unfold gP;rw[e1]
   rw[e1,e2];have c1:=AM h (by omega);rw[q]at c1;have hn:=qe q;have c2:=E9 H hH.k;generalize aT H=E at c2 ⊢;generalize hR:(if E=0 then H else fq)=R at c2 ⊢;subst hHe;refine aj hT Tryz.func207 Tryz.call207 ?_;conv=>whnf
   repeat' (first|(refine ab (c1) rfl rfl ?_;rotate_right;conv=>whnf)|((first|(refine bP (FI h.legs hn (by omega)) [(7,20)] ?_)|(refine bP (MD h hn (by omega) ri ro v) [(1000001,2),(1000002,1000002),(1000003,1000003),(1000004,1000004),(1000005,20),(28,40)] ?_)|(refine dP.freeze _ _ _ _ 40 178 9 _ _ rfl rfl ?_;refine ap c2 ⟨be ⟨lr,lr,lr,lr,lr,trivial⟩,trivial⟩ rfl ?_)|refine aa ?_ ?_<;>intro hb<;>try simp only[am]at hb|omega|refine ao ?_|decide|assumption)<;>conv=>whnf))
   refine .ret _ ?_;conv=>whnf
   exact⟨_,⟨rfl,rfl⟩,rr,rr,rr,trivial⟩
 · have e1:dK h H=11:=if_pos (by simpa using q);have e2:gP h H=fq:=by unfold gP;rw[e1];rfl
   rw[e1,e2];have c1:=AM h (by omega);rw[show fx h=false by simpa using q]at c1;refine aj hT Tryz.func207 Tryz.call207 ?_;conv=>whnf
   repeat' (first|(refine ab (c1) rfl rfl ?_;rotate_right;conv=>whnf)|((first|refine aa ?_ ?_<;>intro hb<;>try simp only[am]at hb|omega|refine ao ?_|decide|assumption)<;>conv=>whnf))
   refine .weak _ ?_;conv=>whnf
   exact⟨.tup [.agg ((dS fq).map .d),.d (.int .i64 11)],_,aU ⟨be ⟨lr,lr,lr,lr,aI,trivial⟩,lr,trivial⟩,⟨rfl,rfl⟩,rr,rr,rr,trivial⟩
theorem MT (h:cq)(hk:sd h)(to:Int):ae Tryz.prog 156 [.agg ((dS h).map .d),.d (.int .i64 to)] [] (fun y o=>y= .tup [.agg ((dS (gP h (sO h to))).map .d),.d (.int .i64 (dK h (sO h to)))]∧o= []):=by
 refine aj hT Tryz.func156 Tryz.call156 ?_;conv=>whnf
 repeat' ((first|(refine bP (K8 h hk to) [(1000002,3)] ?_)|refine aa ?_ ?_<;>intro hb<;>try simp only[am]at hb|omega|refine ao ?_|decide|assumption)<;>conv=>whnf)
 refine .ret _ ?_;conv=>whnf
 exact⟨[],⟨rfl,rfl⟩,trivial⟩
theorem MU (h:cq)(hk:sd h)(ri:ij)(hr:ri.st.length≤2^40):ae Tryz.prog 157 [.agg ((dS h).map .d),.agg ((EZ ri).map .d)] [] (fun y o=>y= .tup [.agg ((dS (gP h (q8 h ri))).map .d),.d (.int .i64 (dK h (q8 h ri)))]∧o= []):=by
 refine aj hT Tryz.func157 Tryz.call157 ?_;conv=>whnf
 repeat' ((first|(refine bP (KM h hk ri hr) [(1000002,3)] ?_)|refine aa ?_ ?_<;>intro hb<;>try simp only[am]at hb|omega|refine ao ?_|decide|assumption)<;>conv=>whnf)
 refine .ret _ ?_;conv=>whnf
 exact⟨[],⟨rfl,rfl⟩,trivial⟩
theorem MI (h:cq)(hk:sd h)(hs:h.legs.length<2^19)(ri:ij)(hr:ri.st.length≤2^40)(v:List UInt8)(hv:v.length≤2^40)(ro:ij)(ho:ro.st.length≤2^40):
 ae Tryz.prog 155 [.agg ((dS h).map .d),.agg ((EZ ri).map .d),.d (.str v),.agg ((EZ ro).map .d)] [] (fun y o=>y= .tup [.agg ((dS (gP h (ng h ri v ro))).map .d),.d (.int .i64 (dK h (ng h ri v ro)))]∧o= []):=by
 refine aj hT Tryz.func155 Tryz.call155 ?_;conv=>whnf
 repeat' ((first|(refine bP (K6 h hk hs ri hr v hv ro ho) [(1000002,5),(1000003,6),(1000004,7)] ?_)|refine aa ?_ ?_<;>intro hb<;>try simp only[am]at hb|omega|refine ao ?_|decide|assumption)<;>conv=>whnf)
 refine .ret _ ?_;conv=>whnf
 exact⟨[],⟨rfl,rfl⟩,trivial⟩
theorem NK (key drv:List UInt8)(a b:Int)(v:List UInt8)(o:ij)(h1:key.length≤2^40)(h2:drv.length≤2^40)(h3:v.length≤2^40)(h4:o.st.length≤2^40):
 ae Tryz.prog 152 [.d (.str key),.d (.str drv),.agg [.d (.int .i64 a),.d (.int .i64 b)],.d (.str v),.agg ((EZ o).map .d)] [] (fun y r=>y= .tup [.agg ((dS (if aT (dG key drv a b v o)=0 then dG key drv a b v o else fq)).map .d),.d (.int .i64 (aT (dG key drv a b v o)))]∧r= []):=by
 have c1:=E9 (dG key drv a b v o) ⟨h1,h2,by simp[dG],fun x hx=>by simp[dG]at hx;subst hx;exact⟨h3,h4,by simp[r8]⟩⟩;generalize aT (dG key drv a b v o)=E at c1 ⊢;generalize hH:(if E=0 then dG key drv a b v o else fq)=H at c1 ⊢;refine aj hT Tryz.func152 Tryz.call152 ?_;conv=>whnf
 repeat' ((first|refine ap c1 ⟨be ⟨lr,lr,lr,lr,ai rfl rfl,trivial⟩,trivial⟩ rfl ?_|refine aa ?_ ?_<;>intro hb<;>try simp only[am]at hb|omega|refine ao ?_|decide|assumption)<;>conv=>whnf)
 refine .ret _ ?_;conv=>whnf
 exact⟨[],⟨rfl,rfl⟩,trivial⟩
def GC:TL:= [(4,[(0,[]),(1,[]),(2,[]),(3,[]),(4,rg 4),(5,rg 4),(6,[]),(7,[]),(8,[]),(9,[8]),(10,rg 10),(11,[9]),(12,[])]),(5,[(0,[]),(1,[]),(2,[]),(3,[]),(4,rg 4),(5,rg 4),(6,[]),(7,[]),(8,[]),(9,[8]),(10,rg 10),(11,[9]),(12,[])]),(6,[(0,[]),(1,[]),(2,[]),(3,[]),(4,[]),(5,[]),(6,rg 6),(7,rg 6),(8,[]),(9,[]),(10,[])]),(12,[(0,[]),(1,[]),(2,[]),(3,[]),(4,rg 4),(5,rg 4),(6,rg 6),(7,[])])]
theorem OO (h:df)(hc:h.flt.cls.length≤2^40)(o:fJ)(b:oR)(h1:b.key.length≤2^40)(h2:b.cls.length≤2^40)(hf:Gq o.bks.has):
 ae Tryz.prog 99 [.ptr 1000001 0,.agg ((ez b).map .d)] (uz h o) (fun y r=>y= .d (.int .i64 (ga h o b))∧r=uz h (if ga h o b=0 then{o with bks:=o.bks.put b.key b}else o)):=by
 have c1:=NU b h1 h2;generalize hC:mf b=C at c1;have hcn:∀clock kb,KB [.str] (fun K=>o.bks.has (cf K)) clock kb→kb.length<500:=fun clock kb hk=>hf.kb hk
 rcases hv:o.his.val b.key with _|g
 all_goals
  refine aj hT Tryz.func99 Tryz.call99 ?_;conv=>whnf
  repeat' (first|(intro clock kb hKB;have hk5:=hcn clock kb hKB;have hk6:¬ (500:Int)≤(kb.length:Int):=(by omega);conv=>whnf)|((first|refine sn.unc (id:=12) 1000006 rfl ?_|refine ab c1 rfl rfl ?_)<;>conv=>whnf)|(refine ab (Lb h.flt.cls hc b.cls) rfl rfl ?_;rotate_right;conv=>whnf)|((first|(refine And.intro (rfl:bt _=some (cQ none)) ?_;refine cm (row':=cQ none) (congrArg cQ hv) ?_)|(refine And.intro (rfl:bt _=some (cQ none)) ?_;refine cm (row':=dS g) (congrArg cQ hv) ?_)|refine And.intro (rfl:bt _=some (ez fG)) ?_|refine aa ?_ ?_<;>intro hb<;>try simp only[am]at hb|refine bg hT GC ?_|omega|refine ao ?_|decide|assumption)<;>conv=>whnf))
  all_goals (try simp only[cf]at*)
  all_goals first
   | (have hS:(if ga h o b=0 then{o with bks:=o.bks.put b.key b}else o)=o:=by
       clear c1 hcn hf;unfold ga kX;rw[hC];first|(simp_all;done)|grind
      rw[hS];refine .ret _ ?_;conv=>whnf
      refine⟨_,⟨?_,rfl⟩,rr,rr,(by first|exact rr|exact fI fun _ _=>⟨rfl,rfl⟩),rr,rr,trivial⟩;conv=>lhs;whnf
      congr 2
      clear c1 hcn hf;unfold ga kX;rw[hC]
      first|(simp_all;done)|grind)
   | (have hz:ga h o b=0:=by
       clear c1 hcn hf;unfold ga kX;rw[hC];first|(simp_all;done)|grind
      rw[hz,if_pos rfl];refine .ret _ ?_;conv=>whnf
      exact⟨_,⟨rfl,rfl⟩,rr,rr,eQ,rr,rr,trivial⟩)
def vM:TL:= [(1,[(0,[]),(1,[]),(2,[]),(3,[0,1,2]),(4,[0,1,2]),(5,[0,1,2]),(6,rg 6),(7,rg 7),(8,rg 7),(9,rg 7),(10,rg 6),(11,rg 11),(12,rg 11),(13,rg 11),(14,rg 14),(15,rg 15),(16,rg 15),(17,rg 15),(18,rg 18),(19,rg 18),(20,rg 18),(21,rg 21),(22,rg 21),(23,rg 21),(24,rg 14),(29,rg 25),(25,[29]),(26,[29]),(27,[29]),(28,[29,27]),(30,[28]),(31,[])]),(4,[(0,[]),(1,[]),(2,[]),(3,[]),(4,rg 4),(5,rg 4),(6,[]),(7,[]),(8,[]),(9,[8]),(10,rg 10),(11,[9]),(12,[])]),(8,[(0,[]),(1,[0]),(2,[0,1]),(3,[0,1,2]),(4,[0,1,2]),(5,[0,1,2]),(6,rg 6),(7,rg 6),(8,rg 6),(9,[]),(10,[])]),(14,[(0,[]),(1,[]),(2,[]),(3,[]),(4,rg 4),(5,rg 4),(6,rg 6),(7,[])]),(15,[(0,[]),(1,[]),(2,[]),(3,[]),(4,rg 4),(5,rg 4),(6,[])])]
def dU (at0:Int)(w:List (List UInt8))(n:List Int):cq:=dG (w.getD 0 []) (w.getD 1 []) at0 (n.getD 2 0) (w.getD 3 []) ⟨at0,w.getD 4 [],n.getD 5 0,n.getD 6 0⟩
def Hz (vm:Mp (List UInt8))(sm:Mp Bool)(o:fJ)(g:cq)(st ve:List UInt8):Int:=if aT g≠0 then aT g else if o.his.has g.key=true then 6 else eG vm sm o.log 0 g [] st ve
def JM (vm:Mp (List UInt8))(sm:Mp Bool)(o:fJ)(g:cq)(st ve:List UInt8):fJ:=if Hz vm sm o g st ve=0 then{o with log:=iq vm sm o.log 0 g [] st ve,his:=o.his.put g.key (some g),bks:=o.bks.del g.key fG}else o
theorem Nd (h:df)(hv:h.flt.veh.length≤2^40)(hs:h.flt.sta.length≤2^40)(o:fJ)(hl:o.log.length≤2^18)(ha:me o.log)(at0:Int)(hat: -2^60≤at0∧at0≤2^60)(w:List (List UInt8))(n:List Int)(hw:w.length=7)(hn:n.length=7)(h3:∀j,(w.getD j []).length≤2^40)(hf:Gq o.his.has):
 ae Tryz.prog 100 [.ptr 1000001 0,.d (.int .i64 at0),.d (bU w),.d (cz n)] (uz h o) (fun y r=>y= .d (.int .i64 (Hz (b8 h.flt.veh) (bV h.flt.sta) o (dU at0 w n) (w.getD 4 []) (w.getD 3 [])))∧r=iP h (JM (b8 h.flt.veh) (bV h.flt.sta) o (dU at0 w n) (w.getD 4 []) (w.getD 3 []))):=by
 have hcn:∀clock kb,KB [.str] (fun K=>o.his.has (cf K)) clock kb→kb.length<500:=fun clock kb hk=>hf.kb hk
 have c1:=NK (w.getD 0 []) (w.getD 1 []) at0 (n.getD 2 0) (w.getD 3 []) ⟨at0,w.getD 4 [],n.getD 5 0,n.getD 6 0⟩ (h3 0) (h3 1) (h3 3) (h3 4)
 change ae _ _ _ _ (fun y r=>y= .tup [.agg ((dS (if aT (dU at0 w n)=0 then dU at0 w n else fq)).map .d),.d (.int .i64 (aT (dU at0 w n)))]∧r= [])at c1
 have hle:(dU at0 w n).legs.length≤2^10:=by simp[dU,dG]
 have hev:ef (dU at0 w n).legs= [Bv ⟨w.getD 3 [],⟨at0,w.getD 4 [],n.getD 5 0,n.getD 6 0⟩,r8⟩]:=by simp[dU,dG,ef,iM,r8]
 have htm:∀x ∈ (dU at0 w n).legs,(-2^60≤x.out.tm∧x.out.tm≤2^60)∧(-2^60≤x.inn.tm∧x.inn.tm≤2^60):=fun x hx=>by
  have:x=⟨w.getD 3 [],⟨at0,w.getD 4 [],n.getD 5 0,n.getD 6 0⟩,r8⟩:=by simpa [dU,dG]using hx
  rw[this];exact⟨hat,by simp[r8]⟩
 have hz1:∀a ∈ ef (dU at0 w n).legs,∀b ∈ ef (dU at0 w n).legs,aX a b=0→a=b:=fun a ha b hb _=>by
  rw[hev]at ha hb;rw[List.mem_singleton.1 ha,List.mem_singleton.1 hb]
 have hz2:∀a ∈ sH [] (cK (dU at0 w n)),∀b ∈ sH [] (cK (dU at0 w n)),xn a b=0→a=b:=fun a ha b hb _=>by
  have ha:=(aK aX _).mem_iff.1 (List.mem_filter.1 ha).1;have hb:=(aK aX _).mem_iff.1 (List.mem_filter.1 hb).1;rw[hev]at ha hb;rw[List.mem_singleton.1 ha,List.mem_singleton.1 hb]
 have c2:=Km h hv hs o hl ha (dU at0 w n) hle htm hz1 [] (by simp) hz2 (w.getD 4 []) (w.getD 3 []);have c4:=KI o.log (by omega);clear htm hz1 hz2 hev;obtain⟨vm,hvm⟩:∃vm,b8 h.flt.veh=vm:=⟨_,rfl⟩;obtain⟨sm,hsm⟩:∃sm,bV h.flt.sta=sm:=⟨_,rfl⟩;rw[hvm,hsm]at c2 ⊢;have hS:JM vm sm o (dU at0 w n) (w.getD 4 []) (w.getD 3 [])=if Hz vm sm o (dU at0 w n) (w.getD 4 []) (w.getD 3 [])=0 then{o with log:=iq vm sm o.log 0 (dU at0 w n) [] (w.getD 4 []) (w.getD 3 []),his:=o.his.put (dU at0 w n).key (some (dU at0 w n)),bks:=o.bks.del (dU at0 w n).key fG}else o:=rfl;have hE:Hz vm sm o (dU at0 w n) (w.getD 4 []) (w.getD 3 [])=if aT (dU at0 w n)≠0 then aT (dU at0 w n)else if o.his.has (dU at0 w n).key=true then 6 else eG vm sm o.log 0 (dU at0 w n) [] (w.getD 4 []) (w.getD 3 []):=rfl;have hL:eG vm sm o.log 0 (dU at0 w n) [] (w.getD 4 []) (w.getD 3 [])≠0→iq vm sm o.log 0 (dU at0 w n) [] (w.getD 4 []) (w.getD 3 [])=o.log:=fun z=>if_neg z
 generalize JM vm sm o (dU at0 w n) (w.getD 4 []) (w.getD 3 [])=RS at hS ⊢;generalize Hz vm sm o (dU at0 w n) (w.getD 4 []) (w.getD 3 [])=RE at hE hS ⊢;generalize eG vm sm o.log 0 (dU at0 w n) [] (w.getD 4 []) (w.getD 3 [])=E2 at c2 hE hL;generalize iq vm sm o.log 0 (dU at0 w n) [] (w.getD 4 []) (w.getD 3 [])=L2 at c2 hS hL;generalize dU at0 w n=G at c1 c2 hS hE hle
 by_cases q:aT G=0
 · rw[if_pos q,q]at c1;rw[q,if_neg (show ¬ ((0:Int)≠0)from fun c=>c rfl)]at hE;rcases hvv:o.his.val G.key with _|g
   all_goals
    refine aj hT Tryz.func100 Tryz.call100 ?_;conv=>whnf
    repeat' (first|((first|refine ab c1 rfl rfl ?_|(refine And.intro (rfl:bt _=some (cQ none)) ?_;refine cm (row':=cQ none) (congrArg cQ hvv) ?_)|(refine And.intro (rfl:bt _=some (cQ none)) ?_;refine cm (row':=dS g) (congrArg cQ hvv) ?_)|(refine bP c4 [(7,90),(1000001,1000005)] ?_)|(refine dP.of c2 [(1000001,1000001),(1000005,1000005),(1000006,1000006),(1000007,1000007),(1000008,1000008),(50,91)] rfl ⟨lr,lr,lr,aI,lr,lr,trivial⟩ ⟨rr,rr,rr,rr,rr,trivial⟩ rfl rfl ?_;rintro u rout ⟨rfl,rfl⟩;refine⟨rfl,?_⟩))<;>conv=>whnf)|(intro clock kb hKB;have hk5:=hcn clock kb hKB;have hk6:¬ (500:Int)≤(kb.length:Int):=(by omega);conv=>whnf)|((first|refine sn.unc (id:=14) 1000007 rfl ?_|refine aa ?_ ?_<;>intro hb<;>try simp only[am]at hb|refine bg hT vM ?_|omega|refine ao ?_|decide|assumption)<;>conv=>whnf))
   all_goals (try simp only[cf]at*)
   all_goals first
    | (have hh:o.his.has G.key=true:=by assumption
       rw[if_pos hh]at hE;rw[hE,if_neg (show ¬ ((6:Int)=0)by decide)]at hS;rw[hS,hE];refine .ent _ _ (ac (ts:= [(8,.d (.int .i64 6))]) (rs:=iP h o) wu rfl rfl ⟨lr,trivial⟩ ⟨rr,rr,rr,rr,rr,trivial⟩) ?_;refine .ret _ ?_;conv=>whnf
       exact⟨_,⟨rfl,rfl⟩,rr,rr,rr,rr,rr,trivial⟩)
    | (have hh:o.his.has G.key=false:=by assumption
       have z:E2=0:=by assumption
       subst z;rw[hh,if_neg (show ¬ (false=true)by decide)]at hE;rw[hE,if_pos (rfl:(0:Int)=0)]at hS;rw[hS,hE];refine .ent _ _ (ac (ts:= [(8,.d (.int .i64 0))]) (rs:=iP h {o with log:=L2,his:=o.his.put G.key (some G),bks:=o.bks.del G.key fG}) [(1000001,1000001),(50,91),(1000006,1000006),(1000007,1000007),(1000008,1000008)] rfl rfl ⟨lr,trivial⟩ ⟨rr,rr,qu,eQ (v:=some G),rr,trivial⟩) ?_;refine .ret _ ?_;conv=>whnf
       exact⟨_,⟨rfl,rfl⟩,rr,rr,rr,rr,rr,trivial⟩)
    | (have hh:o.his.has G.key=false:=by assumption
       have z:¬E2=0:=by assumption
       obtain rfl:=hL z;rw[hh,if_neg (show ¬ (false=true)by decide)]at hE;rw[hE,if_neg z]at hS;rw[hS,hE];refine .ent _ _ (ac (ts:= [(8,.d (.int .i64 E2))]) (rs:=iP h o) [(1000001,1000001),(50,91),(1000006,1000006),(1000007,1000007),(1000008,1000008)] rfl rfl ⟨lr,trivial⟩ ⟨rr,rr,rr,rr,rr,trivial⟩) ?_;refine .ret _ ?_;conv=>whnf
       exact⟨_,⟨rfl,rfl⟩,rr,rr,rr,rr,rr,trivial⟩)
 · rw[if_neg q]at c1;rw[if_pos q]at hE;rw[hE,if_neg q]at hS;rw[hS,hE];generalize aT G=E at c1 q;refine aj hT Tryz.func100 Tryz.call100 ?_;conv=>whnf
   repeat' ((first|refine ab c1 rfl rfl ?_|refine aa ?_ ?_<;>intro hb<;>try simp only[am]at hb|refine bg hT vM ?_|omega|refine ao ?_|decide|assumption)<;>conv=>whnf)
   all_goals first
    |(exfalso;omega)
    |skip
   refine .ent _ _ (ac (ts:= [(8,.d (.int .i64 E))]) (rs:=iP h o) wu rfl rfl ⟨lr,trivial⟩ ⟨rr,rr,rr,rr,rr,trivial⟩) ?_;refine .ret _ ?_;conv=>whnf
   exact⟨_,⟨rfl,rfl⟩,rr,rr,rr,rr,rr,trivial⟩
theorem zy {l:List na}{x:aS}(h:x ∈ ef l):∃i,i<l.length∧(x=Bv (l.getD i cr)∨((l.getD i cr).inn.tm≠-1∧x=I5 (l.getD i cr))):=by
 obtain⟨y,hy,h⟩:=List.mem_flatMap.1 h;obtain⟨i,hi,rfl⟩:=bI (d:=cr) hy;refine⟨i,hi,?_⟩;unfold iM at h;rcases List.mem_cons.1 h with q|q
 · exact .inl q
 · split at q
   · cases q
   · rename_i r;exact .inr ⟨r,List.mem_singleton.1 q⟩
theorem lU {g:cq}(h:aT g=0):∀a ∈ ef g.legs,∀b ∈ ef g.legs,aX a b=0→a=b:=by
 obtain⟨_,p2⟩:=gk h;have hm:=xl h;have ho:∀i,i<g.legs.length→(g.legs.getD i cr).inn.tm≠-1→(g.legs.getD i cr).out.tm<(g.legs.getD i cr).inn.tm:=fun i hi q=>(iW (p2 i hi)).2 q
 have hc:∀i j,i<j→j<g.legs.length→(g.legs.getD i cr).inn.tm≠-1:=fun i j hij hj=>lw h (by omega) rfl (by omega)
 intro a ha b hb e;obtain⟨e1,e2⟩:=m6 e;obtain⟨i,hi,ka⟩:=zy ha;obtain⟨j,hj,kb⟩:=zy hb;rcases Nat.lt_trichotomy i j with q|q|q
 · exfalso;have m:=hm j hj i (by omega);have m2:=m.2 q;have o1:=ho i hi (hc i j q hj);rcases ka with rfl|⟨ka,rfl⟩<;>rcases kb with rfl|⟨kb,rfl⟩
   · have e1:(g.legs.getD i cr).out.tm=(g.legs.getD j cr).out.tm:=e1;omega
   · have e1:(g.legs.getD i cr).out.tm=(g.legs.getD j cr).inn.tm:=e1;have:=ho j hj kb;omega
   · have e1:(g.legs.getD i cr).inn.tm=(g.legs.getD j cr).out.tm:=e1;have e2:(g.legs.getD i cr).veh=(g.legs.getD j cr).veh:=e2
     by_cases r:j=i+1
     · subst r;have:=(iW (p2 (i+1) hj)).1 (by omega);rw[Nat.add_sub_cancel]at this;exact this.2 e2.symm
     · have m3:=(hm (i+1) (by omega) i (by omega)).2 (by omega);have o3:=ho (i+1) (by omega) (hc (i+1) j (by omega) hj);have m4:=(hm j hj (i+1) (by omega)).2 (by omega);omega
   · have e1:(g.legs.getD i cr).inn.tm=(g.legs.getD j cr).inn.tm:=e1;have:=ho j hj kb;omega
 · subst q;rcases ka with rfl|⟨ka,rfl⟩<;>rcases kb with rfl|⟨kb,rfl⟩
   · rfl
   · exfalso;have e1:(g.legs.getD i cr).out.tm=(g.legs.getD i cr).inn.tm:=e1;have:=ho i hi kb;omega
   · exfalso;have e1:(g.legs.getD i cr).inn.tm=(g.legs.getD i cr).out.tm:=e1;have:=ho i hi ka;omega
   · rfl
 · exfalso;have m:=hm i hi j (by omega);have m2:=m.2 q;have o1:=ho j hj (hc j i q hi);rcases ka with rfl|⟨ka,rfl⟩<;>rcases kb with rfl|⟨kb,rfl⟩
   · have e1:(g.legs.getD i cr).out.tm=(g.legs.getD j cr).out.tm:=e1;omega
   · have e1:(g.legs.getD i cr).out.tm=(g.legs.getD j cr).inn.tm:=e1;have e2:(g.legs.getD i cr).veh=(g.legs.getD j cr).veh:=e2
     by_cases r:i=j+1
     · subst r;have:=(iW (p2 (j+1) hi)).1 (by omega);rw[Nat.add_sub_cancel]at this;exact this.2 e2
     · have m3:=(hm (j+1) (by omega) j (by omega)).2 (by omega);have o3:=ho (j+1) (by omega) (hc (j+1) i (by omega) hi);have m4:=(hm i hi (j+1) (by omega)).2 (by omega);omega
   · have e1:(g.legs.getD i cr).inn.tm=(g.legs.getD j cr).out.tm:=e1;have:=ho i hi ka;omega
   · have e1:(g.legs.getD i cr).inn.tm=(g.legs.getD j cr).inn.tm:=e1;have:=ho i hi ka;omega
theorem uL {g:cq}(h:aT g=0):∀x ∈ g.legs,(-2^60≤x.out.tm∧x.out.tm≤2^60)∧(-2^60≤x.inn.tm∧x.inn.tm≤2^60):=fun x hx=>by
 obtain⟨_,p2⟩:=gk h;obtain⟨i,hi,rfl⟩:=bI (d:=cr) hx;have e:=p2 i hi;unfold iQ at e;generalize g.legs.getD i cr=x at e ⊢
 have hr:∀r:ij,iy r=0→-2^60≤r.tm∧r.tm≤2^60:=fun r q=>by
  unfold iy at q
  by_cases c:0≤r.tm∧r.tm≤5761439
  · omega
  · rw[if_pos c]at q;exact absurd q (by decide)
 by_cases c1:aN x.veh=false
 · rw[if_pos c1]at e;exact absurd e (by decide)
 rw[if_neg c1]at e
 by_cases c2:iy x.out≠0
 · rw[if_pos c2]at e;exact absurd e c2
 have c2:iy x.out=0:=by simpa using c2
 refine⟨hr _ c2,?_⟩
 by_cases c7:x.inn.tm= -1
 · omega
 by_cases c8:iy x.inn=0
 · exact hr _ c8
 · exfalso;rw[if_neg (fun c=>c c2)]at e;rw[if_neg c7,if_pos c8]at e;grind
def ou:TL:= [(1,[(0,[]),(1,[]),(2,[]),(3,[]),(4,rg 4),(5,rg 4),(6,rg 4),(7,[]),(8,[]),(9,[]),(10,[9]),(11,rg 11),(12,[10]),(13,[])]),(11,[(0,[]),(1,[]),(2,[]),(3,[0,1,2]),(4,[0,1,2]),(5,[0,1,2]),(6,[3,4,5]),(7,[])]),(12,[(0,[]),(1,[0]),(2,[0,1]),(3,[0,1]),(4,[0,1]),(5,rg 5),(6,rg 5),(7,rg 5),(8,rg 8),(9,rg 8),(10,rg 8),(11,[0]),(12,rg 12),(13,rg 12),(14,rg 12),(15,rg 15),(16,rg 16),(17,rg 16),(18,rg 16),(19,rg 19),(20,rg 19),(21,rg 19),(22,rg 22),(23,rg 22),(24,rg 22),(25,rg 15),(26,[]),(27,[]),(28,[]),(29,[28]),(30,[29]),(31,[])]),(14,[(0,[]),(1,[0]),(2,[0]),(3,[0]),(4,[]),(5,[]),(6,[]),(7,[6]),(8,[7]),(9,[])]),(9,[(0,[]),(1,[0]),(2,[0,1]),(3,[0,1]),(4,[0,1]),(5,rg 5),(6,rg 5),(7,rg 5),(8,rg 8),(9,rg 8),(10,rg 8),(11,[0]),(12,[]),(13,[]),(14,[]),(15,[14]),(16,[15]),(17,[])]),(15,[(0,[]),(1,[0]),(2,[0,1]),(3,[0,1,2]),(5,rg 4),(6,[0,1,2,3,5]),(4,[0,1,2,5,6]),(7,[]),(8,[])]),(18,[(0,[]),(1,[]),(2,[]),(3,[]),(4,rg 4),(5,rg 4),(6,rg 4),(7,rg 7),(8,[])])]
def Cc (vm:Mp (List UInt8))(sm:Mp Bool)(o:fJ)(g next:cq)(st ve:List UInt8):Int:=eG vm sm o.log (dK g next) next (cK g) st ve
def Gh (vm:Mp (List UInt8))(sm:Mp Bool)(o:fJ)(key:List UInt8)(g next:cq)(st ve:List UInt8):fJ:=if Cc vm sm o g next st ve=0 then{o with log:=iq vm sm o.log (dK g next) next (cK g) st ve,his:=o.his.put key (some next)}else o
theorem vh {old new L:List aS}(h:B3 old new=L)(hz:∀a ∈ L,∀b ∈ L,xn a b=0→a=b):∀a ∈ sH old new,∀b ∈ sH old new,xn a b=0→a=b:=fun a ha b hb=>by
 subst h;exact hz a ((aK xn _).mem_iff.2 ha) b ((aK xn _).mem_iff.2 hb)
theorem DO {g:cq}(h:aT g=0):(cK g).length≤2^40:=by
 unfold cK;rw[(aK aX _).length_eq];have:=ls g.legs;have:=(e6 h).2.2.1;omega
theorem CU (h:df)(o:fJ)(at0:Int)(word:List UInt8)(w:List (List UInt8))(n:List Int)(hw:1≤w.length)(hh:o.his.has (w.getD 0 [])=false)(hvv:o.his.val (w.getD 0 [])=none):
 ae Tryz.prog 102 [.ptr 1000001 0,.d (.int .i64 at0),.d (.str word),.d (bU w),.d (cz n)] (uz h o) (fun y r=>y= .d (.int .i64 8)∧r=iP h o):=by
 refine aj hT Tryz.func102 Tryz.call102 ?_;conv=>whnf
 repeat' ((first|(refine And.intro (rfl:bt _=some (cQ none)) ?_;refine cm (row':=cQ none) (congrArg cQ hvv) ?_)|refine aa ?_ ?_<;>intro hb<;>try simp only[am]at hb|refine bg hT ou ?_|omega|refine ao ?_|decide|assumption)<;>conv=>whnf)
 all_goals (try simp only[cf]at*)
 all_goals first
  | (exfalso
     have hb:o.his.has (w.getD 0 [])=true:=by assumption
     rw[hh]at hb;cases hb)
  |skip
 refine .ent _ _ (ac (ts:= [(10,.d (.int .i64 8))]) (rs:=iP h o) wu rfl rfl ⟨lr,trivial⟩ ⟨rr,rr,rr,rr,rr,trivial⟩) ?_;refine .ret _ ?_;conv=>whnf
 exact⟨_,⟨rfl,rfl⟩,rr,rr,rr,rr,rr,trivial⟩
theorem uk (h:df)(hv:h.flt.veh.length≤2^40)(hs:h.flt.sta.length≤2^40)(o:fJ)(hl:o.log.length≤2^18)(ha:me o.log)(key:List UInt8){g:cq}(hg:aT g=0)(N:cq)(st ve:List UInt8)(hz2:fx g=true→aT N=0→∀a ∈ sH (cK g) (cK N),∀b ∈ sH (cK g) (cK N),xn a b=0→a=b):
 ∃ (E2:Int) (L2:List aS),ae Tryz.prog 154 [.ptr 1000001 0,.agg ((dS (gP g N)).map .d),.d (.int .i64 (dK g N)),.d (ic (cK g)),.d (.str st),.d (.str ve)] (uz h o) (fun y r=>y= .d (.int .i64 E2)∧r=iP h {o with log:=L2})∧
  Cc (b8 h.flt.veh) (bV h.flt.sta) o g N st ve=E2∧Gh (b8 h.flt.veh) (bV h.flt.sta) o key g N st ve=(if E2=0 then{o with log:=L2,his:=o.his.put key (some (gP g N))}else o)∧(E2≠0→L2=o.log):=by
 by_cases q:dK g N=0
 · have q1:fx g=true:=by
    cases r:fx g with
    |true=>rfl
    |false=>exfalso;unfold dK at q;rw[if_pos r]at q;exact absurd q (by decide)
   have q2:aT N=0:=by
    unfold dK at q;rw[if_neg (by rw[q1];decide)]at q;exact q
   have c2:=Km h hv hs o hl ha N (by have:=(e6 q2).2.2.1;omega) (uL q2) (lU q2) (cK g) (DO hg) (hz2 q1 q2) st ve;rw[show gP g N=N from if_pos q,q];refine⟨_,_,c2,by unfold Cc;rw[q],?_,fun z=>if_neg z⟩;unfold Gh Cc;rw[q]
 · have e:Cc (b8 h.flt.veh) (bV h.flt.sta) o g N st ve=dK g N:=vN q;rw[show gP g N=fq from if_neg q];refine⟨_,_,KT h o fq (dK g N) q (cK g) st ve,e,?_,fun _=>rfl⟩;unfold Gh;rw[e,if_neg q,if_neg q]
theorem J3 (h:df)(hv:h.flt.veh.length≤2^40)(hs:h.flt.sta.length≤2^40)(o:fJ)(hl:o.log.length≤2^18)(ha:me o.log)(at0:Int)(hat:at0≠-1)(w:List (List UInt8))(n:List Int)(hw:w.length=7)(hn:n.length=7)(h3:∀j,(w.getD j []).length≤2^40)
 (g:cq)(hh:o.his.has (w.getD 0 [])=true)(hvv:o.his.val (w.getD 0 [])=some g)(hg:aT g=0)(N:cq)(hN:N=ng g ⟨at0,w.getD 1 [],n.getD 2 0,n.getD 3 0⟩ (w.getD 4 []) ⟨at0,w.getD 1 [],n.getD 5 0,n.getD 6 0⟩):
 ae Tryz.prog 102 [.ptr 1000001 0,.d (.int .i64 at0),.d (.str [115,119,97,112]),.d (bU w),.d (cz n)] (uz h o) (fun y r=>y= .d (.int .i64 (Cc (b8 h.flt.veh) (bV h.flt.sta) o g N (w.getD 1 []) (w.getD 4 [])))∧r=iP h (Gh (b8 h.flt.veh) (bV h.flt.sta) o (w.getD 0 []) g N (w.getD 1 []) (w.getD 4 []))):=by
 have hk:=(e6 hg).1;have hk20:=(e6 hg).2.2.1;have c5:=MI g hk (by omega) ⟨at0,w.getD 1 [],n.getD 2 0,n.getD 3 0⟩ (h3 1) (w.getD 4 []) (h3 4) ⟨at0,w.getD 1 [],n.getD 5 0,n.getD 6 0⟩ (h3 1);rw[←hN]at c5;have c6:=FW g (by omega) (uL hg) (lU hg)
 obtain⟨E2,L2,c2,e3,e4,hL⟩:=uk h hv hs o hl ha (w.getD 0 []) hg N (w.getD 1 []) (w.getD 4 []) (fun q1 q2=>by subst hN;exact vh (wH (ri:=⟨at0,w.getD 1 [],n.getD 2 0,n.getD 3 0⟩) (ro:=⟨at0,w.getD 1 [],n.getD 5 0,n.getD 6 0⟩) (v:=w.getD 4 []) hg q1 hat rfl q2).1 (fun a ha b hb e=>by
  simp only[List.mem_cons,List.not_mem_nil,or_false]at ha hb;rcases ha with rfl|rfl<;>rcases hb with rfl|rfl
  · rfl
  · exact absurd (show(2:Int)=3 from dw.1 e) (by decide)
  · exact absurd (show(3:Int)=2 from dw.1 e) (by decide)
  · rfl))
 rw[e3,e4];clear e3 e4 hN;generalize gP g N=N2 at c2 c5 ⊢;generalize dK g N=E at c2 c5;generalize cK g=old at c2 c6;refine aj hT Tryz.func102 Tryz.call102 ?_;conv=>whnf
 repeat' ((first|(refine And.intro (rfl:bt _=some (cQ none)) ?_;refine cm (row':=dS g) (congrArg cQ hvv) ?_)|refine ab c5 rfl rfl ?_|refine ab c6 rfl rfl ?_|(refine bP c2 uN ?_)|refine aa ?_ ?_<;>intro hb<;>try simp only[am]at hb|refine bg hT ou ?_|omega|refine ao ?_|decide|assumption)<;>conv=>whnf)
 all_goals (try simp only[cf]at*)
 all_goals first
  | (exfalso
     have hb:o.his.has (w.getD 0 [])=false:=by assumption
     rw[hh]at hb;cases hb)
  | (have z:E2=0:=by assumption
     subst z;rw[if_pos rfl];refine .ent _ _ (ac (ts:= [(10,.d (.int .i64 0))]) (rs:=iP h {o with log:=L2,his:=o.his.put (w.getD 0 []) (some N2)}) B0 rfl rfl ⟨lr,trivial⟩ ⟨rr,rr,rr,eQ (v:=some N2),rr,trivial⟩) ?_;refine .ret _ ?_;conv=>whnf
     exact⟨_,⟨rfl,rfl⟩,rr,rr,rr,rr,rr,trivial⟩)
  | (have z:¬E2=0:=by assumption
     obtain rfl:=hL z;rw[if_neg z];refine .ent _ _ (ac (ts:= [(10,.d (.int .i64 E2))]) (rs:=iP h o) B0 rfl rfl ⟨lr,trivial⟩ ⟨rr,rr,rr,rr,rr,trivial⟩) ?_;refine .ret _ ?_;conv=>whnf
     exact⟨_,⟨rfl,rfl⟩,rr,rr,rr,rr,rr,trivial⟩)
theorem J9 (h:df)(hv:h.flt.veh.length≤2^40)(hs:h.flt.sta.length≤2^40)(o:fJ)(hl:o.log.length≤2^18)(ha:me o.log)(at0:Int)(hat:at0≠-1)(w:List (List UInt8))(n:List Int)(hw:w.length=2)(hn:n.length=2)(h3:∀j,(w.getD j []).length≤2^40)
 (g:cq)(hh:o.his.has (w.getD 0 [])=true)(hvv:o.his.val (w.getD 0 [])=some g)(hg:aT g=0)(N:cq)(hN:N=sO g (n.getD 1 0)):
 ae Tryz.prog 102 [.ptr 1000001 0,.d (.int .i64 at0),.d (.str [101,120,116,101,110,100]),.d (bU w),.d (cz n)] (uz h o) (fun y r=>y= .d (.int .i64 (Cc (b8 h.flt.veh) (bV h.flt.sta) o g N [] []))∧r=iP h (Gh (b8 h.flt.veh) (bV h.flt.sta) o (w.getD 0 []) g N [] [])):=by
 have hk:=(e6 hg).1;have hk20:=(e6 hg).2.2.1;have c5:=MT g hk (n.getD 1 0);rw[←hN]at c5;have c6:=FW g (by omega) (uL hg) (lU hg);obtain⟨E2,L2,c2,e3,e4,hL⟩:=uk h hv hs o hl ha (w.getD 0 []) hg N [] [] (fun q1 q2=>by subst hN;exact vh (Al g (n.getD 1 0)) (fun a ha=>by cases ha));rw[e3,e4];clear e3 e4 hN;generalize gP g N=N2 at c2 c5 ⊢;generalize dK g N=E at c2 c5;generalize cK g=old at c2 c6;refine aj hT Tryz.func102 Tryz.call102 ?_;conv=>whnf
 repeat' ((first|(refine And.intro (rfl:bt _=some (cQ none)) ?_;refine cm (row':=dS g) (congrArg cQ hvv) ?_)|refine ab c5 rfl rfl ?_|refine ab c6 rfl rfl ?_|(refine bP c2 uN ?_)|refine aa ?_ ?_<;>intro hb<;>try simp only[am]at hb|refine bg hT ou ?_|omega|refine ao ?_|decide|assumption)<;>conv=>whnf)
 all_goals (try simp only[cf]at*)
 all_goals first
  | (exfalso
     have hb:o.his.has (w.getD 0 [])=false:=by assumption
     rw[hh]at hb;cases hb)
  | (have z:E2=0:=by assumption
     subst z;rw[if_pos rfl];refine .ent _ _ (ac (ts:= [(10,.d (.int .i64 0))]) (rs:=iP h {o with log:=L2,his:=o.his.put (w.getD 0 []) (some N2)}) B0 rfl rfl ⟨lr,trivial⟩ ⟨rr,rr,rr,eQ (v:=some N2),rr,trivial⟩) ?_;refine .ret _ ?_;conv=>whnf
     exact⟨_,⟨rfl,rfl⟩,rr,rr,rr,rr,rr,trivial⟩)
  | (have z:¬E2=0:=by assumption
     obtain rfl:=hL z;rw[if_neg z];refine .ent _ _ (ac (ts:= [(10,.d (.int .i64 E2))]) (rs:=iP h o) B0 rfl rfl ⟨lr,trivial⟩ ⟨rr,rr,rr,rr,rr,trivial⟩) ?_;refine .ret _ ?_;conv=>whnf
     exact⟨_,⟨rfl,rfl⟩,rr,rr,rr,rr,rr,trivial⟩)
theorem Kz (h:df)(hv:h.flt.veh.length≤2^40)(hs:h.flt.sta.length≤2^40)(o:fJ)(hl:o.log.length≤2^18)(ha:me o.log)(at0:Int)(hat:at0≠-1)(w:List (List UInt8))(n:List Int)(hw:w.length=4)(hn:n.length=4)(h3:∀j,(w.getD j []).length≤2^40)
 (g:cq)(hh:o.his.has (w.getD 0 [])=true)(hvv:o.his.val (w.getD 0 [])=some g)(hg:aT g=0)(N:cq)(hN:N=q8 g ⟨at0,w.getD 1 [],n.getD 2 0,n.getD 3 0⟩):
 ae Tryz.prog 102 [.ptr 1000001 0,.d (.int .i64 at0),.d (.str [99,108,111,115,101]),.d (bU w),.d (cz n)] (uz h o) (fun y r=>y= .d (.int .i64 (Cc (b8 h.flt.veh) (bV h.flt.sta) o g N (w.getD 1 []) []))∧r=iP h (Gh (b8 h.flt.veh) (bV h.flt.sta) o (w.getD 0 []) g N (w.getD 1 []) [])):=by
 have hk:=(e6 hg).1;have hk20:=(e6 hg).2.2.1;have c5:=MU g hk ⟨at0,w.getD 1 [],n.getD 2 0,n.getD 3 0⟩ (h3 1);rw[←hN]at c5;have c6:=FW g (by omega) (uL hg) (lU hg);obtain⟨E2,L2,c2,e3,e4,hL⟩:=uk h hv hs o hl ha (w.getD 0 []) hg N (w.getD 1 []) [] (fun q1 q2=>by subst hN;exact vh (ta hg q1 (by exact hat) q2) (fun a ha b hb e=>by rw[List.mem_singleton.1 ha,List.mem_singleton.1 hb]));rw[e3,e4];clear e3 e4 hN;generalize gP g N=N2 at c2 c5 ⊢;generalize dK g N=E at c2 c5;generalize cK g=old at c2 c6;refine aj hT Tryz.func102 Tryz.call102 ?_;conv=>whnf
 repeat' ((first|(refine And.intro (rfl:bt _=some (cQ none)) ?_;refine cm (row':=dS g) (congrArg cQ hvv) ?_)|refine ab c5 rfl rfl ?_|refine ab c6 rfl rfl ?_|(refine bP c2 uN ?_)|refine aa ?_ ?_<;>intro hb<;>try simp only[am]at hb|refine bg hT ou ?_|omega|refine ao ?_|decide|assumption)<;>conv=>whnf)
 all_goals (try simp only[cf]at*)
 all_goals first
  | (exfalso
     have hb:o.his.has (w.getD 0 [])=false:=by assumption
     rw[hh]at hb;cases hb)
  | (have z:E2=0:=by assumption
     subst z;rw[if_pos rfl];refine .ent _ _ (ac (ts:= [(10,.d (.int .i64 0))]) (rs:=iP h {o with log:=L2,his:=o.his.put (w.getD 0 []) (some N2)}) B0 rfl rfl ⟨lr,trivial⟩ ⟨rr,rr,rr,eQ (v:=some N2),rr,trivial⟩) ?_;refine .ret _ ?_;conv=>whnf
     exact⟨_,⟨rfl,rfl⟩,rr,rr,rr,rr,rr,trivial⟩)
  | (have z:¬E2=0:=by assumption
     obtain rfl:=hL z;rw[if_neg z];refine .ent _ _ (ac (ts:= [(10,.d (.int .i64 E2))]) (rs:=iP h o) B0 rfl rfl ⟨lr,trivial⟩ ⟨rr,rr,rr,rr,rr,trivial⟩) ?_;refine .ret _ ?_;conv=>whnf
     exact⟨_,⟨rfl,rfl⟩,rr,rr,rr,rr,rr,trivial⟩)
theorem Kf (s:List UInt8)(hs:s.length≤2^40):ae Tryz.prog 143 [.d (.str s)] kx (fun x r=>x= .tup [.d (.int .i64 (bif fU s then 0 else aq s)),.d (.bool (fK s))]∧r=kx):=by
 have ht:(Lib.trimPrefix s [45]).length≤2^40:=by
  unfold Lib.trimPrefix;split
  · simp;omega
  · exact hs
 refine aj hT Tryz.func143 Tryz.call143 ?_;conv=>whnf
 repeat' (first|(refine ab (DU s [45]) rfl rfl ?_;rotate_right;conv=>whnf)|(refine ab (GX (Lib.trimPrefix s [45]) BG ht (by decide) (by decide)) rfl rfl ?_;rotate_right;conv=>whnf)|((first|refine aa ?_ ?_<;>intro hb<;>try simp only[am]at hb|omega|refine ao ?_|decide|assumption)<;>conv=>whnf))
 · have hq:fU s=true:=by unfold fU;simp[hb]
   refine .ret _ ?_;conv=>whnf
   refine⟨kx,⟨congrArg SV.tup ?_,rfl⟩,rr,trivial⟩;repeat' (refine dt ?_ ?_)
   all_goals (conv=>lhs;whnf)
   all_goals try(with_reducible rfl)
   · rw[hq];rfl
   · rw[←lz,if_pos hq]
 · have hq:fU s=true:=by
    unfold fU;have:9<(Lib.trimPrefix s [45]).length:=by omega
    simp[this]
   refine .ret _ ?_;conv=>whnf
   refine⟨kx,⟨congrArg SV.tup ?_,rfl⟩,rr,trivial⟩;repeat' (refine dt ?_ ?_)
   all_goals (conv=>lhs;whnf)
   all_goals try(with_reducible rfl)
   · rw[hq];rfl
   · rw[←lz,if_pos hq]
 · have hq:fU s=true:=by unfold fU;simp[hb]
   refine .ret _ ?_;conv=>whnf
   refine⟨kx,⟨congrArg SV.tup ?_,rfl⟩,rr,trivial⟩;repeat' (refine dt ?_ ?_)
   all_goals (conv=>lhs;whnf)
   all_goals try(with_reducible rfl)
   · rw[hq];rfl
   · rw[←lz,if_pos hq]
 rename_i hb1 hb2
 have hq:fU s=false:=by
  unfold fU;have:¬ 9<(Lib.trimPrefix s [45]).length:=by omega
  simp[hb,hb1,this]
 rw[hq];have hk:f8 s=fK s:=by rw[←lz,hq];rfl
 refine dp (Hv s hs) [(1000009,1000009)] ?_;rintro x rout ⟨hx,rfl⟩;unfold tJ at hx
 cases hA:Lib.atoiAll s with
 | ok v=>
   rw[hA]at hx;simp only at hx;subst hx;obtain⟨hv0,hv1⟩:=zE hA;refine⟨rfl,?_⟩;conv=>whnf
   repeat' ((first|refine cy (EK v hv0 hv1) rfl rfl rfl rfl ?_|refine aa ?_ ?_<;>intro hb<;>try simp only[am]at hb|omega|refine ao ?_|decide|assumption)<;>conv=>whnf)
   refine .ret _ ?_;conv=>whnf
   refine⟨kx,⟨congrArg SV.tup ?_,rfl⟩,rr,trivial⟩;repeat' (refine dt ?_ ?_)
   all_goals (conv=>lhs;whnf)
   all_goals try(with_reducible rfl)
   · unfold aq;rw[hA];rfl
   · rw[←hk];unfold f8;rw[hA]
 | range=>
   rw[hA]at hx;simp only at hx;obtain⟨t,p,rfl⟩:=hx;refine⟨rfl,?_⟩;conv=>whnf
   repeat' ((first|refine aa ?_ ?_<;>intro hb<;>try simp only[am]at hb|omega|refine ao ?_|decide|assumption)<;>conv=>whnf)
   refine .ret _ ?_;conv=>whnf
   refine⟨kx,⟨congrArg SV.tup ?_,rfl⟩,rr,trivial⟩;repeat' (refine dt ?_ ?_)
   all_goals (conv=>lhs;whnf)
   all_goals try(with_reducible rfl)
   · unfold aq;rw[hA];rfl
   · rw[←hk];unfold f8;rw[hA]
 | _=>
   rw[hA]at hx;simp only at hx;obtain⟨t,p,rfl⟩:=hx;refine⟨rfl,?_⟩;conv=>whnf
   repeat' ((first|refine aa ?_ ?_<;>intro hb<;>try simp only[am]at hb|omega|refine ao ?_|decide|assumption)<;>conv=>whnf)
   refine .ret _ ?_;conv=>whnf
   refine⟨kx,⟨congrArg SV.tup ?_,rfl⟩,rr,trivial⟩;repeat' (refine dt ?_ ?_)
   all_goals (conv=>lhs;whnf)
   all_goals try(with_reducible rfl)
   · unfold aq;rw[hA];rfl
   · rw[←hk];unfold f8;rw[hA]
end Go.Proofs.YtafhoijegjmdcaaGreatDoor
