/- TopDamagePaid is proved: for every input the law returns true, and its argument reads afterwards as it read before. Conditions: those of the given row alone. -/
import Derived.Test.YtghhghijalcdfaaGreatDoorAdConQua
import Derived.Test.YtghhghijalcdfaaGreatDoorAdConTri
import Derived.Test.YtghhghijalcdfaaGreatDoorAdConTwo
import Derived.Test.YtghhghijalcdfaaGreatDoorAdConOne
import Derived.Test.YtghhghijalcdfaaGreatDoorAdEngTwo
import Derived.Sort.OwnSorted
set_option linter.unusedVariables false
set_option linter.unusedSimpArgs false
set_option maxHeartbeats 16000000
set_option maxRecDepth 20000
namespace Go.Proofs.YtghhghijalcdfaaGreatDoor
open Go Go.Eng
variable (h:Hou) (vm:Mp (List UInt8)) (sm:Mp Bool)
theorem evtS_ref (s:Off)(r:List Rfs)(x:Evn):evtS vm sm {s with ref:=r} x={evtS vm sm s x with ref:=r}:=by
 unfold evtS;rw[show evtE vm sm {s with ref:=r} x=evtE vm sm s x from rfl];split<;>rfl
theorem bookS_ref (s:Off)(r:List Rfs)(b:Bok):bookS h {s with ref:=r} b={bookS h s b with ref:=r}:=by
 unfold bookS;rw[show bookE h {s with ref:=r} b=bookE h s b from rfl];split<;>rfl
theorem payS_ref (s:Off)(r:List Rfs)(k:List UInt8)(c:Int):payS {s with ref:=r} k c={payS s k c with ref:=r}:=by
 unfold payS;rw[show payE {s with ref:=r} k c=payE s k c from rfl];split<;>rfl
theorem stS_ref (s:Off)(r:List Rfs)(a:Int)(t:Tol):stS vm sm {s with ref:=r} a t={stS vm sm s a t with ref:=r}:=by
 unfold stS;rw[show stE vm sm {s with ref:=r} a t=stE vm sm s a t from rfl];split<;>rfl
theorem chS_ref (s:Off)(r:List Rfs)(a:Int)(t:Tol):chS vm sm {s with ref:=r} a t={chS vm sm s a t with ref:=r}:=by
 unfold chS;rw[show chE vm sm {s with ref:=r} a t=chE vm sm s a t from rfl];split
 · dsimp only
   rw[sayL_ref]
 · rfl
theorem folO_ref (s:Off)(r:List Rfs)(x:Ent):folO h vm sm {s with ref:=r} x={folO h vm sm s x with ref:=r}:=by
 unfold folO;split
 · rfl
 split
 · exact evtS_ref vm sm s r _
 split
 · exact bookS_ref h s r _
 split
 · split<;>rfl
 split
 · exact stS_ref vm sm s r _ _
 split
 · exact payS_ref s r _ _
 exact chS_ref vm sm s r _ _
theorem firstE_mem:∀ {l:List Int},firstE l=0→∀x ∈ l,x=0
 | [],_,_,hx=>by cases hx
 | y ::l,h,x,hx=>by
   unfold firstE at h
   by_cases q:y=0
   · rw[if_pos q]at h;rcases List.mem_cons.1 hx with e|e
     · rw[e];exact q
     · exact firstE_mem h x e
   · rw[if_neg q]at h;exact absurd h q
theorem isKeyB_len {s:List UInt8}(h:isKeyB s=true):s.length≤40:=by
 unfold isKeyB at h;simp only[Bool.and_eq_true,decide_eq_true_eq]at h;exact h.2
theorem rdgE_len {r:Rdg}(h:rdgE r=0):r.st.length≤40:=by
 unfold rdgE at h;split at h
 · exact absurd h (by decide)
 split at h
 · exact absurd h (by decide)
 rename_i _ c;exact isKeyB_len (by simpa using c)
theorem legE_K {h:Hir}{i:Nat}(e:legE h i=0):lgK (h.legs.getD i lg0):=by
 unfold legE at e;split at e
 · exact absurd e (by decide)
 rename_i c1;split at e
 · rename_i c;exact absurd e c
 rename_i c2;have k1:=isKeyB_len (s:=(h.legs.getD i lg0).veh) (by simpa using c1);have k2:=rdgE_len (r:=(h.legs.getD i lg0).out) (by simpa using c2)
 have k3:(h.legs.getD i lg0).inn.st.length≤40:=by
  by_cases q:(h.legs.getD i lg0).inn.tm= -1
  · by_cases r:(h.legs.getD i lg0).inn.st= []
    · rw[r];simp
    · exfalso;rw[if_pos q,if_pos (fun c=>r c.1)]at e;grind
  · rw[if_neg q]at e;refine rdgE_len ?_;grind
 exact⟨by omega,by omega,by omega⟩
theorem hirE_K {g:Hir}(h:hirE g=0):hiL g∧1≤g.legs.length∧g.legs.length≤20∧(isKeyB g.key=true∧isKeyB g.drv=true)∧timE g.frm g.to=0∧∀i,i<g.legs.length→legE g i=0:=by
 unfold hirE at h;split at h
 · exact absurd h (by decide)
 rename_i c1;split at h
 · rename_i c;exact absurd h c
 rename_i c2;split at h
 · exact absurd h (by decide)
 rename_i c3;split at h
 · exact absurd h (by decide)
 rename_i c4;have hA:=firstAt_all h;have k1:isKeyB g.key=true:=by cases e:isKeyB g.key with|true=>rfl|false=>exact absurd (.inl e) c1
 have k2:isKeyB g.drv=true:=by cases e:isKeyB g.drv with|true=>rfl|false=>exact absurd (.inr e) c1
 refine⟨⟨by have:=isKeyB_len k1;omega,by have:=isKeyB_len k2;omega,by omega,fun x hx=> ?_⟩,by omega,by omega,⟨k1,k2⟩,by simpa using c2,hA⟩;obtain⟨i,hi,rfl⟩:=mem_getD (d:=lg0) hx;exact legE_K (hA i hi)
theorem mdE_zero {g g':Hir}(h:mdE g g' =0):hirE g=0∧opnH g=true∧hirE g' =0:=by
 unfold mdE at h
 by_cases q:goE g=0
 · rw[if_neg (fun c=>c q)]at h;exact⟨(goE_zero q).1,(goE_zero q).2,h⟩
 · rw[if_pos q]at h;exact absurd h q
theorem setIn_veh {l:List Leg}(r:Rdg)(j:Nat):((setIn l r).getD j lg0).veh=(l.getD j lg0).veh:=by
 unfold setIn;rw[List.getD_eq_getElem?_getD,List.getElem?_set]
 by_cases q:((l.length:Int) - 1).toNat=j
 · subst q;rw[if_pos rfl]
   by_cases h:((l.length:Int) - 1).toNat<l.length
   · rw[if_pos h];rfl
   · rw[if_neg h,List.getD_eq_getElem?_getD,List.getElem?_eq_none (by omega)]
 · rw[if_neg q,List.getD_eq_getElem?_getD]
theorem exH_ne {g:Hir}{ri ro:Rdg}{v:List UInt8}(h1:1≤g.legs.length)(h:hirE (exH g ri v ro)=0):v≠oldV g:=by
 obtain⟨_,_,_,_,_,hA⟩:=hirE_K h;have hl:(exH g ri v ro).legs.length=g.legs.length+1:=by show(setIn g.legs ri++ [_]).length=_;rw[List.length_append,setIn_len,List.length_singleton]
 have e:=hA g.legs.length (by omega)
 have g1:((exH g ri v ro).legs.getD g.legs.length lg0).veh=v:=by
  show((setIn g.legs ri++ [_]).getD _ _).veh=_;rw[List.getD_eq_getElem?_getD,List.getElem?_append_right (by rw[setIn_len];omega),setIn_len,Nat.sub_self];rfl
 have g2:((exH g ri v ro).legs.getD (g.legs.length - 1) lg0).veh=oldV g:=by
  show((setIn g.legs ri++ [_]).getD _ _).veh=_;rw[List.getD_eq_getElem?_getD,List.getElem?_append_left (by rw[setIn_len];omega),←List.getD_eq_getElem?_getD,setIn_veh];unfold oldV;rw[show((g.legs.length:Int) - 1).toNat=g.legs.length - 1 by omega]
 intro hv;unfold legE at e;rw[g1,g2]at e;have c:0<g.legs.length∧v=oldV g:=⟨by omega,hv⟩;grind
structure offI (m n:Nat)(s:Off):Prop where
 log:s.log.length≤m
 ats:∀v t,s.ats v t=true↔∃x ∈ s.log,x.veh=v∧x.tm=t
 apt:s.log.Pairwise fun a b=>¬ (a.veh=b.veh∧a.tm=b.tm)
 paid:∀k,0≤s.paid.val k∧s.paid.val k≤10^9
 fb:∃L:List (List UInt8),L.length≤n∧∀k,s.bks.has k=true→k ∈ L
 fh:∃L:List (List UInt8),L.length≤n∧∀k,s.his.has k=true→k ∈ L
 non:∀k,s.his.has k=false→s.his.val k=none
 his:∀k,s.his.has k=true→∃g,s.his.val k=some g∧hirE g=0
theorem offI.ok {m n:Nat}{s:Off}(h:offI m n s)(hm:m≤2^18)(hn:n<500):offOk s where
 log:=by have:=h.log;omega
 paid k:=by have:=h.paid k;omega
 fb:=by obtain⟨L,h1,h2⟩:=h.fb;exact⟨L,by omega,h2⟩
 fh:=by obtain⟨L,h1,h2⟩:=h.fh;exact⟨L,by omega,h2⟩
 non:=h.non
 his k q:=by
  obtain⟨g,h1,h2⟩:=h.his k q;obtain⟨k1,k2,k3,_⟩:=hirE_K h2;exact⟨g,h1,k1,k2,by omega⟩
theorem offI.up {m n m' n':Nat}{s:Off}(h:offI m n s)(hm:m≤m')(hn:n≤n'):offI m' n' s where
 log:=by have:=h.log;omega
 ats:=h.ats
 apt:=h.apt
 paid:=h.paid
 fb:=by obtain⟨L,h1,h2⟩:=h.fb;exact⟨L,by omega,h2⟩
 fh:=by obtain⟨L,h1,h2⟩:=h.fh;exact⟨L,by omega,h2⟩
 non:=h.non
 his:=h.his
theorem canE_zero {s:Off}{x:Evn}(h:canE s x=0):s.ats x.veh x.tm=false∧folOk (s.sts.val x.veh) x=true:=by
 unfold canE at h;have h1:=firstE_mem h _ (List.mem_cons_self ..);have h2:=firstE_mem h _ (List.mem_cons_of_mem _ (List.mem_cons_self ..));constructor
 · cases q:s.ats x.veh x.tm with
   |false=>rfl
   |true=>rw[q,if_pos rfl]at h1;exact absurd h1 (by decide)
 · cases q:folOk (s.sts.val x.veh) x with
   |true=>rfl
   |false=>rw[q]at h2;exact absurd h2 (by decide)
theorem offI.say {m n:Nat}{s:Off}(h:offI m n s){x:Evn}(hc:s.ats x.veh x.tm=false):offI (m+1) n (sayS s x) where
 log:=by show(s.log++ [x]).length≤_;rw[List.length_append,List.length_singleton];have:=h.log;omega
 ats v t:=by
  show atPut s.ats x.veh x.tm v t=true↔∃y ∈ s.log++ [x],y.veh=v∧y.tm=t;unfold atPut;rw[Bool.or_eq_true,h.ats v t];simp only[Bool.and_eq_true,decide_eq_true_eq,List.mem_append,List.mem_singleton];constructor
  · rintro(⟨h1,h2⟩|⟨y,h1,h2⟩)
    · exact⟨x,.inr rfl,h1.symm,h2.symm⟩
    · exact⟨y,.inl h1,h2⟩
  · rintro⟨y,h1|h1,h2⟩
    · exact .inr ⟨y,h1,h2⟩
    · subst h1;exact .inl ⟨h2.1.symm,h2.2.symm⟩
 apt:=by
  show(s.log++ [x]).Pairwise _;rw[List.pairwise_append];refine⟨h.apt,List.pairwise_singleton _ _,fun a ha b hb=> ?_⟩;rw[List.mem_singleton]at hb;subst hb;intro q;have:=(h.ats b.veh b.tm).2 ⟨a,ha,q⟩;rw[hc]at this;cases this
 paid:=h.paid
 fb:=h.fb
 fh:=h.fh
 non:=h.non
 his:=h.his
theorem evtS_I {m n:Nat}{s:Off}(h:offI m n s)(vm:Mp (List UInt8))(sm:Mp Bool)(x:Evn):offI (m+1) n (evtS vm sm s x):=by
 unfold evtS;split
 · rename_i e;unfold evtE at e;exact h.say (canE_zero (firstE_mem e _ (by simp))).1
 · exact h.up (by omega) (Nat.le_refl _)
theorem put_keys {α:Type}{n:Nat}{m:Mp α}{k:List UInt8}{v:α}(h:∃L:List (List UInt8),L.length≤n∧∀k,m.has k=true→k ∈ L):∃L:List (List UInt8),L.length≤n+1∧∀j,(m.put k v).has j=true→j ∈ L:=by
 obtain⟨L,h1,h2⟩:=h;refine⟨k::L,by rw[List.length_cons];omega,fun j hj=> ?_⟩;have hj:(decide (j=k)||m.has j)=true:=hj;rw[Bool.or_eq_true,decide_eq_true_eq]at hj;rcases hj with e|e
 · rw[e];exact List.mem_cons_self ..
 · exact List.mem_cons_of_mem _ (h2 j e)
theorem del_keys {α:Type}{n:Nat}{m:Mp α}{k:List UInt8}{z:α}(h:∃L:List (List UInt8),L.length≤n∧∀k,m.has k=true→k ∈ L):∃L:List (List UInt8),L.length≤n∧∀j,(m.del k z).has j=true→j ∈ L:=by
 obtain⟨L,h1,h2⟩:=h;refine⟨L,h1,fun j hj=> ?_⟩;have hj:(!decide (j=k)&&m.has j)=true:=hj;rw[Bool.and_eq_true]at hj;exact h2 j hj.2
theorem up_keys {n n':Nat}{p:List UInt8→Bool}(h:∃L:List (List UInt8),L.length≤n∧∀k,p k=true→k ∈ L)(hn:n≤n'):∃L:List (List UInt8),L.length≤n'∧∀k,p k=true→k ∈ L:=by
 obtain⟨L,h1,h2⟩:=h;exact⟨L,by omega,h2⟩
theorem put_his {m:Mp (Option Hir)}{k:List UInt8}{g:Hir}(h1:∀k,m.has k=false→m.val k=none)(h2:∀k,m.has k=true→∃g,m.val k=some g∧hirE g=0)(hg:hirE g=0):
 (∀j,(m.put k (some g)).has j=false→(m.put k (some g)).val j=none)∧∀j,(m.put k (some g)).has j=true→∃g',(m.put k (some g)).val j=some g'∧hirE g' =0:=by
 refine⟨fun j hj=> ?_,fun j hj=> ?_⟩
 · have hj:(decide (j=k)||m.has j)=false:=hj;rw[Bool.or_eq_false_iff,decide_eq_false_iff_not]at hj;show(if j=k then some g else m.val j)=none;rw[if_neg hj.1];exact h1 j hj.2
 · have hj:(decide (j=k)||m.has j)=true:=hj;show ∃g',(if j=k then some g else m.val j)=some g'∧_
   by_cases q:j=k
   · rw[if_pos q];exact⟨g,rfl,hg⟩
   · rw[if_neg q];refine h2 j ?_;rw[Bool.or_eq_true,decide_eq_true_eq]at hj;rcases hj with e|e
     · exact absurd e q
     · exact e
theorem bookS_I {m n:Nat}{s:Off}(h:offI m n s)(hh:Hou)(b:Bok):offI m (n+1) (bookS hh s b):=by
 unfold bookS;split
 · exact⟨h.log,h.ats,h.apt,h.paid,put_keys h.fb,up_keys h.fh (by omega),h.non,h.his⟩
 · exact h.up (Nat.le_refl _) (by omega)
theorem payS_I {m n:Nat}{s:Off}(h:offI m n s)(k:List UInt8)(c:Int):offI m n (payS s k c):=by
 unfold payS;split
 · rename_i e;unfold payE at e;have e2:=firstE_mem e _ (List.mem_cons_of_mem _ (List.mem_cons_self ..));have e3:=firstE_mem e _ (List.mem_cons_of_mem _ (List.mem_cons_of_mem _ (List.mem_cons_self ..)))
   have k1:0≤c∧c≤1000000000:=by
    by_cases q:0≤c∧c≤1000000000
    · exact q
    · rw[decide_eq_false q]at e2;exact absurd e2 (by decide)
   have k2:¬ 1000000000<s.paid.val k+c:=fun q=>by rw[if_pos q]at e3;exact absurd e3 (by decide)
   refine⟨h.log,h.ats,h.apt,fun j=> ?_,h.fb,h.fh,h.non,h.his⟩;show 0≤(if j=k then _ else s.paid.val j)∧(if j=k then _ else s.paid.val j)≤_;have:=h.paid j;have:=h.paid k
   by_cases q:j=k
   · rw[if_pos q];omega
   · rw[if_neg q];omega
 · exact h
theorem stS_I {m n:Nat}{s:Off}(h:offI m n s)(vm:Mp (List UInt8))(sm:Mp Bool)(a:Int)(t:Tol):offI (m+1) (n+1) (stS vm sm s a t):=by
 unfold stS;split
 · rename_i e;unfold stE at e
   by_cases q:hirE (stHi a t)=0
   · rw[if_neg (fun c=>c q)]at e;have k1:=(canE_zero (firstE_mem e (canE s (stEv a t)) (by simp))).1;have k2:=h.say k1;obtain⟨k3,k4⟩:=put_his (k:=t.texts.getD 0 []) h.non h.his q;exact⟨k2.log,k2.ats,k2.apt,h.paid,up_keys (del_keys h.fb) (by omega),put_keys h.fh,k3,k4⟩
   · rw[if_pos q]at e;exact absurd e q
 · exact h.up (by omega) (by omega)
theorem chG_zero {vm:Mp (List UInt8)}{sm:Mp Bool}{s:Off}{g:Hir}{a:Int}{t:Tol}(h:chG vm sm s g a t=0):(hirE g=0∧opnH g=true∧hirE (chNext g a t)=0)∧chKn vm sm t=true∧∀i,i<(chEvs g a t).length→canE s ((chEvs g a t).getD i ev0)=0:=by
 unfold chG at h
 by_cases q:firstE [mdE g (chNext g a t),if(!chKn vm sm t)then 8 else 0]=0
 · rw[if_neg (fun c=>c q)]at h;have e2:=firstE_mem q _ (List.mem_cons_of_mem _ (List.mem_cons_self ..));refine⟨mdE_zero (firstE_mem q _ (List.mem_cons_self ..)),?_,firstAt_all h⟩
   cases k:chKn vm sm t with
   |true=>rfl
   |false=>rw[k]at e2;exact absurd e2 (by decide)
 · rw[if_pos q]at h;exact absurd h q
theorem sayL_I {m n:Nat}{s:Off}(h:offI m n s){vm:Mp (List UInt8)}{sm:Mp Bool}{g:Hir}{a:Int}{t:Tol}(e:chG vm sm s g a t=0):offI (m+2) n (sayL s (chEvs g a t)):=by
 obtain⟨⟨h1,h2,h3⟩,h4,h5⟩:=chG_zero e;unfold chEvs at h5 ⊢
 by_cases w1:t.word= [101,120,116,101,110,100]
 · rw[if_pos w1];exact h.up (by omega) (Nat.le_refl _)
 rw[if_neg w1]at h5 ⊢
 by_cases w2:t.word= [99,108,111,115,101]
 · rw[if_pos w2]at h5 ⊢;exact(h.say (canE_zero (h5 0 (by simp))).1).up (by omega) (Nat.le_refl _)
 rw[if_neg w2]at h5 ⊢;unfold chNext at h3;rw[if_neg w1,if_neg w2]at h3;have hne:=exH_ne (by have:=(hirE_K h1).2.1;omega) h3;have k1:=(canE_zero (h5 0 (by simp))).1;have k2:=(canE_zero (h5 1 (by simp))).1;refine(h.say k1).say (x:=⟨a,t.texts.getD 2 [],t.texts.getD 1 [],2,[]⟩) ?_;show((decide (t.texts.getD 2 []=oldV g)&&decide (a=a))||s.ats (t.texts.getD 2 []) a)=false;rw[decide_eq_false hne,Bool.false_and,Bool.false_or];exact k2
theorem chS_I {m n:Nat}{s:Off}(h:offI m n s)(vm:Mp (List UInt8))(sm:Mp Bool)(a:Int)(t:Tol):offI (m+2) (n+1) (chS vm sm s a t):=by
 unfold chS;split
 · rename_i e;unfold chE at e
   by_cases q:s.his.has (t.texts.getD 0 [])=true
   · rw[if_pos q]at e;have k2:=sayL_I h e;obtain⟨⟨h1,h2,h3⟩,_⟩:=chG_zero e;obtain⟨k3,k4⟩:=put_his (k:=t.texts.getD 0 []) k2.non k2.his h3;exact⟨k2.log,k2.ats,k2.apt,k2.paid,up_keys k2.fb (by omega),put_keys k2.fh,k3,k4⟩
   · rw[if_neg q]at e;exact absurd e (by decide)
 · exact h.up (by omega) (by omega)
theorem folO_I {m n:Nat}{s:Off}(k:offI m n s)(h:Hou)(vm:Mp (List UInt8))(sm:Mp Bool)(x:Ent):offI (m+2) (n+1) (folO h vm sm s x):=by
 unfold folO;split
 · exact k.up (by omega) (by omega)
 split
 · exact(evtS_I k vm sm _).up (by omega) (by omega)
 split
 · exact(bookS_I k h _).up (by omega) (by omega)
 split
 · split
   · exact⟨by have:=k.log;show s.log.length≤_;omega,k.ats,k.apt,k.paid,up_keys (del_keys k.fb) (by omega),up_keys k.fh (by omega),k.non,k.his⟩
   · exact k.up (by omega) (by omega)
 split
 · exact(stS_I k vm sm _ _).up (by omega) (by omega)
 split
 · exact(payS_I k _ _).up (by omega) (by omega)
 exact chS_I k vm sm _ _
theorem runC_I {h:Hou}{vm:Mp (List UInt8)}{sm:Mp Bool}:∀ (l:List Ent) {m n:Nat} {s:Off},offI m n s→offI (m+2*l.length) (n+l.length) (runC h vm sm s l)
 | [],m,n,s,k=>k
 |x::l,m,n,s,k=>(runC_I l (folO_I k h vm sm x)).up (by rw[List.length_cons];omega) (by rw[List.length_cons];omega)
def off0:Off:=⟨Mp.nil ss0,[],fun _ _=>false,Mp.nil bk0,Mp.nil none,Mp.nil 0,[]⟩
theorem off0_I:offI 0 0 off0 where
 log:=Nat.le_refl _
 ats v t:=⟨fun h=>(by cases h),fun⟨x,h,_⟩=>(by cases h)⟩
 apt:=List.Pairwise.nil
 paid k:=by show(0:Int)≤0∧(0:Int)≤_;omega
 fb:=⟨[],Nat.le_refl _,fun k h=>by cases h⟩
 fh:=⟨[],Nat.le_refl _,fun k h=>by cases h⟩
 non k h:=rfl
 his k h:=by cases h
variable (h:Hou) (vm:Mp (List UInt8)) (sm:Mp Bool)
theorem runC_snoc (l:List Ent)(x:Ent)(s:Off):runC h vm sm s (l++ [x])=folO h vm sm (runC h vm sm s l) x:=by
 unfold runC;rw[List.foldl_append];rfl
theorem refC_snoc (x:Ent):∀ (l:List Ent) (s:Off) (j:Nat),refC h vm sm s j (l++ [x])=refC h vm sm s j l++(if folE h vm sm (runC h vm sm s l) x=0 then []else [⟨((j+l.length:Nat):Int),folE h vm sm (runC h vm sm s l) x⟩])
 | [],s,j=>by
   show(if folE h vm sm s x=0 then _ else _)= []++(if folE h vm sm s x=0 then _ else _)
   by_cases e:folE h vm sm s x=0
   · rw[if_pos e,if_pos e];rfl
   · rw[if_neg e,if_neg e];rfl
 | y::l,s,j=>by
   have e1:runC h vm sm s (y::l)=runC h vm sm (folO h vm sm s y) l:=rfl;have e3:j+(y::l).length=(j+1)+l.length:=by rw[List.length_cons];omega
   rw[List.cons_append,refC,refC,e1,e3]
   by_cases e:folE h vm sm s y=0
   · rw[if_pos e,if_pos e];exact refC_snoc x l _ _
   · rw[if_neg e,if_neg e,fol_same e,refC_snoc x l s (j+1)];rfl
def offN (l:List Ent)(i:Nat):Off:={runC h vm sm off0 (l.take i)with ref:=refC h vm sm off0 0 (l.take i)}
theorem offN_good {l:List Ent}{i:Nat}(hi:i<l.length)(e:folE h vm sm (offN h vm sm l i) (l.getD i en0)=0):offN h vm sm l (i+1)=folO h vm sm (offN h vm sm l i) (l.getD i en0):=by
 have hx:l.take (i+1)=l.take i++ [l.getD i en0]:=by
  rw[List.take_succ_eq_append_getElem hi,List.getD_eq_getElem?_getD,List.getElem?_eq_getElem hi];rfl
 unfold offN at e ⊢;rw[folE_ref]at e;rw[folO_ref,hx,runC_snoc,refC_snoc,if_pos e,List.append_nil]
theorem offN_bad {l:List Ent}{i:Nat}(hi:i<l.length)(e:folE h vm sm (offN h vm sm l i) (l.getD i en0)≠0):offN h vm sm l (i+1)={offN h vm sm l i with ref:=(offN h vm sm l i).ref++ [⟨i,folE h vm sm (offN h vm sm l i) (l.getD i en0)⟩]}:=by
 have hx:l.take (i+1)=l.take i++ [l.getD i en0]:=by
  rw[List.take_succ_eq_append_getElem hi,List.getD_eq_getElem?_getD,List.getElem?_eq_getElem hi];rfl
 unfold offN at e ⊢;rw[folE_ref]at e ⊢;rw[hx,runC_snoc,refC_snoc,if_neg e,fol_same e,List.length_take,Nat.min_eq_left (by omega),Nat.zero_add]
theorem offI_ref {m n:Nat}{s:Off}(k:offI m n s)(r:List Rfs):offI m n {s with ref:=r}:=⟨k.log,k.ats,k.apt,k.paid,k.fb,k.fh,k.non,k.his⟩
theorem offN_I (l:List Ent)(i:Nat)(hi:i≤l.length):offI (2*i) i (offN h vm sm l i):=by
 have:=runC_I (h:=h) (vm:=vm) (sm:=sm) (l.take i) off0_I;rw[List.length_take,Nat.min_eq_left hi]at this;exact offI_ref (this.up (by omega) (by omega)) _
theorem refC_len:∀ (l:List Ent) (s:Off) (j:Nat),(refC h vm sm s j l).length≤l.length
 | [],s,j=>Nat.le_refl _
 | x::l,s,j=>by
   rw[refC];split
   · have:=refC_len l (folO h vm sm s x) (j+1);rw[List.length_cons];omega
   · have:=refC_len l s (j+1);rw[List.length_cons,List.length_cons];omega
theorem offN_ref (l:List Ent)(i:Nat):(offN h vm sm l i).ref.length≤l.length:=by
 have:=refC_len h vm sm (l.take i) off0 0;rw[List.length_take]at this;show(refC h vm sm off0 0 (l.take i)).length≤_;omega
def vmO (l:List Veh):Mp (List UInt8):=l.foldl (fun m v=>m.put v.key v.cls) (Mp.nil [])
def smO (l:List Sta):Mp Bool:=l.foldl (fun m s=>m.put s.key true) (Mp.nil false)
theorem vmO_succ {l:List Veh}{i:Nat}(hi:i<l.length):vmO (l.take (i+1))=(vmO (l.take i)).put (l.getD i veh0).key (l.getD i veh0).cls:=by
 unfold vmO;rw[List.take_succ_eq_append_getElem hi,List.foldl_append,List.getD_eq_getElem?_getD,List.getElem?_eq_getElem hi];rfl
theorem smO_succ {l:List Sta}{i:Nat}(hi:i<l.length):smO (l.take (i+1))=(smO (l.take i)).put (l.getD i sta0).key true:=by
 unfold smO;rw[List.take_succ_eq_append_getElem hi,List.foldl_append,List.getD_eq_getElem?_getD,List.getElem?_eq_getElem hi];rfl
def offZ (h:Hou)(l:List Ent):Off:=offN h (vmO h.flt.veh) (smO h.flt.sta) l l.length
structure TOrd {α:Type}(f:α→α→Int):Prop where
 sw:∀a b,f a b= - f b a
 tr:∀a b c,f a b<0→f b c<0→f a c<0
 co:∀a b,f a b=0→∀c,f a c=f b c
theorem TOrd.co' {α:Type}{f:α→α→Int}(h:TOrd f){a b:α}(e:f a b=0)(c:α):f c a=f c b:=by
 rw[h.sw c a,h.sw c b,h.co a b e c]
theorem TOrd.int {α:Type}(k:α→Int):TOrd fun a b=>cmpI (k a) (k b) where
 sw a b:=cmpI_sw _ _
 tr a b c h1 h2:=by rw[cmpI_lt]at*;omega
 co a b e c:=by rw[cmpI_zero.1 e]
theorem TOrd.str {α:Type}(k:α→List UInt8):TOrd fun a b=>cmpS (k a) (k b) where
 sw a b:=cmpS_sw _ _
 tr a b c h1 h2:=cmpS_trans h1 h2
 co a b e c:=by rw[cmpS_zero.1 e]
def seq2 {α:Type}(f g:α→α→Int):α→α→Int:=fun a b=>if f a b=0 then g a b else f a b
theorem TOrd.seq {α:Type}{f g:α→α→Int}(hf:TOrd f)(hg:TOrd g):TOrd (seq2 f g) where
 sw a b:=by
  have h1:=hf.sw a b;have h2:=hg.sw a b;unfold seq2
  by_cases e:f a b=0
  · rw[if_pos e,if_pos (by omega)];exact h2
  · rw[if_neg e,if_neg (by omega)];exact h1
 tr a b c h1 h2:=by
  unfold seq2 at*
  by_cases e1:f a b=0
  · rw[if_pos e1]at h1;have k:=hf.co a b e1 c
    by_cases e2:f b c=0
    · rw[if_pos e2]at h2;rw[if_pos (by omega)];exact hg.tr a b c h1 h2
    · rw[if_neg e2]at h2;rw[if_neg (by omega)];omega
  · rw[if_neg e1]at h1
    by_cases e2:f b c=0
    · have k:=hf.co' e2 a;rw[if_neg (by omega)];omega
    · rw[if_neg e2]at h2;have:=hf.tr a b c h1 h2;rw[if_neg (by omega)];exact this
 co a b e c:=by
  unfold seq2 at*
  by_cases e1:f a b=0
  · rw[if_pos e1]at e;rw[hf.co a b e1 c,hg.co a b e c]
  · rw[if_neg e1]at e;exact absurd e e1
theorem TOrd.le_tr {α:Type}{f:α→α→Int}(h:TOrd f){a b c:α}(h1:f a b≤0)(h2:f b c≤0):f a c≤0:=by
 by_cases e1:f a b=0
 · rw[h.co a b e1 c];exact h2
 · by_cases e2:f b c=0
   · rw[←h.co' e2 a];exact h1
   · have:=h.tr a b c (by omega) (by omega);omega
theorem pw_getD {α:Type}{R:α→α→Prop}{l:List α}(d:α):l.Pairwise R↔∀i j,i<j→j<l.length→R (l.getD i d) (l.getD j d):=by
 rw[List.pairwise_iff_getElem];constructor
 · intro h i j hij hj;rw[List.getD_eq_getElem?_getD,List.getD_eq_getElem?_getD,List.getElem?_eq_getElem (by omega),List.getElem?_eq_getElem hj];exact h i j _ hj hij
 · intro h i j hi hj hij;have:=h i j hij hj;rw[List.getD_eq_getElem?_getD,List.getD_eq_getElem?_getD,List.getElem?_eq_getElem hi,List.getElem?_eq_getElem hj]at this;exact this
theorem entCmp_seq:entCmp=seq2 (fun a b=>cmpI a.tm b.tm) (seq2 (fun a b=>cmpS a.desk b.desk) (fun a b=>cmpI a.no b.no)):=by
 funext a b
 unfold entCmp seq2;simp only[firstE];grind
theorem entCmp_ord:TOrd entCmp:=by
 rw[entCmp_seq];exact(TOrd.int (fun a:Ent=>a.tm)).seq ((TOrd.str (fun a:Ent=>a.desk)).seq (TOrd.int (fun a:Ent=>a.no)))
structure entsR (l:List Ent):Prop where
 len:l.length≤1000
 frm:∀x ∈ l,frmE x=0
 ord:l.Pairwise fun a b=>entCmp a b<0
 dup:l.Pairwise fun a b=>eqE a b=false
theorem entE_zero {l:List Ent}{i:Nat}:entE l i=0↔frmE (l.getD i en0)=0∧(0<i→entCmp (l.getD (i - 1) en0) (l.getD i en0)<0)∧dupE (l.take i) (l.getD i en0)=false:=by
 unfold entE
 by_cases h1:frmE (l.getD i en0)=0
 · rw[if_neg (fun c=>c h1)]
   by_cases h2:0<i∧0≤entCmp (l.getD (i - 1) en0) (l.getD i en0)
   · rw[if_pos h2];exact⟨fun h=>absurd h (by decide),fun h=>by have:=h.2.1 h2.1;omega⟩
   · rw[if_neg h2]
     cases h3:dupE (l.take i) (l.getD i en0)with
     |true=>exact⟨fun h=>absurd h (by decide),fun h=>by cases h.2.2⟩
     |false=>exact⟨fun _=>⟨h1,fun q=>by omega,rfl⟩,fun _=>rfl⟩
 · rw[if_pos h1];exact⟨fun h=>absurd h h1,fun h=>absurd h.1 h1⟩
theorem dupE_iff {l:List Ent}{x:Ent}:dupE l x=false↔∀y ∈ l,eqE y x=false:=by
 show(l.any fun y=>y.desk==x.desk&&decide (y.no=x.no))=false↔_;rw[List.any_eq_false];refine⟨fun h y hy=> ?_,fun h y hy=> ?_⟩
 · have:=h y hy;unfold eqE;simpa using this
 · have:=h y hy;unfold eqE at this;rw[this];simp
theorem ents_iff {l:List Ent}:entsE l=0↔entsR l:=by
 constructor
 · intro h;unfold entsE at h
   by_cases hl:1000<l.length
   · rw[if_pos hl]at h;exact absurd h (by decide)
   rw[if_neg hl]at h;have hA:=fun i hi=>entE_zero.1 (firstAt_all h i hi)
   refine⟨by omega,fun x hx=> ?_,(pw_getD en0).2 fun i j=> ?_,(pw_getD en0).2 fun i j hij hj=> ?_⟩
   · obtain⟨i,hi,rfl⟩:=mem_getD (d:=en0) hx;exact(hA i hi).1
   · induction j with
     |zero=>intro hij;omega
     | succ j ih=>
       intro hij hj;have h1:=(hA (j+1) hj).2.1 (by omega);rw[Nat.add_sub_cancel]at h1
       by_cases q:i=j
       · rw[q];exact h1
       · exact entCmp_ord.tr _ _ _ (ih (by omega) (by omega)) h1
   · have h1:=dupE_iff.1 (hA j hj).2.2;refine h1 _ ?_
     have:l.getD i en0=(l.take j).getD i en0:=by
      rw[List.getD_eq_getElem?_getD,List.getD_eq_getElem?_getD,List.getElem?_take_of_lt hij]
     rw[this];exact getD_mem (by rw[List.length_take];omega)
 · intro h;unfold entsE;rw[if_neg (by have:=h.len;omega)];refine firstAt_zero fun i hi=>entE_zero.2 ⟨h.frm _ (getD_mem hi),fun q=>(pw_getD en0).1 h.ord (i - 1) i (by omega) hi,dupE_iff.2 fun y hy=> ?_⟩
   obtain⟨j,hj,rfl⟩:=mem_getD (d:=en0) hy;rw[List.length_take]at hj
   have:(l.take i).getD j en0=l.getD j en0:=by
    rw[List.getD_eq_getElem?_getD,List.getD_eq_getElem?_getD,List.getElem?_take_of_lt (by omega)]
   rw[this];exact(pw_getD en0).1 h.dup j i (by omega) hi
section
variable (h:Hou) (vm:Mp (List UInt8)) (sm:Mp Bool)
end
variable {α:Type}
theorem swp_at (U V W:List α)(x y d:α):(U++x::(V++y::W)).getD U.length d=x∧(U++x::(V++y::W)).getD (U.length+1+V.length) d=y∧((U++x::(V++y::W)).set U.length y).set (U.length+1+V.length) x=U++y::(V++x::W):=by
 refine⟨?_,?_,?_⟩
 · rw[List.getD_eq_getElem?_getD,List.getElem?_append_right (by omega),Nat.sub_self];rfl
 · rw[List.getD_eq_getElem?_getD,List.getElem?_append_right (by omega),show U.length+1+V.length - U.length=V.length+1 by omega,List.getElem?_cons_succ,List.getElem?_append_right (by omega),Nat.sub_self];rfl
 · rw[List.set_append_right _ _ (by omega),Nat.sub_self,List.set_cons_zero,List.set_append_right _ _ (by omega),show U.length+1+V.length - U.length=V.length+1 by omega,List.set_cons_succ,List.set_append_right _ _ (by omega),Nat.sub_self,List.set_cons_zero]
abbrev Srt (f:α→α→Int)(l:List α):Prop:=l.Pairwise fun a b=>f a b≤0
theorem srt_idx {f:α→α→Int}(hf:TOrd f){Y:List α}(hY:Srt f Y){i j:Nat}(hj:j<Y.length)(hij:i≤j)(d:α):i=j∨f (Y.getD i d) (Y.getD j d)≤0:=by
 rcases Nat.lt_or_ge i j with q|q
 · right;rw[List.getD_eq_getElem?_getD,List.getD_eq_getElem?_getD,List.getElem?_eq_getElem (by omega),List.getElem?_eq_getElem hj];exact List.pairwise_iff_getElem.1 hY i j (by omega) hj q
 · left;omega
theorem mem_take_ix {Y:List α}{t:Nat}{y:α}(h:y ∈ Y.take t)(d:α):∃i,i<t∧i<Y.length∧Y.getD i d=y:=by
 obtain⟨i,hi,e⟩:=List.getElem_of_mem h;rw[List.length_take]at hi;rw[List.getElem_take]at e;exact⟨i,by omega,by omega,by rw[List.getD_eq_getElem?_getD,List.getElem?_eq_getElem (by omega)];exact e⟩
theorem mem_drop_ix {Y:List α}{t:Nat}{y:α}(h:y ∈ Y.drop t)(d:α):∃i,t≤i∧i<Y.length∧Y.getD i d=y:=by
 obtain⟨i,hi,e⟩:=List.getElem_of_mem h;rw[List.length_drop]at hi;rw[List.getElem_drop]at e;exact⟨t+i,by omega,by omega,by rw[List.getD_eq_getElem?_getD,List.getElem?_eq_getElem (by omega)];exact e⟩
theorem srt_below {f:α→α→Int}(hf:TOrd f){Y:List α}(hY:Srt f Y){x d:α}{t:Nat}(ht:t≤Y.length)(h:t=0∨f (Y.getD (t - 1) d) x≤0):∀y ∈ Y.take t,f y x≤0:=fun y hy=>by
 obtain⟨i,h1,h2,rfl⟩:=mem_take_ix hy d;rcases h with h|h
 · omega
 rcases srt_idx hf hY (i:=i) (j:=t - 1) (by omega) (by omega) d with e|e
 · rw[e];exact h
 · exact hf.le_tr e h
theorem srt_above {f:α→α→Int}(hf:TOrd f){Y:List α}(hY:Srt f Y){x d:α}{t:Nat}(h:t=Y.length∨f x (Y.getD t d)≤0):∀y ∈ Y.drop t,f x y≤0:=fun y hy=>by
 obtain⟨i,h1,h2,rfl⟩:=mem_drop_ix hy d;rcases h with h|h
 · omega
 rcases srt_idx hf hY (i:=t) (j:=i) (by omega) (by omega) d with e|e
 · rw[←e];exact h
 · exact hf.le_tr h e
theorem srt_ins {f:α→α→Int}{Y1 Y2:List α}{x:α}(hY:Srt f (Y1++Y2))(h1:∀y ∈ Y1,f y x≤0)(h2:∀y ∈ Y2,f x y≤0):Srt f (Y1++x::Y2):=by
 rw[Srt,List.pairwise_append]at hY ⊢;refine⟨hY.1,List.pairwise_cons.2 ⟨h2,hY.2.1⟩,fun a ha b hb=> ?_⟩;rcases List.mem_cons.1 hb with e|hb
 · rw[e];exact h1 a ha
 · exact hY.2.2 a ha b hb
theorem srt_join {f:α→α→Int}{Z1 Z2 X1 Y1 X2 Y2:List α}(p1:Z1.Perm (X1++Y1))(s1:Srt f Z1)(p2:Z2.Perm (X2++Y2))(s2:Srt f Z2)(hX:Srt f (X1++X2))(hY:Srt f (Y1++Y2))
 (h1:∀x ∈ X1,∀y ∈ Y2,f x y≤0)(h2:∀y ∈ Y1,∀x ∈ X2,f y x≤0):(Z1++Z2).Perm ((X1++X2)++(Y1++Y2))∧Srt f (Z1++Z2):=by
 constructor
 · refine(p1.append p2).trans ?_;rw[List.append_assoc,List.append_assoc];exact List.Perm.append_left X1 (List.perm_append_comm_assoc _ _ _)
 · rw[Srt,List.pairwise_append]at hX hY ⊢;refine⟨s1,s2,fun a ha b hb=> ?_⟩;rcases List.mem_append.1 (p1.mem_iff.1 ha)with q|q<;>rcases List.mem_append.1 (p2.mem_iff.1 hb)with r|r
   · exact hX.2.2 a q b r
   · exact h1 a q b r
   · exact h2 a q b r
   · exact hY.2.2 a q b r
theorem srt_cross {f:α→α→Int}(hf:TOrd f){X Y:List α}(hX:Srt f X)(hY:Srt f Y){d:α}{s e:Nat}(hs:s≤X.length)(h:s=0∨e=Y.length∨f (X.getD (s - 1) d) (Y.getD e d)≤0):
 ∀x ∈ X.take s,∀y ∈ Y.drop e,f x y≤0:=fun x hx y hy=>by
 rcases h with h|h|h
 · subst h;rw[List.take_zero]at hx;cases hx
 · subst h;rw[List.drop_length]at hy;cases hy
 · exact hf.le_tr (srt_below hf hX hs (.inr h) x hx) (srt_above hf hY (d:=d) (t:=e) (.inr (by have:=hf.sw (Y.getD e d) (Y.getD e d);omega)) y hy)
theorem getD_win {P X S:List α}{i:Nat}(h1:P.length≤i)(h2:i<P.length+X.length)(d:α):(P++(X++S)).getD i d=X.getD (i - P.length) d:=by
 rw[List.getD_eq_getElem?_getD,List.getElem?_append_right h1,List.getElem?_append_left (by omega),List.getD_eq_getElem?_getD]
theorem isort_srt {f:α→α→Int}(hf:TOrd f)(l:List α):Srt f (isort f l):=
 isort_pairwise f (fun a b=>f a b≤0) (fun _ _ _ h1 h2=>hf.le_tr h1 h2) l (List.pairwise_of_forall fun x y=>⟨fun q=>by omega,fun q=>by have:=hf.sw x y;omega⟩)
theorem sort_one {f:α→α→Int}(hf:TOrd f){l c:List α}(hz:∀a ∈ l,∀b ∈ l,f a b=0→a=b)(hp:c.Perm l)(hs:Srt f c):c=isort f l:=
 List.Perm.eq_of_pairwise (le:=fun a b=>f a b≤0) (fun x y hx hy q1 q2=>hz x (hp.mem_iff.1 hx) y ((isort_perm f l).mem_iff.1 hy) (by have:=hf.sw x y;omega)) hs (isort_srt hf l) (hp.trans (isort_perm f l).symm)
theorem cut_at (X:List α)(s:Nat)(hs:s≤X.length):X.take s++X.drop s=X∧(X.take s).length=s∧(X.drop s).length=X.length - s:=by
 refine⟨List.take_append_drop s X,by rw[List.length_take];omega,List.length_drop ..⟩
def oAStB217:TL:= [(3,[(0,[]),(1,[0]),(2,[0,1]),(3,[0]),(4,rg 4),(5,rg 5),(6,rg 6),(7,rg 5),(8,rg 8),(9,rg 9),(10,rg 10),(11,rg 9),(12,rg 8),(13,rg 8),(14,rg 14),(15,rg 15),(16,rg 16),(17,rg 15),(18,rg 14),(19,rg 14),(20,[4,5,6,7]),(21,[4,5,6,7]),(22,[]),(23,[])])]
theorem wSwpEv (g:FuncId)(P A M B S c:List Evn)(a b n:Nat)(ha:P.length=a)(hb0:a+A.length+M.length=b)(hn:A.length=n)(hAB:B.length=n)(hc:c=P++(A++(M++(B++S))))(hl:c.length≤2^20):
 FSpec Tryz.prog 217 [.buf 1000001,.d (.int .i64 a),.d (.int .i64 b),.d (.int .i64 n),.fn g []] [(1000001,seqB 146 5 evF ev0 c)]
  (fun y r=>y= .tup []∧r= [(1000001,seqB 146 5 evF ev0 (P++(B++(M++(A++S)))))]):=by
 have hl0:=hl;rw[hc]at hl0;simp only[List.length_append]at hl0;refine spAx hT Tryz.func217 Tryz.call217 ?_;conv=>whnf
 refine LoopX.rule hT (C:= []) (ι:=Nat×List Evn×List Evn×List Evn×List Evn×List Evn) (fun(i,A1,A2,B1,B2,c)=>A1++A2=A∧B1++B2=B∧A1.length=i∧B1.length=i∧c=P++(B1++(A2++(M++(A1++(B2++S))))))
  (fun(i,_,_,_,_,c)=>mkSt [(0,.buf 1000001),(1,.d (.int .i64 a)),(2,.d (.int .i64 b)),(3,.d (.int .i64 n)),(10,.d (.int .i64 i))] [(1000001,seqB 146 5 evF ev0 c)])
  (fun(i,_,_,_,_,_)=>n - i) (0,[],A,[],B,c) ⟨rfl,rfl,rfl,rfl,hc⟩ (by exact eAx [(1000001,1000001)]) ?_
 rintro⟨i,A1,A2,B1,B2,d⟩ ⟨p1,p2,p3,p4,p5⟩;have l1:A1.length+A2.length=A.length:=by rw[←p1,List.length_append]
 have l2:B1.length+B2.length=B.length:=by rw[←p2,List.length_append]
 cases A2 with
 | nil=>
   have hb9:B2= []:=List.length_eq_zero_iff.1 (by simp only[List.length_nil]at l1;omega);subst hb9;rw[List.append_nil]at p1 p2;subst p1 p2;simp only[List.length_nil]at l1 l2;conv=>whnf
   repeat' ((first|refine br_intro ?_ ?_<;>intro hb<;>try simp only[brs]at hb|refine tAx hT oAStB217 ?_|omega|refine sAx ?_|decide|assumption)<;>conv=>whnf)
   all_goals first
    |(exfalso;omega)
    | (refine .ret _ ?_
       conv=>whnf
       exact⟨_,⟨rfl,rfl⟩,by rw[p5];exact rr,trivial⟩)
 |cons x A2=>
 cases B2 with
 |nil=>exfalso;simp only[List.length_nil,List.length_cons]at l1 l2;omega
 |cons y B2=>
 simp only[List.length_cons]at l1 l2;have hc':d=(P++B1)++x::((A2++(M++A1))++y::(B2++S)):=by rw[p5];simp
 have hlc:d.length=P.length+A.length+M.length+B.length+S.length:=by rw[hc'];simp only[List.length_append,List.length_cons];omega
 have i1:((a:Int)+(i:Int)).toNat=(P++B1).length:=by rw[List.length_append];omega
 have i2:((b:Int)+(i:Int)).toNat=(P++B1).length+1+(A2++(M++A1)).length:=by simp only[List.length_append];omega
 obtain⟨g1,g2,g3⟩:=swp_at (P++B1) (A2++(M++A1)) (B2++S) x y ev0;rw[←hc',←i1]at g1;rw[←hc',←i2]at g2;rw[←hc',←i2,←i1]at g3;conv=>whnf
 repeat' ((first|refine br_intro ?_ ?_<;>intro hb<;>try simp only[brs]at hb|refine tAx hT oAStB217 ?_|omega|refine sAx ?_|decide|assumption)<;>conv=>whnf)
 all_goals first
  |(exfalso;omega)
  |(refine⟨(i+1,A1++ [x],A2,B1++ [y],B2,(d.set ((a:Int)+(i:Int)).toNat (d.getD ((b:Int)+(i:Int)).toNat ev0)).set ((b:Int)+(i:Int)).toNat (d.getD ((a:Int)+(i:Int)).toNat ev0)),⟨by rw[←p1];simp,by rw[←p2];simp,by simp only[List.length_append,List.length_cons,List.length_nil];omega,by simp only[List.length_append,List.length_cons,List.length_nil];omega,by rw[g1,g2,g3];simp⟩,by show n - (i+1)<n - i;omega,Entails.mk' [(1000001,1000001)] rfl rfl ⟨lr,lr,lr,lr,SV.le_int (by omega),trivial⟩ ⟨Res.le_put2 (fun _=>rfl) (fun _=>rfl),trivial⟩⟩)
theorem wRotEv (g:FuncId)(P X Y S c:List Evn)(a m b:Nat)(ha:P.length=a)(hm:a+X.length=m)(hb0:m+Y.length=b)(hc:c=P++(X++(Y++S)))(hX:1≤X.length)(hY:1≤Y.length)(hl:c.length≤2^20):
 FSpec Tryz.prog 198 [.buf 1000001,.d (.int .i64 a),.d (.int .i64 m),.d (.int .i64 b),.fn g []] [(1000001,seqB 146 5 evF ev0 c)]
  (fun y r=>y= .tup []∧r= [(1000001,seqB 146 5 evF ev0 (P++(Y++(X++S))))]):=by
 have hl0:=hl;rw[hc]at hl0;simp only[List.length_append]at hl0;refine spAx hT Tryz.func198 Tryz.call198 ?_;conv=>whnf
 repeat' ((first|refine br_intro ?_ ?_<;>intro hb<;>try simp only[brs]at hb|omega|refine sAx ?_|decide|assumption)<;>conv=>whnf)
 refine LoopX.rule hT (C:= []) (ι:=Nat×Nat×List Evn×List Evn×List Evn×List Evn×List Evn) (fun(i,j,A,X',Y',B,c)=>A++(Y'++(X'++B))=P++(Y++(X++S))∧A.length+i=m∧X'.length=i∧Y'.length=j∧1≤i∧1≤j∧c=A++(X'++(Y'++B)))
  (fun(i,j,_,_,_,_,c)=>mkSt [(0,.buf 1000001),(2,.d (.int .i64 m)),(4,.fn g []),(10,.d (.int .i64 i)),(11,.d (.int .i64 j))] [(1000001,seqB 146 5 evF ev0 c)])
  (fun(i,j,_,_,_,_,_)=>i+j) (X.length,Y.length,P,X,Y,S,c) ⟨rfl,by show P.length+X.length=m;omega,rfl,rfl,hX,hY,hc⟩ (by exact eAx [(1000001,1000001)]) ?_
 rintro⟨i,j,A,X',Y',B,d⟩ ⟨p1,p2,p3,p4,p5,p6,p7⟩
 have q1:A.length+X'.length+Y'.length+B.length=P.length+X.length+Y.length+S.length:=by
  have:=congrArg List.length p1;simp only[List.length_append]at this;omega
 have hld:d.length≤2^20:=by rw[p7];simp only[List.length_append];omega
 have e1:((m:Int) - (i:Int))=((A.length:Nat):Int):=by omega
 rcases Nat.lt_trichotomy i j with q|q|q
 · obtain⟨k1,k2,k3⟩:=cut_at Y' (j - i) (by omega);generalize List.take (j - i) Y' =U at k1 k2;generalize List.drop (j - i) Y' =V at k1 k3;subst k1;simp only[List.length_append]at p4 q1;have c1:=wSwpEv g A X' U V B d A.length (A.length+i+U.length) i rfl (by omega) p3 (by omega) (by rw[p7];simp) hld;conv=>whnf
   repeat' ((first|(refine CallX.of c1 [(1000001,1000001)] rfl ⟨lr,SV.le_int (by omega),SV.le_int (by omega),lr,lr,trivial⟩ ⟨rr,trivial⟩ rfl rfl ?_;rintro y rout ⟨rfl,rfl⟩;refine⟨rfl,?_⟩)|refine br_intro ?_ ?_<;>intro hb<;>try simp only[brs]at hb|omega|refine sAx ?_|decide|assumption)<;>conv=>whnf)
   all_goals first
    |(exfalso;omega)
    |exact⟨(i,j - i,A,V,U,X'++B,A++(V++(U++(X'++B)))),⟨by rw[←p1];simp,p2,by omega,by omega,by omega,by omega,by simp⟩,by show i+(j - i)<i+j;omega,(by exact eAx [(1000001,1000001)])⟩
 · have c1:=wSwpEv g A X' [] Y' B d A.length m i rfl (by show A.length+X'.length+0=m;omega) p3 (by omega) (by rw[p7];simp) hld;conv=>whnf
   repeat' ((first|(refine CallX.of c1 [(1000001,1000001)] rfl ⟨lr,SV.le_int (by omega),lr,lr,lr,trivial⟩ ⟨rr,trivial⟩ rfl rfl ?_;rintro y rout ⟨rfl,rfl⟩;refine⟨rfl,?_⟩)|refine br_intro ?_ ?_<;>intro hb<;>try simp only[brs]at hb|omega|refine sAx ?_|decide|assumption)<;>conv=>whnf)
   all_goals first
    |(exfalso;omega)
    | (rw[←p1]
       refine .ret _ ?_;conv=>whnf
       exact⟨_,⟨rfl,rfl⟩,rr,trivial⟩)
 · obtain⟨k1,k2,k3⟩:=cut_at X' j (by omega);generalize List.take j X' =U at k1 k2;generalize List.drop j X' =V at k1 k3;subst k1;simp only[List.length_append]at p3 q1;have c1:=wSwpEv g A U V Y' B d A.length m j rfl (by omega) (by omega) p4 (by rw[p7];simp) hld;conv=>whnf
   repeat' ((first|(refine CallX.of c1 [(1000001,1000001)] rfl ⟨lr,SV.le_int (by omega),lr,lr,lr,trivial⟩ ⟨rr,trivial⟩ rfl rfl ?_;rintro y rout ⟨rfl,rfl⟩;refine⟨rfl,?_⟩)|refine br_intro ?_ ?_<;>intro hb<;>try simp only[brs]at hb|omega|refine sAx ?_|decide|assumption)<;>conv=>whnf)
   all_goals first
    |(exfalso;omega)
    |exact⟨(i - j,j,A++Y',V,U,B,A++(Y'++(V++(U++B)))),⟨by rw[←p1];simp,by simp only[List.length_append];omega,by omega,by omega,by omega,by omega,by simp⟩,by show i - j+j<i+j;omega,(by exact eAx [(1000001,1000001)])⟩
def oAStC171:TL:= [(5,[(0,[]),(1,[0]),(2,[0,1]),(3,[0]),(4,[0]),(5,rg 5),(6,rg 6),(7,rg 5),(8,rg 5),(9,[]),(10,[])]),(11,[(0,[]),(1,[0]),(2,[0,1]),(3,[0,1,2]),(4,[0,1,2]),(5,rg 5),(6,rg 6),(7,rg 6),(8,rg 5),(9,rg 5),(10,rg 10),(11,rg 11),(12,rg 10),(13,rg 10),(14,[2,3,4]),(15,[2,3,4]),(16,[]),(17,[])]),(17,[(0,[]),(1,[0]),(2,[0,1]),(3,[0]),(4,[0]),(5,rg 5),(6,rg 6),(7,rg 5),(8,rg 5),(9,[]),(10,[]),(11,[])]),(23,[(0,[]),(1,[0]),(2,[0,1]),(3,[0,1,2]),(4,[0,1,2]),(5,rg 5),(6,rg 6),(7,rg 6),(8,rg 5),(9,rg 5),(10,rg 10),(11,rg 11),(12,rg 10),(13,rg 10),(14,[2,3,4]),(15,[2,3,4]),(16,[]),(17,[])]),(35,[(0,[]),(1,[0]),(2,[0,1]),(3,[0,1,2]),(4,[0,1]),(5,[0]),(6,[0]),(7,rg 7),(8,rg 8),(9,rg 7),(10,rg 7),(11,[]),(12,[]),(13,[])])]
abbrev SymEv (g:FuncId)(f:Evn→Evn→Int)(P X Y S c:List Evn)(a m b:Nat):Prop:=
 FSpec Tryz.prog 171 [.buf 1000001,.d (.int .i64 a),.d (.int .i64 m),.d (.int .i64 b),.fn g []] [(1000001,seqB 146 5 evF ev0 c)]
  (fun y r=>y= .tup []∧∃Z,Z.Perm (X++Y)∧Srt f Z∧r= [(1000001,seqB 146 5 evF ev0 (P++(Z++S)))])
theorem wSymAEv (g:FuncId)(f:Evn→Evn→Int)(hf:TOrd f)(P Y S c:List Evn)(x:Evn)(a m b:Nat)(ha:P.length=a)(hm:a+1=m)(hb0:m+Y.length=b)(hc:c=P++([x]++(Y++S)))(hY:Srt f Y)(hl:c.length≤2^20)
 (hcmp:∀p q,p ∈ [x]++Y→q ∈ [x]++Y→FSpec Tryz.prog g [.agg ((evF p).map .d),.agg ((evF q).map .d)] [] (fun y r=>y= .d (.int .i64 (f p q))∧r= [])):SymEv g f P [x] Y S c a m b:=by
 have hl0:=hl;rw[hc]at hl0;simp only[List.length_append,List.length_singleton]at hl0;have hlc:c.length=P.length+(1+Y.length)+S.length:=by rw[hc];simp only[List.length_append,List.length_singleton];omega
 have gx:c.getD (a:Int).toNat ev0=x:=by rw[hc,getD_win (by omega) (by simp only[List.length_singleton];omega),show(a:Int).toNat - P.length=0 by omega];rfl
 have gy:∀k,m≤k→k<b→c.getD k ev0=Y.getD (k - m) ev0:=fun k h1 h2=>by
  rw[hc,←List.append_assoc,getD_win (by simp only[List.length_append,List.length_singleton];omega) (by simp only[List.length_append,List.length_singleton];omega)];congr 1
  simp only[List.length_append,List.length_singleton];omega
 refine spAx hT Tryz.func171 Tryz.call171 ?_;conv=>whnf
 repeat' ((first|refine br_intro ?_ ?_<;>intro hb<;>try simp only[brs]at hb|refine tAx hT oAStC171 ?_|omega|refine sAx ?_|decide|assumption)<;>conv=>whnf)
 all_goals try(exfalso;omega)
 refine LoopX.rule hT (C:= []) (ι:=Nat×Nat) (fun(i,j)=>m≤i∧i≤j∧j≤b∧(i - m=0∨f (Y.getD (i - m - 1) ev0) x≤0)∧(j - m=Y.length∨f x (Y.getD (j - m) ev0)≤0))
  (fun(i,j)=>mkSt [(0,.buf 1000001),(1,.d (.int .i64 a)),(4,.fn g []),(10,.d (.int .i64 i)),(11,.d (.int .i64 j))] [(1000001,seqB 146 5 evF ev0 c)])
  (fun(i,j)=>j - i) (m,b) ⟨Nat.le_refl _,by show m≤b;omega,Nat.le_refl _,.inl (by show m - m=0;omega),.inl (by show b - m=_;omega)⟩ (by exact eAx [(1000001,1000001)]) ?_
 rintro⟨i,j⟩ ⟨p1,p2,p3,p4,p5⟩;try dsimp only at p1 p2 p3 p4 p5
 rcases Nat.lt_or_ge i j with q|q
 · obtain⟨M,hM⟩:∃M,M=(i+j)/2:=⟨_,rfl⟩;have hh:=half2 i j (by omega) p2;rw[←hM]at hh;have gM:c.getD (M:Int).toNat ev0=Y.getD (M - m) ev0:=by rw[Int.toNat_natCast];exact gy M (by omega) (by omega)
   have mM:Y.getD (M - m) ev0 ∈ [x]++Y:=List.mem_append_right _ (getD_mem (by omega));conv=>whnf
   repeat' (first|(refine⟨rfl,?_⟩;conv=>whnf)|(rw[hh];conv=>whnf)|((first|(refine CallX.of (hcmp (Y.getD (M - m) ev0) x mM (by simp)) [] rfl ⟨by rw[←gM];exact lr,by rw[←gx];exact lr,trivial⟩ trivial rfl rfl ?_;rintro y rout ⟨rfl,rfl⟩;refine⟨rfl,?_⟩)|refine br_intro ?_ ?_<;>intro hb<;>try simp only[brs]at hb|refine tAx hT oAStC171 ?_|omega|refine sAx ?_|decide|assumption)<;>conv=>whnf))
   all_goals try(exfalso;omega)
   · exact⟨(M+1,j),⟨by show m≤M+1;omega,by show M+1≤j;omega,p3,.inr (by show f (Y.getD (M+1 - m - 1) _) _≤0;rw[show M+1 - m - 1=M - m by omega];omega),p5⟩,by show j - (M+1)<j - i;omega,(by exact eAx [(1000001,1000001)])⟩
   · exact⟨(i,M),⟨p1,by show i≤M;omega,by show M≤b;omega,p4,.inr (by show f _ (Y.getD (M - m) _)≤0;rw[hf.sw];omega)⟩,by show M - i<j - i;omega,(by exact eAx [(1000001,1000001)])⟩
 · have hij:i=j:=by omega
   subst hij;obtain⟨k1,k2,k3⟩:=cut_at Y (i - m) (by omega);have s1:=srt_below hf hY (x:=x) (d:=ev0) (t:=i - m) (by omega) p4;have s2:=srt_above hf hY (x:=x) (d:=ev0) (t:=i - m) p5;generalize List.take (i - m) Y=Y1 at k1 k2 s1;generalize List.drop (i - m) Y=Y2 at k1 k3 s2;subst k1;have sZ:=srt_ins hY s1 s2;conv=>whnf
   repeat' ((first|refine br_intro ?_ ?_<;>intro hb<;>try simp only[brs]at hb|refine tAx hT oAStC171 ?_|omega|refine sAx ?_|decide|assumption)<;>conv=>whnf)
   all_goals try(exfalso;omega)
   refine LoopX.rule hT (C:= []) (ι:=Nat×List Evn×List Evn×List Evn) (fun(k,A,B,c)=>A++B=Y1∧A.length+a=k∧c=P++(A++(x::(B++(Y2++S)))))
    (fun(k,_,_,c)=>mkSt [(0,.buf 1000001),(10,.d (.int .i64 i)),(13,.d (.int .i64 k))] [(1000001,seqB 146 5 evF ev0 c)])
    (fun(_,_,B,_)=>B.length) (a,[],Y1,c) ⟨rfl,by simp,by rw[hc];simp⟩ (by exact eAx [(1000001,1000001)]) ?_
   rintro⟨k,A,B,d⟩ ⟨r1,r2,r3⟩;have r4:A.length+B.length=Y1.length:=by rw[←r1,List.length_append]
   have hld:d.length=c.length:=by rw[r3,hc,←r1];simp only[List.length_append,List.length_cons,List.length_nil];omega
   cases B with
   | nil=>
     rw[List.append_nil]at r1;simp only[List.length_nil]at r4;conv=>whnf
     repeat' ((first|refine br_intro ?_ ?_<;>intro hb<;>try simp only[brs]at hb|refine tAx hT oAStC171 ?_|omega|refine sAx ?_|decide|assumption)<;>conv=>whnf)
     all_goals try(exfalso;omega)
     refine .ret _ ?_;conv=>whnf
     exact⟨_,⟨rfl,Y1++x::Y2,List.perm_middle,sZ,rfl⟩,by rw[r3,r1];simp only[List.append_assoc,List.cons_append,List.nil_append];exact rr,trivial⟩
   | cons y B=>
     simp only[List.length_cons]at r4;obtain⟨g1,g2,g3⟩:=swp_at (P++A) [] (B++(Y2++S)) x y ev0;have hc':d=(P++A)++x::([]++y::(B++(Y2++S))):=by rw[r3];simp
     have i1:(k:Int).toNat=(P++A).length:=by rw[List.length_append];omega
     have i2:((k:Int)+1).toNat=(P++A).length+1+([]:List Evn).length:=by simp only[List.length_append,List.length_nil];omega
     rw[←hc',←i1]at g1;rw[←hc',←i2]at g2;rw[←hc',←i2,←i1]at g3;conv=>whnf
     repeat' ((first|refine br_intro ?_ ?_<;>intro hb<;>try simp only[brs]at hb|refine tAx hT oAStC171 ?_|omega|refine sAx ?_|decide|assumption)<;>conv=>whnf)
     all_goals try(exfalso;omega)
     refine⟨(k+1,A++ [y],B,(d.set (k:Int).toNat (d.getD ((k:Int)+1).toNat ev0)).set ((k:Int)+1).toNat (d.getD (k:Int).toNat ev0)),⟨by rw[←r1];simp,by simp only[List.length_append,List.length_singleton];omega,by rw[g1,g2,g3];simp⟩,by show B.length<(y::B).length;simp,Entails.mk' [(1000001,1000001)] rfl rfl ⟨lr,lr,SV.le_int (by omega),trivial⟩ ⟨Res.le_put2 (fun _=>rfl) (fun _=>rfl),trivial⟩⟩
theorem wSymBEv (g:FuncId)(f:Evn→Evn→Int)(hf:TOrd f)(P X S c:List Evn)(x:Evn)(a m b:Nat)(ha:P.length=a)(hm:a+X.length=m)(hX2:2≤X.length)(hb0:m+1=b)(hc:c=P++(X++([x]++S)))(hX:Srt f X)(hl:c.length≤2^20)
 (hcmp:∀p q,p ∈ X++ [x]→q ∈ X++ [x]→FSpec Tryz.prog g [.agg ((evF p).map .d),.agg ((evF q).map .d)] [] (fun y r=>y= .d (.int .i64 (f p q))∧r= [])):SymEv g f P X [x] S c a m b:=by
 have hl0:=hl;rw[hc]at hl0;simp only[List.length_append,List.length_singleton]at hl0;have hlc:c.length=P.length+(X.length+1)+S.length:=by rw[hc];simp only[List.length_append,List.length_singleton];omega
 have gx:c.getD (m:Int).toNat ev0=x:=by rw[hc,←List.append_assoc,getD_win (by simp only[List.length_append];omega) (by simp only[List.length_append,List.length_singleton];omega),show(m:Int).toNat - (P++X).length=0 by simp only[List.length_append];omega];rfl
 have gy:∀k,a≤k→k<m→c.getD k ev0=X.getD (k - a) ev0:=fun k h1 h2=>by
  rw[hc,getD_win (by omega) (by omega),ha]
 refine spAx hT Tryz.func171 Tryz.call171 ?_;conv=>whnf
 repeat' ((first|refine br_intro ?_ ?_<;>intro hb<;>try simp only[brs]at hb|refine tAx hT oAStC171 ?_|omega|refine sAx ?_|decide|assumption)<;>conv=>whnf)
 all_goals try(exfalso;omega)
 refine LoopX.rule hT (C:= []) (ι:=Nat×Nat) (fun(i,j)=>a≤i∧i≤j∧j≤m∧(i - a=0∨f (X.getD (i - a - 1) ev0) x≤0)∧(j - a=X.length∨f x (X.getD (j - a) ev0)≤0))
  (fun(i,j)=>mkSt [(0,.buf 1000001),(2,.d (.int .i64 m)),(4,.fn g []),(14,.d (.int .i64 i)),(15,.d (.int .i64 j))] [(1000001,seqB 146 5 evF ev0 c)])
  (fun(i,j)=>j - i) (a,m) ⟨Nat.le_refl _,by show a≤m;omega,Nat.le_refl _,.inl (by show a - a=0;omega),.inl (by show m - a=_;omega)⟩ (by exact eAx [(1000001,1000001)]) ?_
 rintro⟨i,j⟩ ⟨p1,p2,p3,p4,p5⟩;try dsimp only at p1 p2 p3 p4 p5
 rcases Nat.lt_or_ge i j with q|q
 · obtain⟨M,hM⟩:∃M,M=(i+j)/2:=⟨_,rfl⟩;have hh:=half2 i j (by omega) p2;rw[←hM]at hh;have gM:c.getD (M:Int).toNat ev0=X.getD (M - a) ev0:=by rw[Int.toNat_natCast];exact gy M (by omega) (by omega)
   have mM:X.getD (M - a) ev0 ∈ X++ [x]:=List.mem_append_left _ (getD_mem (by omega));conv=>whnf
   repeat' (first|(refine⟨rfl,?_⟩;conv=>whnf)|(rw[hh];conv=>whnf)|((first|(refine CallX.of (hcmp x (X.getD (M - a) ev0) (by simp) mM) [] rfl ⟨by rw[←gx];exact lr,by rw[←gM];exact lr,trivial⟩ trivial rfl rfl ?_;rintro y rout ⟨rfl,rfl⟩;refine⟨rfl,?_⟩)|refine br_intro ?_ ?_<;>intro hb<;>try simp only[brs]at hb|refine tAx hT oAStC171 ?_|omega|refine sAx ?_|decide|assumption)<;>conv=>whnf))
   all_goals try(exfalso;omega)
   · exact⟨(M+1,j),⟨by show a≤M+1;omega,by show M+1≤j;omega,p3,.inr (by show f (X.getD (M+1 - a - 1) _) _≤0;rw[show M+1 - a - 1=M - a by omega,hf.sw];omega),p5⟩,by show j - (M+1)<j - i;omega,(by exact eAx [(1000001,1000001)])⟩
   · exact⟨(i,M),⟨p1,by show i≤M;omega,by show M≤m;omega,p4,.inr (by show f _ (X.getD (M - a) _)≤0;omega)⟩,by show M - i<j - i;omega,(by exact eAx [(1000001,1000001)])⟩
 · have hij:i=j:=by omega
   subst hij;obtain⟨k1,k2,k3⟩:=cut_at X (i - a) (by omega);have s1:=srt_below hf hX (x:=x) (d:=ev0) (t:=i - a) (by omega) p4;have s2:=srt_above hf hX (x:=x) (d:=ev0) (t:=i - a) p5;generalize List.take (i - a) X=Y1 at k1 k2 s1;generalize List.drop (i - a) X=Y2 at k1 k3 s2;subst k1;have sZ:=srt_ins hX s1 s2;simp only[List.length_append]at hm hl0 k3;conv=>whnf
   repeat' ((first|refine br_intro ?_ ?_<;>intro hb<;>try simp only[brs]at hb|refine tAx hT oAStC171 ?_|omega|refine sAx ?_|decide|assumption)<;>conv=>whnf)
   all_goals try(exfalso;omega)
   refine LoopX.rule hT (C:= []) (ι:=Nat×List Evn×List Evn×List Evn) (fun(k,A,B,c)=>A.reverse++B=Y2∧A.length+i=k∧c=P++(Y1++(A.reverse++(x::(B++S)))))
    (fun(k,_,_,c)=>mkSt [(0,.buf 1000001),(14,.d (.int .i64 i)),(17,.d (.int .i64 k))] [(1000001,seqB 146 5 evF ev0 c)])
    (fun(_,A,_,_)=>A.length) (m,Y2.reverse,[],c) ⟨by simp,by show Y2.reverse.length+i=m;rw[List.length_reverse];omega,by rw[hc];simp⟩ (by exact eAx [(1000001,1000001)]) ?_
   rintro⟨k,A,B,d⟩ ⟨r1,r2,r3⟩;have r4:A.length+B.length=Y2.length:=by rw[←r1,List.length_append,List.length_reverse]
   have hld:d.length=c.length:=by rw[r3,hc,←r1];simp only[List.length_append,List.length_cons,List.length_nil,List.length_reverse];omega
   cases A with
   | nil=>
     rw[List.reverse_nil,List.nil_append]at r1;simp only[List.length_nil]at r4 r2;conv=>whnf
     repeat' ((first|refine br_intro ?_ ?_<;>intro hb<;>try simp only[brs]at hb|refine tAx hT oAStC171 ?_|omega|refine sAx ?_|decide|assumption)<;>conv=>whnf)
     all_goals try(exfalso;omega)
     refine .ret _ ?_;conv=>whnf
     exact⟨_,⟨rfl,Y1++x::Y2,by rw[List.append_assoc];exact List.Perm.append_left Y1 (List.perm_append_singleton x Y2).symm,sZ,rfl⟩,by rw[r3,r1];simp only[List.append_assoc,List.cons_append,List.nil_append,List.reverse_nil];exact rr,trivial⟩
   | cons y A=>
     simp only[List.length_cons]at r4 r2;obtain⟨g1,g2,g3⟩:=swp_at (P++(Y1++A.reverse)) [] (B++S) y x ev0;have hc':d=(P++(Y1++A.reverse))++y::([]++x::(B++S)):=by rw[r3];simp
     have i1:((k:Int) - 1).toNat=(P++(Y1++A.reverse)).length:=by simp only[List.length_append,List.length_reverse];omega
     have i2:(k:Int).toNat=(P++(Y1++A.reverse)).length+1+([]:List Evn).length:=by simp only[List.length_append,List.length_nil,List.length_reverse];omega
     rw[←hc',←i1]at g1;rw[←hc',←i2]at g2;rw[←hc',←i2,←i1]at g3;conv=>whnf
     repeat' ((first|refine br_intro ?_ ?_<;>intro hb<;>try simp only[brs]at hb|refine tAx hT oAStC171 ?_|omega|refine sAx ?_|decide|assumption)<;>conv=>whnf)
     all_goals try(exfalso;omega)
     refine⟨(k - 1,A,y::B,(d.set (k:Int).toNat (d.getD ((k:Int) - 1).toNat ev0)).set ((k:Int) - 1).toNat (d.getD (k:Int).toNat ev0)),⟨by rw[←r1];simp,by omega,?_⟩,by show A.length<(y::A).length;simp,Entails.mk' [(1000001,1000001)] rfl rfl ⟨lr,lr,SV.le_int (by omega),trivial⟩ ⟨Res.le_put2 (fun _=>rfl) (fun _=>rfl),trivial⟩⟩;rw[List.set_comm _ _ (by omega),g1,g2,g3];simp
def oAStD171_5:List (Nat×List Nat):= [(0,[]),(1,[0]),(2,[0,1]),(3,[0]),(4,[0]),(5,[0,1,2,3,4]),(6,[0,1,2,3,4,5]),(7,[0,1,2,3,4]),(8,[0,1,2,3,4]),(9,[]),(10,[])]
def oAStD171_11:List (Nat×List Nat):= [(0,[]),(1,[0]),(2,[0,1]),(3,[0,1,2]),(4,[0,1,2]),(5,[0,1,2,3,4]),(6,[0,1,2,3,4,5]),(7,[0,1,2,3,4,5]),(8,[0,1,2,3,4]),(9,[0,1,2,3,4]),(10,[0,1,2,3,4,5,6,7,8,9]),(11,[0,1,2,3,4,5,6,7,8,9,10]),(12,[0,1,2,3,4,5,6,7,8,9]),(13,[0,1,2,3,4,5,6,7,8,9]),(14,[2,3,4]),(15,[2,3,4]),(16,[]),(17,[])]
def oAStD171_17:List (Nat×List Nat):= [(0,[]),(1,[0]),(2,[0,1]),(3,[0]),(4,[0]),(5,[0,1,2,3,4]),(6,[0,1,2,3,4,5]),(7,[0,1,2,3,4]),(8,[0,1,2,3,4]),(9,[]),(10,[]),(11,[])]
def oAStD171_23:List (Nat×List Nat):= [(0,[]),(1,[0]),(2,[0,1]),(3,[0,1,2]),(4,[0,1,2]),(5,[0,1,2,3,4]),(6,[0,1,2,3,4,5]),(7,[0,1,2,3,4,5]),(8,[0,1,2,3,4]),(9,[0,1,2,3,4]),(10,[0,1,2,3,4,5,6,7,8,9]),(11,[0,1,2,3,4,5,6,7,8,9,10]),(12,[0,1,2,3,4,5,6,7,8,9]),(13,[0,1,2,3,4,5,6,7,8,9]),(14,[2,3,4]),(15,[2,3,4]),(16,[]),(17,[])]
def oAStD171_35:List (Nat×List Nat):= [(0,[]),(1,[0]),(2,[0,1]),(3,[0,1,2]),(4,[0,1]),(5,[0]),(6,[0]),(7,[0,1,2,3,4,5,6]),(8,[0,1,2,3,4,5,6,7]),(9,[0,1,2,3,4,5,6]),(10,[0,1,2,3,4,5,6]),(11,[]),(12,[]),(13,[])]
theorem wSymCEv (g:FuncId)(f:Evn→Evn→Int)(hf:TOrd f)(P X Y S c:List Evn)(a m b:Nat)(ha:P.length=a)(hm:a+X.length=m)(hb0:m+Y.length=b)(hc:c=P++(X++(Y++S)))(hX2:2≤X.length)(hY2:2≤Y.length)(hX:Srt f X)(hY:Srt f Y)(hl:c.length≤2^20)
 (hcmp:∀p q,p ∈ X++Y→q ∈ X++Y→FSpec Tryz.prog g [.agg ((evF p).map .d),.agg ((evF q).map .d)] [] (fun y r=>y= .d (.int .i64 (f p q))∧r= []))
 (ih:∀ (P X' Y' S c:List Evn) (a m b:Nat),P.length=a→a+X'.length=m→m+Y'.length=b→c=P++(X'++(Y'++S))→1≤X'.length→1≤Y'.length→X'.length+Y'.length<X.length+Y.length→Srt f X'→Srt f Y'→c.length≤2^20→(∀p ∈ X'++Y',p ∈ X++Y)→SymEv g f P X' Y' S c a m b):SymEv g f P X Y S c a m b:=by
 have hl0:=hl
 rw[hc]at hl0
 simp only[List.length_append]at hl0
 have hlc:c.length=P.length+(X.length+Y.length)+S.length:=by rw[hc];simp only[List.length_append];omega
 have gx:∀k,a≤k→k<m→c.getD k ev0=X.getD (k - a) ev0:=fun k h1 h2=>by
  rw[hc,getD_win (by omega) (by omega),ha]
 have gy:∀k,m≤k→k<b→c.getD k ev0=Y.getD (k - m) ev0:=fun k h1 h2=>by
  rw[hc,←List.append_assoc,getD_win (by simp only[List.length_append];omega) (by simp only[List.length_append];omega)]
  congr 1
  simp only[List.length_append];omega
 obtain⟨Md,hMd⟩:∃Md,Md=(a+b)/2:=⟨_,rfl⟩
 have hh0:=half2 a b (by omega) (by omega)
 rw[←hMd]at hh0
 obtain⟨s0,r0,h01,h02⟩:∃s0 r0:Nat,(Md<m→s0=Md+m - b∧r0=Md)∧(m≤Md→s0=a∧r0=m):=by
  by_cases q:Md<m
  · exact⟨Md+m - b,Md,fun _=>⟨rfl,rfl⟩,fun h=>by omega⟩
  · exact⟨a,m,fun h=>by omega,fun _=>⟨rfl,rfl⟩⟩
 have h03:s0≤r0∧a≤s0∧r0≤m∧r0≤Md:=by
  rcases Nat.lt_or_ge Md m with q|q
  · have:=h01 q;omega
  · have:=h02 q;omega
 obtain⟨h03,h04,h05,h06⟩:=h03
 refine spec_of hT (C:= []) Tryz.func171 rfl Tryz.call171 rfl rfl rfl ?_
 conv=>whnf
 repeat' (first|(refine⟨rfl,?_⟩;conv=>whnf)|(rw[hh0];conv=>whnf)|(refine br_intro ?_ ?_<;>intro hb<;>(try simp only[brs]at hb)<;>conv=>whnf)|(refine RegX.rule (id:=5) hT rfl [] oAStD171_5 (by decide+kernel) ?_;conv=>whnf)|(refine RegX.rule (id:=11) hT rfl [] oAStD171_11 (by decide+kernel) ?_;conv=>whnf)|(refine RegX.rule (id:=17) hT rfl [] oAStD171_17 (by decide+kernel) ?_;conv=>whnf)|(refine RegX.rule (id:=23) hT rfl [] oAStD171_23 (by decide+kernel) ?_;conv=>whnf)|(refine RegX.rule (id:=35) hT rfl [] oAStD171_35 (by decide+kernel) ?_;conv=>whnf)|omega|(refine And.intro ?_ ?_;((try dsimp only);first|omega|(refine szA rfl ?_;omega)|(refine szB rfl ?_;omega)|(unfold inI64;omega)|exact rfl|(simp only[List.toList_toArray,List.length_cons,List.length_nil];omega)|(simp only[lns]at*;omega)|decide|(unfold inI64;decide));conv=>whnf)|decide|assumption)
 all_goals try(exfalso;omega)
 all_goals
  refine LoopX.rule hT (C:= []) (ι:=Nat×Nat) (fun(s,r)=>s0≤s∧s≤r∧r≤r0∧(s=s0∨f (X.getD (s - a - 1) ev0) (Y.getD (Md - s) ev0)≤0)∧(r=r0∨f (Y.getD (Md - r - 1) ev0) (X.getD (r - a) ev0)≤0))
   (fun(s,r)=>mkSt [(0,.buf 1000001),(1,.d (.int .i64 a)),(2,.d (.int .i64 m)),(3,.d (.int .i64 b)),(4,.fn g []),(18,.d (.int .i64 Md)),(19,.d (.int .i64 ((Md+m:Nat):Int))),(20,.d (.int .i64 s)),(21,.d (.int .i64 r)),(22,.d (.int .i64 ((Md+m - 1:Nat):Int)))] [(1000001,seqB 146 5 evF ev0 c)])
   (fun(s,r)=>r - s) (s0,r0) ⟨Nat.le_refl _,h03,Nat.le_refl _,.inl rfl,.inl rfl⟩ (by(refine Entails.mk' [(1000001,1000001)] rfl rfl ?_ ?_<;>repeat' (first|exact True.intro|exact lr|exact rr|exact SV.le_int (by omega)|exact SV.le_any _|refine And.intro ?_ ?_));done) ?_
  rintro⟨s,r⟩ ⟨p1,p2,p3,p4,p5⟩
  try dsimp only at p1 p2 p3 p4 p5
  rcases Nat.lt_or_ge s r with q|q
  · obtain⟨C,hC⟩:∃C,C=(s+r)/2:=⟨_,rfl⟩
    have hh:=half2 s r (by omega) p2
    rw[←hC]at hh
    have hCb:s≤C∧C<r:=by omega
    have gM:c.getD (C:Int).toNat ev0=X.getD (C - a) ev0:=by rw[Int.toNat_natCast];exact gx C (by omega) (by omega)
    have gN:c.getD (((Md+m - 1:Nat):Int) - (C:Int)).toNat ev0=Y.getD (Md - C - 1) ev0:=by
     rw[show(((Md+m - 1:Nat):Int) - (C:Int)).toNat=Md+m - 1 - C by omega,gy _ (by omega) (by rcases Nat.lt_or_ge Md m with t|t;(have:=h01 t;omega);(have:=h02 t;omega))]
     congr 1;omega
    have mM:X.getD (C - a) ev0 ∈ X++Y:=List.mem_append_left _ (getD_mem (by omega))
    have mN:Y.getD (Md - C - 1) ev0 ∈ X++Y:=List.mem_append_right _ (getD_mem (by rcases Nat.lt_or_ge Md m with t|t;(have:=h01 t;omega);(have:=h02 t;omega)))
    have hbd:Md+m - 1 - C<b:=by rcases Nat.lt_or_ge Md m with t|t;(have:=h01 t;omega);(have:=h02 t;omega)
    conv=>whnf
    repeat' (first|(refine⟨rfl,?_⟩;conv=>whnf)|(rw[hh];conv=>whnf)|(refine CallX.of (hcmp (Y.getD (Md - C - 1) ev0) (X.getD (C - a) ev0) mN mM) [] rfl ⟨by rw[←gN];exact lr,by rw[←gM];exact lr,trivial⟩ trivial rfl rfl ?_;rintro y rout ⟨rfl,rfl⟩;refine⟨rfl,?_⟩;conv=>whnf)|(refine br_intro ?_ ?_<;>intro hb<;>(try simp only[brs]at hb)<;>conv=>whnf)|(refine RegX.rule (id:=5) hT rfl [] oAStD171_5 (by decide+kernel) ?_;conv=>whnf)|(refine RegX.rule (id:=11) hT rfl [] oAStD171_11 (by decide+kernel) ?_;conv=>whnf)|(refine RegX.rule (id:=17) hT rfl [] oAStD171_17 (by decide+kernel) ?_;conv=>whnf)|(refine RegX.rule (id:=23) hT rfl [] oAStD171_23 (by decide+kernel) ?_;conv=>whnf)|(refine RegX.rule (id:=35) hT rfl [] oAStD171_35 (by decide+kernel) ?_;conv=>whnf)|omega|(refine And.intro ?_ ?_;((try dsimp only);first|omega|(refine szA rfl ?_;omega)|(refine szB rfl ?_;omega)|(unfold inI64;omega)|exact rfl|(simp only[List.toList_toArray,List.length_cons,List.length_nil];omega)|(simp only[lns]at*;omega)|decide|(unfold inI64;decide));conv=>whnf)|decide|assumption)
    all_goals try(exfalso;omega)
    · exact⟨(C+1,r),⟨by show s0≤C+1;omega,by show C+1≤r;omega,p3,.inr (by show f (X.getD (C+1 - a - 1) _) (Y.getD (Md - (C+1)) _)≤0;rw[show C+1 - a - 1=C - a by omega,show Md - (C+1)=Md - C - 1 by omega,hf.sw];omega),p5⟩,by show r - (C+1)<r - s;omega,(by(refine Entails.mk' [(1000001,1000001)] rfl rfl ?_ ?_<;>repeat' (first|exact True.intro|exact lr|exact rr|exact SV.le_int (by omega)|exact SV.le_any _|refine And.intro ?_ ?_));done)⟩
    · exact⟨(s,C),⟨p1,by show s≤C;omega,by show C≤r0;omega,p4,.inr (by show f (Y.getD (Md - C - 1) _) (X.getD (C - a) _)≤0;omega)⟩,by show C - s<r - s;omega,(by(refine Entails.mk' [(1000001,1000001)] rfl rfl ?_ ?_<;>repeat' (first|exact True.intro|exact lr|exact rr|exact SV.le_int (by omega)|exact SV.le_any _|refine And.intro ?_ ?_));done)⟩
  · have hij:s=r:=by omega
    subst hij
    have hsY:Md - s≤Y.length:=by rcases Nat.lt_or_ge Md m with t|t;(have:=h01 t;omega);(have:=h02 t;omega)
    have cr1:=srt_cross hf hX hY (d:=ev0) (s:=s - a) (e:=Md - s) (by omega) (by
     rcases p4 with t|t
     · rcases Nat.lt_or_ge Md m with u|u
       · have:=h01 u;exact .inr (.inl (by omega))
       · have:=h02 u;exact .inl (by omega)
     · exact .inr (.inr t))
    have cr2:=srt_cross hf hY hX (d:=ev0) (s:=Md - s) (e:=s - a) hsY (by
     rcases p5 with t|t
     · rcases Nat.lt_or_ge Md m with u|u
       · have:=h01 u;exact .inl (by omega)
       · have:=h02 u;exact .inr (.inl (by omega))
     · exact .inr (.inr t))
    obtain⟨k1,k2,k3⟩:=cut_at X (s - a) (by omega)
    obtain⟨k4,k5,k6⟩:=cut_at Y (Md - s) hsY
    generalize List.take (s - a) X=X1 at k1 k2 cr1
    generalize List.drop (s - a) X=X2 at k1 k3 cr2
    generalize List.take (Md - s) Y=Y1 at k4 k5 cr2
    generalize List.drop (Md - s) Y=Y2 at k4 k6 cr1
    clear gx gy p4 p5
    have hX':=hX
    have hY':=hY
    rw[←k1]at hX'
    rw[←k4]at hY'
    have J:=fun{Z1 Z2:List Evn} (p1:Z1.Perm (X1++Y1)) (s1:Srt f Z1) (p2:Z2.Perm (X2++Y2)) (s2:Srt f Z2)=>srt_join p1 s1 p2 s2 hX' hY' cr1 cr2
    rw[k1,k4]at J
    have uX:=List.pairwise_append.1 hX'
    have uY:=List.pairwise_append.1 hY'
    have sL:X1.length=0∨Y1.length=0→Srt f (X1++Y1):=fun h=>by
     rcases h with h|h
     · rw[List.length_eq_zero_iff.1 h];exact uY.1
     · rw[List.length_eq_zero_iff.1 h,List.append_nil];exact uX.1
    have sR:X2.length=0∨Y2.length=0→Srt f (X2++Y2):=fun h=>by
     rcases h with h|h
     · rw[List.length_eq_zero_iff.1 h];exact uY.2.1
     · rw[List.length_eq_zero_iff.1 h,List.append_nil];exact uX.2.1
    have eC:X2.length=0∨Y1.length=0→c=P++(X1++(Y1++(X2++(Y2++S)))):=fun h=>by
     rw[hc,←k1,←k4]
     rcases h with h|h<;>rw[List.length_eq_zero_iff.1 h]<;>simp
    have eR:c=(P++X1)++(X2++(Y1++(Y2++S))):=by rw[hc,←k1,←k4];simp
    have hlc2:P.length+X1.length+X2.length+Y1.length+Y2.length+S.length≤2^20:=by omega
    have mL:∀p ∈ X1++Y1,p ∈ X++Y:=fun p hp=>by
     rw[←k1,←k4];rcases List.mem_append.1 hp with t|t<;>simp[t]
    have mR:∀p ∈ X2++Y2,p ∈ X++Y:=fun p hp=>by
     rw[←k1,←k4];rcases List.mem_append.1 hp with t|t<;>simp[t]
    conv=>whnf
    repeat' (first|(refine CallX.of (wRotEv g (P++X1) X2 Y1 (Y2++S) c s m (Md+m - s) (by rw[List.length_append];omega) (by omega) (by omega) eR (by omega) (by omega) hl) [(1000001,1000001)] rfl ⟨lr,lr,lr,SV.le_int (by omega),lr,trivial⟩ ⟨rr,trivial⟩ rfl rfl ?_;rintro y rout ⟨rfl,rfl⟩;refine⟨rfl,?_⟩;conv=>whnf)|(refine CallX.of (ih P X1 Y1 (X2++(Y2++S)) ((P++X1)++(Y1++(X2++(Y2++S)))) a s Md ha (by omega) (by omega) (by simp) (by omega) (by omega) (by omega) uX.1 uY.1 (by simp only[List.length_append];omega) mL) [(1000001,1000001)] rfl ⟨lr,lr,lr,lr,lr,trivial⟩ ⟨rr,trivial⟩ rfl rfl ?_;rintro y rout ⟨rfl,Z1,z1,z2,rfl⟩;refine⟨rfl,?_⟩;conv=>whnf)|(refine CallX.of (ih P X1 Y1 (X2++(Y2++S)) c a s Md ha (by omega) (by omega) (eC (by omega)) (by omega) (by omega) (by omega) uX.1 uY.1 hl mL) [(1000001,1000001)] rfl ⟨lr,lr,lr,lr,lr,trivial⟩ ⟨rr,trivial⟩ rfl rfl ?_;rintro y rout ⟨rfl,Z1,z1,z2,rfl⟩;refine⟨rfl,?_⟩;conv=>whnf)|(refine CallX.of (ih (P++Z1) X2 Y2 S (P++(Z1++(X2++(Y2++S)))) Md (Md+m - s) b (by rw[List.length_append,z1.length_eq,List.length_append];omega) (by omega) (by omega) (by simp) (by omega) (by omega) (by omega) uX.2.1 uY.2.1 (by have:=z1.length_eq;simp only[List.length_append]at this ⊢;omega) mR) [(1000001,1000001)] rfl ⟨lr,lr,SV.le_int (by omega),lr,lr,trivial⟩ ⟨rr,trivial⟩ rfl rfl ?_;rintro y rout ⟨rfl,Z2,z3,z4,rfl⟩;refine⟨rfl,?_⟩;conv=>whnf)|(refine CallX.of (ih (P++(X1++Y1)) X2 Y2 S ((P++X1)++(Y1++(X2++(Y2++S)))) Md (Md+m - s) b (by simp only[List.length_append];omega) (by omega) (by omega) (by simp) (by omega) (by omega) (by omega) uX.2.1 uY.2.1 (by simp only[List.length_append];omega) mR) [(1000001,1000001)] rfl ⟨lr,lr,SV.le_int (by omega),lr,lr,trivial⟩ ⟨rr,trivial⟩ rfl rfl ?_;rintro y rout ⟨rfl,Z2,z3,z4,rfl⟩;refine⟨rfl,?_⟩;conv=>whnf)|(refine CallX.of (ih (P++(X1++Y1)) X2 Y2 S c Md (Md+m - s) b (by simp only[List.length_append];omega) (by omega) (by omega) (by rw[eC (by omega)];simp) (by omega) (by omega) (by omega) uX.2.1 uY.2.1 hl mR) [(1000001,1000001)] rfl ⟨lr,lr,SV.le_int (by omega),lr,lr,trivial⟩ ⟨rr,trivial⟩ rfl rfl ?_;rintro y rout ⟨rfl,Z2,z3,z4,rfl⟩;refine⟨rfl,?_⟩;conv=>whnf)|(refine br_intro ?_ ?_<;>intro hb<;>(try simp only[brs]at hb)<;>conv=>whnf)|(refine RegX.rule (id:=5) hT rfl [] oAStD171_5 (by decide+kernel) ?_;conv=>whnf)|(refine RegX.rule (id:=11) hT rfl [] oAStD171_11 (by decide+kernel) ?_;conv=>whnf)|(refine RegX.rule (id:=17) hT rfl [] oAStD171_17 (by decide+kernel) ?_;conv=>whnf)|(refine RegX.rule (id:=23) hT rfl [] oAStD171_23 (by decide+kernel) ?_;conv=>whnf)|(refine RegX.rule (id:=35) hT rfl [] oAStD171_35 (by decide+kernel) ?_;conv=>whnf)|omega|(refine And.intro ?_ ?_;((try dsimp only);first|omega|(refine szA rfl ?_;omega)|(refine szB rfl ?_;omega)|(unfold inI64;omega)|exact rfl|(simp only[List.toList_toArray,List.length_cons,List.length_nil];omega)|(simp only[lns]at*;omega)|decide|(unfold inI64;decide));conv=>whnf)|decide|assumption)
    all_goals try(exfalso;omega)
    all_goals
     refine .ret _ ?_
     conv=>whnf
     first
      |exact⟨_,⟨rfl,Z1++Z2,(J z1 z2 z3 z4).1,(J z1 z2 z3 z4).2,rfl⟩,by simp only[List.append_assoc];exact rr,trivial⟩
      |exact⟨_,⟨rfl,Z1++(X2++Y2),(J z1 z2 (List.Perm.refl _) (sR (by omega))).1,(J z1 z2 (List.Perm.refl _) (sR (by omega))).2,rfl⟩,by simp only[List.append_assoc];exact rr,trivial⟩
      |exact⟨_,⟨rfl,(X1++Y1)++Z2,(J (List.Perm.refl _) (sL (by omega)) z3 z4).1,(J (List.Perm.refl _) (sL (by omega)) z3 z4).2,rfl⟩,by simp only[List.append_assoc];exact rr,trivial⟩
      |exact⟨_,⟨rfl,(X1++Y1)++(X2++Y2),(J (List.Perm.refl _) (sL (by omega)) (List.Perm.refl _) (sR (by omega))).1,(J (List.Perm.refl _) (sL (by omega)) (List.Perm.refl _) (sR (by omega))).2,rfl⟩,by simp only[List.append_assoc];exact rr,trivial⟩
      |exact⟨_,⟨rfl,(X1++Y1)++(X2++Y2),(J (List.Perm.refl _) (sL (by omega)) (List.Perm.refl _) (sR (by omega))).1,(J (List.Perm.refl _) (sL (by omega)) (List.Perm.refl _) (sR (by omega))).2,rfl⟩,by rw[eC (by omega)];simp only[List.append_assoc];exact rr,trivial⟩
theorem wSymEv (g:FuncId)(f:Evn→Evn→Int)(hf:TOrd f):∀ (n:Nat) (P X Y S c:List Evn) (a m b:Nat),X.length+Y.length≤n→P.length=a→a+X.length=m→m+Y.length=b→c=P++(X++(Y++S))→1≤X.length→1≤Y.length→Srt f X→Srt f Y→c.length≤2^20→
 (∀p q,p ∈ X++Y→q ∈ X++Y→FSpec Tryz.prog g [.agg ((evF p).map .d),.agg ((evF q).map .d)] [] (fun y r=>y= .d (.int .i64 (f p q))∧r= []))→SymEv g f P X Y S c a m b
 |0=>fun P X Y S c a m b h0 _ _ _ _ hX1 _ _ _ _ _=>by omega
 | n +1=>fun P X Y S c a m b h0 ha hm hb0 hc hX1 hY1 hX hY hl hcmp=>by
   by_cases q:X.length=1
   · obtain⟨x,rfl⟩:=List.length_eq_one_iff.1 q
     exact wSymAEv g f hf P Y S c x a m b ha hm hb0 hc hY hl hcmp
   by_cases r:Y.length=1
   · obtain⟨x,rfl⟩:=List.length_eq_one_iff.1 r
     exact wSymBEv g f hf P X S c x a m b ha hm (by omega) hb0 hc hX hl hcmp
   exact wSymCEv g f hf P X Y S c a m b ha hm hb0 hc (by omega) (by omega) hX hY hl hcmp fun P X' Y' S c a m b k1 k2 k3 k4 k5 k6 k7 k8 k9 k10 k11=>
    wSymEv g f hf n P X' Y' S c a m b (by omega) k1 k2 k3 k4 k5 k6 k8 k9 k10 fun p q hp hq=>hcmp p q (k11 p hp) (k11 q hq)
def oAStE170:TL:= [(4,[(0,[]),(1,[0]),(2,[]),(3,[]),(4,[]),(5,[4]),(6,[4,5]),(7,[4]),(8,[4]),(9,[4,5,6,7,8]),(10,[4,5,6,7,8,9]),(11,[4,5,6,7,8,9]),(12,[4,5,6,7,8]),(13,[4,5,6,7,8]),(14,[]),(15,[]),(16,[])]),(6,[(0,[]),(1,[0]),(2,[0,1]),(3,[0,1,2]),(4,[0,1,2]),(5,rg 5),(6,rg 6),(7,rg 6),(8,rg 5),(9,rg 5),(10,rg 10),(11,rg 11),(12,rg 10),(13,rg 10),(14,[2,3,4]),(15,[2,3,4]),(16,[]),(17,[])])]
def oAStE96:TL:= [(1,[(0,[]),(1,[]),(2,[0,1]),(3,[0,1]),(5,rg 4),(6,rg 4),(7,[0,1,2,3,5,6]),(8,[0,1,2,3,5,6]),(4,[5,6,7,8]),(9,[]),(10,[]),(11,[]),(12,[])])]
theorem wInsREv (g:FuncId)(cmp:Evn→Evn→Int)(P l S c0:List Evn)(a b0:Nat)(ha:P.length=a)(hbb:a+l.length=b0)(hc0:c0=P++(l++S))(hl:c0.length≤2^20)
 (hcmp:∀p q,p ∈ l→q ∈ l→FSpec Tryz.prog g [.agg ((evF p).map .d),.agg ((evF q).map .d)] [] (fun y r=>y= .d (.int .i64 (cmp p q))∧r= [])):
 FSpec Tryz.prog 170 [.buf 1000001,.d (.int .i64 a),.d (.int .i64 b0),.fn g []] [(1000001,seqB 146 5 evF ev0 c0)]
  (fun y r=>y= .tup []∧r= [(1000001,seqB 146 5 evF ev0 (P++(isort cmp l++S)))]):=by
 have hl0:=hl;rw[hc0]at hl0;simp only[List.length_append]at hl0;refine spAx hT Tryz.func170 Tryz.call170 ?_;conv=>whnf
 repeat' ((first|refine br_intro ?_ ?_<;>intro hb<;>try simp only[brs]at hb|refine tAx hT oAStE170 ?_|omega|refine sAx ?_|decide|assumption)<;>conv=>whnf)
 refine LoopX.rule hT (C:= []) (ι:=Nat×Nat×List Evn) (fun(k,i,c)=>k=a+i∧1≤i∧(i≤l.length∨i=1)∧c=P++((isortR cmp (l.take i)).reverse++(l.drop i++S)))
  (fun(k,_,c)=>mkSt [(0,.buf 1000001),(1,.d (.int .i64 a)),(2,.d (.int .i64 b0)),(3,.fn g []),(8,.d (.int .i64 k))] [(1000001,seqB 146 5 evF ev0 c)])
  (fun(_,i,_)=>l.length - i) (a+1,1,c0) ⟨rfl,by simp,by simp,by rw[hc0];cases l with|nil=>rfl|cons x l=>simp[isortR,insR]⟩ (by exact eAx [(1000001,1000001)]) ?_
 rintro⟨k,i,c⟩ ⟨p0,p1,p2,p3⟩;try dsimp only at p0 p1 p2 p3
 rcases Nat.lt_or_ge i l.length with hi|hi
 · have hx:l[i] ∈ l:=List.getElem_mem hi;have hmem:∀y ∈ isortR cmp (l.take i),y ∈ l:=fun y hy=>List.mem_of_mem_take ((isortR_mem cmp _).1 hy)
   have hlr:(isortR cmp (l.take i)).length=i:=by rw[isortR_length,List.length_take];omega
   have hc:c=P++((isortR cmp (l.take i)).reverse++(l[i]::([]++(l.drop (i+1)++S)))):=by rw[p3,List.drop_eq_getElem_cons hi];rfl
   have hlc:c.length=P.length+l.length+S.length:=by rw[hc];simp only[List.length_append,List.length_cons,List.length_reverse,List.length_drop,List.length_nil,hlr];omega
   conv=>whnf
   repeat' ((first|refine br_intro ?_ ?_<;>intro hb<;>try simp only[brs]at hb|refine tAx hT oAStE170 ?_|omega|refine sAx ?_|decide|assumption)<;>conv=>whnf)
   all_goals try(exfalso;omega)
   refine LoopX.rule hT (C:= []) (ι:=Nat×List Evn×List Evn×List Evn) (fun(j,A,B,b)=>j=a+A.length∧insR cmp l[i] (isortR cmp (l.take i))=B.reverse++insR cmp l[i] A∧A.length+B.length=i∧(∀y ∈ A,y ∈ l)∧b=P++(A.reverse++(l[i]::(B++(l.drop (i+1)++S)))))
    (fun(j,_,_,b)=>mkSt [(0,.buf 1000001),(1,.d (.int .i64 a)),(2,.d (.int .i64 b0)),(3,.fn g []),(8,.d (.int .i64 k)),(9,.d (.int .i64 j))] [(1000001,seqB 146 5 evF ev0 b)])
    (fun(_,A,_,_)=>A.length) (k,isortR cmp (l.take i),[],c) ⟨by omega,by simp,by simpa using hlr,hmem,hc⟩ (by exact eAx [(1000001,1000001)]) ?_
   rintro⟨j,A,B,b⟩ ⟨q0,q1,q2,q3,hbd⟩;try dsimp only at q0 q1 q2 q3 hbd
   have hlen:b.length=P.length+l.length+S.length:=by rw[hbd];simp only[List.length_append,List.length_cons,List.length_reverse,List.length_drop];omega
   have hfin:A= []∨(∃y A',A=y::A'∧0≤cmp l[i] y)→b=P++((isortR cmp (l.take (i+1))).reverse++(l.drop (i+1)++S)):=fun h=>by
    have e:isortR cmp (l.take (i+1))=B.reverse++l[i]::A:=by
     rw[take_snoc hi,isortR_snoc,q1];rcases h with rfl|⟨y,A',rfl,h⟩
     · rfl
     · rw[insR,if_neg (by omega)]
    rw[e,hbd];simp
   cases A with
   | nil=>
     simp only[List.length_nil]at q0 q2;conv=>whnf
     repeat' ((first|refine br_intro ?_ ?_<;>intro hb<;>try simp only[brs]at hb|refine tAx hT oAStE170 ?_|omega|refine sAx ?_|decide|assumption)<;>conv=>whnf)
     all_goals try(exfalso;omega)
     exact⟨(k+1,i+1,b),⟨by show k+1=a+(i+1);omega,by show 1≤i+1;omega,.inl hi,hfin (.inl rfl)⟩,by show l.length - (i+1)<l.length - i;omega,(by exact eAx [(1000001,1000001)])⟩
   | cons y A=>
     simp only[List.length_cons]at q0 q2;obtain⟨g1,g2,g3⟩:=swp_at (P++A.reverse) [] (B++(l.drop (i+1)++S)) y l[i] ev0;have hc':b=(P++A.reverse)++y::([]++l[i]::(B++(l.drop (i+1)++S))):=by rw[hbd];simp
     have i1:((j:Int) - 1).toNat=(P++A.reverse).length:=by simp only[List.length_append,List.length_reverse];omega
     have i2:(j:Int).toNat=(P++A.reverse).length+1+([]:List Evn).length:=by simp only[List.length_append,List.length_nil,List.length_reverse];omega
     rw[←hc',←i1]at g1;rw[←hc',←i2]at g2;rw[←hc',←i2,←i1]at g3;conv=>whnf
     repeat' ((first|(refine CallX.of (hcmp l[i] y hx (q3 y (by simp))) [] rfl ⟨by rw[←g2];exact lr,by rw[←g1];exact lr,trivial⟩ trivial rfl rfl ?_;rintro x rout ⟨rfl,rfl⟩;refine⟨rfl,?_⟩)|refine br_intro ?_ ?_<;>intro hb<;>try simp only[brs]at hb|refine tAx hT oAStE170 ?_|omega|refine sAx ?_|decide|assumption)<;>conv=>whnf)
     all_goals try(exfalso;omega)
     · refine⟨(j - 1,A,y::B,(b.set (j:Int).toNat (b.getD ((j:Int) - 1).toNat ev0)).set ((j:Int) - 1).toNat (b.getD (j:Int).toNat ev0)),⟨by omega,by rw[q1];simp[insR,hb],by simp only[List.length_cons];omega,fun z hz=>q3 z (by simp[hz]),?_⟩,by show A.length<(y::A).length;simp,Entails.mk' [(1000001,1000001)] rfl rfl ⟨lr,lr,lr,lr,lr,SV.le_int (by omega),trivial⟩ ⟨Res.le_put2 (fun _=>rfl) (fun _=>rfl),trivial⟩⟩;rw[List.set_comm _ _ (by omega),g1,g2,g3];simp
     · exact⟨(k+1,i+1,b),⟨by show k+1=a+(i+1);omega,by show 1≤i+1;omega,.inl hi,hfin (.inr ⟨y,A,rfl,by omega⟩)⟩,by show l.length - (i+1)<l.length - i;omega,(by exact eAx [(1000001,1000001)])⟩
 · conv=>whnf
   repeat' ((first|refine br_intro ?_ ?_<;>intro hb<;>try simp only[brs]at hb|refine tAx hT oAStE170 ?_|omega|refine sAx ?_|decide|assumption)<;>conv=>whnf)
   all_goals try(exfalso;omega)
   refine .ret _ ?_;conv=>whnf
   have e1:c=P++(isort cmp l++S):=by
    rw[p3,List.take_of_length_le (by omega),List.drop_eq_nil_iff.2 (by omega),List.nil_append];rfl
   subst e1;exact⟨_,⟨rfl,rfl⟩,rr,trivial⟩
theorem wStabEv (g:FuncId)(f:Evn→Evn→Int)(hf:TOrd f)(l:List Evn)(hl:l.length≤2^19)
 (hcmp:∀p q,p ∈ l→q ∈ l→FSpec Tryz.prog g [.agg ((evF p).map .d),.agg ((evF q).map .d)] [] (fun y r=>y= .d (.int .i64 (f p q))∧r= [])):
 FSpec Tryz.prog 131 [.buf 1000001,.d (.int .i64 l.length),.fn g []] [(1000001,seqB 146 5 evF ev0 l)]
  (fun y r=>y= .tup []∧∃Z,Z.Perm l∧Srt f Z∧r= [(1000001,seqB 146 5 evF ev0 Z)]):=by
 obtain⟨n,hn⟩:∃n,n=l.length:=⟨_,rfl⟩;rw[←hn]at hl ⊢;refine spAx hT Tryz.func131 Tryz.call131 ?_;conv=>whnf
 repeat' ((first|refine br_intro ?_ ?_<;>intro hb<;>try simp only[brs]at hb|omega|refine sAx ?_|decide|assumption)<;>conv=>whnf)
 refine LoopX.rule hT (C:= []) (ι:=Nat×List (List Evn)×List Evn×List Evn) (fun(a,D,R,c)=>(∀x ∈ D,x.length=20∧Srt f x)∧D.flatten.length=a∧c=D.flatten++R∧c.Perm l)
  (fun(a,_,_,c)=>mkSt [(0,.buf 1000001),(1,.d (.int .i64 n)),(2,.fn g []),(6,.d (.int .i64 20)),(7,.d (.int .i64 a)),(8,.d (.int .i64 ((a+20:Nat):Int)))] [(1000001,seqB 146 5 evF ev0 c)])
  (fun(_,_,R,_)=>R.length) (0,[],l,l) ⟨by simp,rfl,rfl,List.Perm.refl _⟩ (by exact eAx [(1000001,1000001)]) ?_
 rintro⟨a,D,R,c⟩ ⟨p1,p2,p3,p4⟩;try dsimp only at p1 p2 p3 p4
 have q1:a+R.length=n:=by rw[hn,←p4.length_eq,p3,List.length_append,p2]
 rcases Nat.lt_or_ge R.length 20 with q|q
 · have hcI:=wInsREv g f D.flatten R [] c a n p2 q1 (by rw[p3,List.append_nil]) (by rw[p4.length_eq];omega) (fun x y hx hy=>hcmp x y (p4.mem_iff.1 (by rw[p3];simp[hx])) (p4.mem_iff.1 (by rw[p3];simp[hy])));rw[List.append_nil]at hcI
   have p4':(D.flatten++isort f R).Perm l:=by
    refine List.Perm.trans ?_ p4;rw[p3];exact List.Perm.append_left _ (isort_perm f R)
   have hR:(isort f R).length=R.length:=(isort_perm f R).length_eq;have sR:=isort_srt hf R;generalize isort f R=T at hcI p4' hR sR;conv=>whnf
   repeat' ((first|(refine oEx hcI [(1000001,1000001)] ?_)|refine br_intro ?_ ?_<;>intro hb<;>try simp only[brs]at hb|omega|refine sAx ?_|decide|assumption)<;>conv=>whnf)
   all_goals try(exfalso;omega)
   refine LoopX.rule hT (C:= []) (ι:=Nat×List (List Evn)×List Evn×List Evn) (fun(bs,D,t,c)=>20≤bs∧bs≤2*n+20∧(∀x ∈ D,x.length=bs∧Srt f x)∧t.length<bs∧Srt f t∧c=D.flatten++t∧c.Perm l)
    (fun(bs,_,_,c)=>mkSt [(0,.buf 1000001),(1,.d (.int .i64 n)),(2,.fn g []),(6,.d (.int .i64 bs))] [(1000001,seqB 146 5 evF ev0 c)])
    (fun(bs,_,_,_)=>2*n - bs) (20,D,T,D.flatten++T) ⟨Nat.le_refl _,by show 20≤2*n+20;omega,p1,by show T.length<20;omega,sR,rfl,p4'⟩ (by exact eAx [(1000001,1000001)]) ?_
   clear hcI p4' sR hR p1 p2 p3 p4 q1 q;rintro⟨bs,D,t,c⟩ ⟨p1,p2,p3,p4,p5,p6,p7⟩;try dsimp only at p1 p2 p3 p4 p5 p6 p7
   have q1:D.flatten.length+t.length=n:=by rw[hn,←p7.length_eq,p6,List.length_append]
   rcases Nat.lt_or_ge bs n with q|q
   · conv=>whnf
     repeat' ((first|refine br_intro ?_ ?_<;>intro hb<;>try simp only[brs]at hb|omega|refine sAx ?_|decide|assumption)<;>conv=>whnf)
     all_goals try(exfalso;omega)
     refine LoopX.rule hT (C:= []) (ι:=Nat×List (List Evn)×List (List Evn)×List Evn) (fun(a,E,D,c)=>(∀x ∈ E,x.length=2*bs∧Srt f x)∧(∀x ∈ D,x.length=bs∧Srt f x)∧E.flatten.length=a∧c=E.flatten++(D.flatten++t)∧c.Perm l)
      (fun(a,_,_,c)=>mkSt [(0,.buf 1000001),(1,.d (.int .i64 n)),(2,.fn g []),(6,.d (.int .i64 bs)),(7,.d (.int .i64 a)),(8,.d (.int .i64 ((a+2*bs:Nat):Int)))] [(1000001,seqB 146 5 evF ev0 c)])
      (fun(_,_,D,_)=>D.length) (0,[],D,c) ⟨by simp,p3,rfl,p6,p7⟩ (by exact eAx [(1000001,1000001)]) ?_
     clear p3 p6 p7 q1;rintro⟨a,E,D,c⟩ ⟨r1,r2,r3,r4,r5⟩;try dsimp only at r1 r2 r3 r4 r5
     have q1:a+D.flatten.length+t.length=n:=by rw[hn,←r5.length_eq,r4,List.length_append,List.length_append];omega
     have hlc:c.length≤2^20:=by rw[r5.length_eq];omega
     have hcm:∀p q,p ∈ c→q ∈ c→FSpec Tryz.prog g [.agg ((evF p).map .d),.agg ((evF q).map .d)] [] (fun y r=>y= .d (.int .i64 (f p q))∧r= []):=fun p q hp hq=>hcmp p q (r5.mem_iff.1 hp) (r5.mem_iff.1 hq)
     match D,r2,r4,q1 with
     | [],r2,r4,q1=>
       simp only[List.flatten_nil,List.length_nil,List.nil_append]at q1 r4;conv=>whnf
       repeat' ((first|refine br_intro ?_ ?_<;>intro hb<;>try simp only[brs]at hb|omega|refine sAx ?_|decide|assumption)<;>conv=>whnf)
       all_goals try(exfalso;omega)
       exact⟨(2*bs,E,t,c),⟨by show 20≤2*bs;omega,by show 2*bs≤2*n+20;omega,r1,by show t.length<2*bs;omega,p5,r4,r5⟩,by show 2*n - 2*bs<2*n - bs;omega,(by exact eAx [(1000001,1000001)])⟩
     | [c1],r2,r4,q1=>
       simp only[List.flatten_cons,List.flatten_nil,List.append_nil]at q1 r4;have k1:=r2 c1 (by simp)
       by_cases ht:t.length=0
       · have et:t= []:=List.length_eq_zero_iff.1 ht;conv=>whnf
         repeat' ((first|refine br_intro ?_ ?_<;>intro hb<;>try simp only[brs]at hb|omega|refine sAx ?_|decide|assumption)<;>conv=>whnf)
         all_goals try(exfalso;omega)
         exact⟨(2*bs,E,c1,c),⟨by show 20≤2*bs;omega,by show 2*bs≤2*n+20;omega,r1,by show c1.length<2*bs;omega,k1.2,by show c=_;rw[r4,et,List.append_nil],r5⟩,by show 2*n - 2*bs<2*n - bs;omega,(by exact eAx [(1000001,1000001)])⟩
       · have hcS:=wSymEv g f hf (c1.length+t.length) E.flatten c1 t [] c a (a+bs) n (Nat.le_refl _) r3 (by omega) (by omega) (by rw[r4];simp) (by omega) (by omega) k1.2 p5 hlc (fun p q hp hq=>hcm p q (by rw[r4];exact List.mem_append_right _ hp) (by rw[r4];exact List.mem_append_right _ hq));conv=>whnf
         repeat' ((first|(refine CallX.of hcS [(1000001,1000001)] rfl ⟨lr,lr,SV.le_int (by omega),lr,lr,trivial⟩ ⟨rr,trivial⟩ rfl rfl ?_;rintro y rout ⟨rfl,Z,z1,z2,rfl⟩;refine⟨rfl,?_⟩)|refine br_intro ?_ ?_<;>intro hb<;>try simp only[brs]at hb|omega|refine sAx ?_|decide|assumption)<;>conv=>whnf)
         all_goals try(exfalso;omega)
         have hz:=z1.length_eq;rw[List.length_append]at hz;rw[List.append_nil]at*
         exact⟨(2*bs,E,Z,E.flatten++Z),⟨by show 20≤2*bs;omega,by show 2*bs≤2*n+20;omega,r1,by show Z.length<2*bs;omega,z2,rfl,(List.Perm.append_left _ z1).trans (by rw[←r4];exact r5)⟩,by show 2*n - 2*bs<2*n - bs;omega,(by exact eAx [(1000001,1000001)])⟩
     | c1::c2::D,r2,r4,q1=>
       simp only[List.flatten_cons,List.length_append]at q1;have k1:=r2 c1 (by simp);have k2:=r2 c2 (by simp);have r4':c=E.flatten++(c1++(c2++(D.flatten++t))):=by rw[r4];simp
       have hcS:=wSymEv g f hf (c1.length+c2.length) E.flatten c1 c2 (D.flatten++t) c a (a+bs) (a+2*bs) (Nat.le_refl _) r3 (by omega) (by omega) r4' (by omega) (by omega) k1.2 k2.2 hlc (fun p q hp hq=>hcm p q (by rw[r4'];rcases List.mem_append.1 hp with u|u<;>simp[u]) (by rw[r4'];rcases List.mem_append.1 hq with u|u<;>simp[u]));conv=>whnf
       repeat' ((first|(refine CallX.of hcS [(1000001,1000001)] rfl ⟨lr,lr,SV.le_int (by omega),lr,lr,trivial⟩ ⟨rr,trivial⟩ rfl rfl ?_;rintro y rout ⟨rfl,Z,z1,z2,rfl⟩;refine⟨rfl,?_⟩)|refine br_intro ?_ ?_<;>intro hb<;>try simp only[brs]at hb|omega|refine sAx ?_|decide|assumption)<;>conv=>whnf)
       all_goals try(exfalso;omega)
       have hz:=z1.length_eq;rw[List.length_append]at hz;refine⟨(a+2*bs,E++ [Z],D,E.flatten++(Z++(D.flatten++t))),⟨fun x hx=> ?_,fun x hx=>r2 x (by simp[hx]),by simp only[List.flatten_append,List.flatten_cons,List.flatten_nil,List.append_nil,List.length_append];omega,by simp,?_⟩,by show D.length<(c1::c2::D).length;simp;omega,(by exact eAx [(1000001,1000001)])⟩
       · rcases List.mem_append.1 hx with u|u
         · exact r1 x u
         · rw[List.mem_singleton]at u;subst u;exact⟨by omega,z2⟩
       · refine List.Perm.trans ?_ r5;rw[r4',←List.append_assoc c1];exact List.Perm.append_left _ (z1.append_right _)
   · conv=>whnf
     repeat' ((first|refine br_intro ?_ ?_<;>intro hb<;>try simp only[brs]at hb|omega|refine sAx ?_|decide|assumption)<;>conv=>whnf)
     all_goals try(exfalso;omega)
     refine .ret _ ?_;conv=>whnf
     refine⟨_,⟨rfl,c,p7,?_,rfl⟩,rr,trivial⟩
     match D,p3,p6,q1 with
     | [],p3,p6,q1=>rw[p6];exact p5
     | c1::D,p3,p6,q1=>
       have k1:=p3 c1 (by simp);simp only[List.flatten_cons,List.length_append]at q1;have h1:D.flatten= []:=List.length_eq_zero_iff.1 (by omega);have h2:t= []:=List.length_eq_zero_iff.1 (by omega);rw[p6,List.flatten_cons,h1,h2,List.append_nil,List.append_nil];exact k1.2
 · have hT0:(R.take 20).length=20:=by rw[List.length_take];omega
   have hR:R.take 20++R.drop 20=R:=List.take_append_drop 20 R;have hD:(R.drop 20).length=R.length - 20:=List.length_drop ..;generalize R.take 20=R1 at hT0 hR;generalize R.drop 20=R2 at hR hD;subst hR;have hcI:=wInsREv g f D.flatten R1 R2 c a (a+20) p2 (by omega) p3 (by rw[p4.length_eq];omega) (fun x y hx hy=>hcmp x y (p4.mem_iff.1 (by rw[p3];simp[hx])) (p4.mem_iff.1 (by rw[p3];simp[hy])));conv=>whnf
   repeat' ((first|(refine oEx hcI [(1000001,1000001)] ?_)|refine br_intro ?_ ?_<;>intro hb<;>try simp only[brs]at hb|omega|refine sAx ?_|decide|assumption)<;>conv=>whnf)
   all_goals try(exfalso;omega)
   refine⟨(a+20,D++ [isort f R1],R2,D.flatten++(isort f R1++R2)),⟨fun x hx=> ?_,by simp only[List.flatten_append,List.flatten_cons,List.flatten_nil,List.append_nil,List.length_append,(isort_perm f R1).length_eq];omega,by simp,?_⟩,by show R2.length<(R1++R2).length;rw[List.length_append];omega,(by exact eAx [(1000001,1000001)])⟩
   · rcases List.mem_append.1 hx with u|u
     · exact p1 x u
     · rw[List.mem_singleton]at u;subst u;exact⟨by rw[(isort_perm f R1).length_eq];exact hT0,isort_srt hf R1⟩
   · refine List.Perm.trans ?_ p4;rw[p3];exact List.Perm.append_left _ ((isort_perm f R1).append_right _)
theorem wSStEv (g:FuncId)(f:Evn→Evn→Int)(hf:TOrd f)(l:List Evn)(hl:l.length≤2^19)(hz:∀a ∈ l,∀b ∈ l,f a b=0→a=b)
 (hcmp:∀p q,p ∈ l→q ∈ l→FSpec Tryz.prog g [.agg ((evF p).map .d),.agg ((evF q).map .d)] [] (fun y r=>y= .d (.int .i64 (f p q))∧r= [])):
 FSpec Tryz.prog 95 [.buf 1000001,.fn g []] [(1000001,seqB 146 5 evF ev0 l)]
  (fun y r=>y= .tup []∧r= [(1000001,seqB 146 5 evF ev0 (isort f l))]):=by
 refine spAx hT Tryz.func95 Tryz.call95 ?_;conv=>whnf
 repeat' ((first|(refine oAx (wStabEv g f hf l hl hcmp) [(1000001,1000001)] ?_;rintro y rout ⟨rfl,Z,z1,z2,rfl⟩;refine⟨rfl,?_⟩)|refine br_intro ?_ ?_<;>intro hb<;>try simp only[brs]at hb|omega|refine sAx ?_|decide|assumption)<;>conv=>whnf)
 refine .ret _ ?_;conv=>whnf
 rw[sort_one hf hz z1 z2];exact⟨_,⟨rfl,rfl⟩,rr,trivial⟩
def evCmp (a b:Evn):Int:=firstE [cmpI a.tm b.tm,cmpS a.veh b.veh]
theorem evCmp_seq:evCmp=seq2 (fun a b=>cmpI a.tm b.tm) (fun a b=>cmpS a.veh b.veh):=by
 funext a b
 unfold evCmp seq2;simp only[firstE];grind
theorem evCmp_ord:TOrd evCmp:=by
 rw[evCmp_seq];exact(TOrd.int (fun a:Evn=>a.tm)).seq (TOrd.str (fun a:Evn=>a.veh))
theorem evCmp_zero {a b:Evn}(h:evCmp a b=0):a.tm=b.tm∧a.veh=b.veh:=by
 unfold evCmp at h;exact⟨cmpI_zero.1 (firstE_mem h _ (by simp)),cmpS_zero.1 (firstE_mem h _ (by simp))⟩
theorem wEvCmp (a b:Evn):FSpec Tryz.prog 96 [.agg ((evF a).map .d),.agg ((evF b).map .d)] [] (fun x r=>x= .d (.int .i64 (evCmp a b))∧r= []):=by
 refine spAx hT Tryz.func96 Tryz.call96 ?_;conv=>whnf
 repeat' (first|(refine CallX.exact (s184 _ _) rfl rfl ?_;rotate_right;conv=>whnf)|(refine CallX.exact (s183 _ _) rfl rfl ?_;rotate_right;conv=>whnf)|((first|refine CallX.pure (s182 [_,_] (by simp)) ⟨SV.le_lit (by rfl) (by rfl),trivial⟩ rfl ?_|refine br_intro ?_ ?_<;>intro hb<;>try simp only[brs]at hb|refine tAx hT oAStE96 ?_|omega|refine sAx ?_|decide|assumption)<;>conv=>whnf))
 refine .ret _ ?_;conv=>whnf
 refine⟨[],⟨?_,rfl⟩,trivial⟩;conv=>lhs;whnf
 rfl
theorem apt_zero {l:List Evn}(h:l.Pairwise fun a b=>¬ (a.veh=b.veh∧a.tm=b.tm)):∀a ∈ l,∀b ∈ l,evCmp a b=0→a=b:=fun a ha b hb e=>by
 obtain⟨e1,e2⟩:=evCmp_zero e;obtain⟨i,hi,rfl⟩:=List.getElem_of_mem ha;obtain⟨j,hj,rfl⟩:=List.getElem_of_mem hb;rcases Nat.lt_trichotomy i j with q|q|q
 · exact absurd ⟨e2,e1⟩ (List.pairwise_iff_getElem.1 h i j hi hj q)
 · subst q;rfl
 · exact absurd ⟨e2.symm,e1.symm⟩ (List.pairwise_iff_getElem.1 h j i hj hi q)
theorem wSortLog (l:List Evn)(hl:l.length≤2^19)(h:l.Pairwise fun a b=>¬ (a.veh=b.veh∧a.tm=b.tm)):FSpec Tryz.prog 95 [.buf 1000001,.fn 96 []] [(1000001,evB l)] (fun y r=>y= .tup []∧r= [(1000001,evB (isort evCmp l))]):=
 wSStEv 96 evCmp evCmp_ord l hl (apt_zero h) fun p q _ _=>wEvCmp p q
def byV (v:List UInt8)(l:List Evn):List Evn:=l.filter fun x=>decide (x.veh=v)
def stV (l:List Evn):Stt:=l.foldl folS ss0
def chn:Stt→List Evn→Prop
 |_,[]=>True
 |s,x::l=>folOk s x=true∧chn (folS s x) l
theorem chn_snoc:∀ (l:List Evn) (s:Stt) (x:Evn),chn s (l++ [x])↔chn s l∧folOk (l.foldl folS s) x=true
 | [],s,x=>⟨fun h=>⟨trivial,h.1⟩,fun h=>⟨h.2,trivial⟩⟩
 | y::l,s,x=>by
   show folOk s y=true∧chn (folS s y) (l++ [x])↔(folOk s y=true∧chn (folS s y) l)∧_;rw[chn_snoc l (folS s y) x,and_assoc];rfl
theorem chn_take:∀ (l:List Evn) (s:Stt) (i:Nat),chn s l→chn s (l.take i)
 | [],s,i,h=>by rw[List.take_nil];exact h
 |y::l,s,0,h=>trivial
 |y::l,s,i+1,h=>⟨h.1,chn_take l _ i h.2⟩
structure evR (vm:Mp (List UInt8))(sm:Mp Bool)(x:Evn):Prop where
 tm:0≤x.tm∧x.tm≤5761439
 veh:vm.has x.veh=true
 st:sm.val x.st=true
 kind:1≤x.kind∧x.kind≤8
 to:x.to≠ []→x.kind=6
 lv:x.kind=6→sm.val x.to=true
 ne:x.to≠x.st
structure logB (vm:Mp (List UInt8))(sm:Mp Bool)(now:Int)(s:Off):Prop where
 inc:s.log.Pairwise fun a b=>a.tm≤b.tm
 low:∀x ∈ s.log,x.tm≤now
 rt:∀x ∈ s.log,evR vm sm x
 cur:∀v,s.sts.val v=stV (byV v s.log)
 ok:∀v,chn ss0 (byV v s.log)
theorem byV_snoc (v:List UInt8)(l:List Evn)(x:Evn):byV v (l++ [x])=byV v l++(if x.veh=v then [x]else []):=by
 unfold byV;rw[List.filter_append];congr 1
 by_cases h:x.veh=v
 · rw[if_pos h,List.filter_cons_of_pos (by simpa using h)];rfl
 · rw[if_neg h,List.filter_cons_of_neg (by simpa using h)];rfl
theorem logB.say {vm:Mp (List UInt8)}{sm:Mp Bool}{now:Int}{s:Off}(h:logB vm sm now s){x:Evn}(hx:evR vm sm x)(ht:x.tm=now)(hok:folOk (s.sts.val x.veh) x=true):logB vm sm now (sayS s x) where
 inc:=by
  show(s.log++ [x]).Pairwise _;rw[List.pairwise_append];exact⟨h.inc,List.pairwise_singleton _ _,fun a ha b hb=>by rw[List.mem_singleton]at hb;rw[hb,ht];exact h.low a ha⟩
 low:=fun y hy=>by
  rcases List.mem_append.1 (show y ∈ s.log++ [x]from hy)with q|q
  · exact h.low y q
  · rw[List.mem_singleton]at q;rw[q,ht];exact Int.le_refl _
 rt:=fun y hy=>by
  rcases List.mem_append.1 (show y ∈ s.log++ [x]from hy)with q|q
  · exact h.rt y q
  · rw[List.mem_singleton]at q;rw[q];exact hx
 cur:=fun v=>by
  show(if v=x.veh then folS (s.sts.val x.veh) x else s.sts.val v)=stV (byV v (s.log++ [x]));rw[byV_snoc]
  by_cases q:v=x.veh
  · rw[if_pos q,if_pos q.symm,q];unfold stV;rw[List.foldl_append];show folS (s.sts.val x.veh) x=folS (stV (byV x.veh s.log)) x;rw[h.cur x.veh]
  · rw[if_neg q,if_neg (fun e=>q e.symm),List.append_nil];exact h.cur v
 ok:=fun v=>by
  show chn ss0 (byV v (s.log++ [x]));rw[byV_snoc]
  by_cases q:x.veh=v
  · rw[if_pos q,chn_snoc];refine⟨h.ok v,?_⟩;have:=h.cur v;rw[q]at hok;rw[this]at hok;exact hok
  · rw[if_neg q,List.append_nil];exact h.ok v
theorem logB.later {vm:Mp (List UInt8)}{sm:Mp Bool}{now t:Int}{s:Off}(h:logB vm sm now s)(ht:now≤t):logB vm sm t s:=
 ⟨h.inc,fun x hx=>by have:=h.low x hx;omega,h.rt,h.cur,h.ok⟩
theorem byV_sort {vm:Mp (List UInt8)}{sm:Mp Bool}{now:Int}{s:Off}(h:logB vm sm now s)(ha:s.log.Pairwise fun a b=>¬ (a.veh=b.veh∧a.tm=b.tm))(v:List UInt8):byV v (isort evCmp s.log)=byV v s.log:=by
 have key:∀ {l:List Evn},l.Pairwise (fun a b=>a.veh=b.veh→a.tm<b.tm)→(byV v l).Pairwise fun a b=>a.tm<b.tm:=fun{l} hl=>by
  refine List.Pairwise.imp_of_mem (fun{a b} ha hb hab=> ?_) (hl.sublist (show(byV v l).Sublist l from List.filter_sublist));have h1:a.veh=v:=by simpa using(List.mem_filter.1 ha).2
  have h2:b.veh=v:=by simpa using(List.mem_filter.1 hb).2
  exact hab (by rw[h1,h2])
 have hp:(byV v (isort evCmp s.log)).Perm (byV v s.log):=(isort_perm evCmp s.log).filter _;refine List.Perm.eq_of_pairwise (le:=fun a b:Evn=>a.tm<b.tm) (fun x y _ _ q1 q2=>by omega) (key ?_) (key ?_) hp
 · have h1:=isort_srt evCmp_ord s.log;have h2:(isort evCmp s.log).Pairwise fun a b=>¬ (a.veh=b.veh∧a.tm=b.tm):=(isort_perm evCmp s.log).symm.pairwise ha fun{a b} q e=>q ⟨e.1.symm,e.2.symm⟩
   refine(h1.and h2).imp fun{a b} q e=> ?_
   have h3:cmpI a.tm b.tm≤0:=by
    have:=q.1;unfold evCmp at this;simp only[firstE]at this
    by_cases z:cmpI a.tm b.tm=0
    · omega
    · rw[if_neg z]at this;exact this
   have h4:a.tm≠b.tm:=fun z=>q.2 ⟨e,z⟩
   by_cases z:cmpI a.tm b.tm=0
   · exact absurd (cmpI_zero.1 z) h4
   · exact cmpI_lt.1 (by omega)
 · refine(h.inc.and ha).imp fun{a b} q e=> ?_
   have:=q.1;have h4:a.tm≠b.tm:=fun z=>q.2 ⟨e,z⟩
   omega
theorem fine_at {l:List Evn}(h:∀v,chn ss0 (byV v l)){i:Nat}(hi:i<l.length):folOk (stV (byV (l.getD i ev0).veh (l.take i))) (l.getD i ev0)=true:=by
 have hx:l.take (i+1)=l.take i++ [l.getD i ev0]:=by
  rw[List.take_succ_eq_append_getElem hi,List.getD_eq_getElem?_getD,List.getElem?_eq_getElem hi];rfl
 have h1:chn ss0 (byV (l.getD i ev0).veh (l.take (i+1))):=by
  have hs:byV (l.getD i ev0).veh l=byV (l.getD i ev0).veh (l.take (i+1))++byV (l.getD i ev0).veh (l.drop (i+1)):=by
   unfold byV;rw[←List.filter_append,List.take_append_drop]
  have:=chn_take _ _ (byV (l.getD i ev0).veh (l.take (i+1))).length (h (l.getD i ev0).veh);rw[hs,List.take_left]at this;exact this
 rw[hx,byV_snoc,if_pos rfl,chn_snoc]at h1;exact h1.2
def lastTo (x:Leg):Int:=if x.inn.tm= -1 then 5761440 else x.inn.tm
structure hirC (vm:Mp (List UInt8))(now:Int)(s:Off):Prop where
 key:∀k g,s.his.val k=some g→g.key=k
 veh:∀k g,s.his.val k=some g→∀x ∈ g.legs,vm.has x.veh=true
 past:∀k g,s.his.val k=some g→∀x ∈ g.legs,x.out.tm≤now∧(x.inn.tm≠-1→x.inn.tm≤now)
 opn:∀k g,s.his.val k=some g→∀x ∈ g.legs,x.inn.tm= -1→(s.sts.val x.veh).k=2
 dis:∀k1 k2 g1 g2,k1≠k2→s.his.val k1=some g1→s.his.val k2=some g2→∀x ∈ g1.legs,∀y ∈ g2.legs,x.veh=y.veh→lastTo x≤y.out.tm∨lastTo y≤x.out.tm
theorem hirC.later {vm:Mp (List UInt8)}{now t:Int}{s:Off}(h:hirC vm now s)(ht:now≤t):hirC vm t s:=
 ⟨h.key,h.veh,fun k g hk x hx=>⟨by have:=(h.past k g hk x hx).1;omega,fun q=>by have:=(h.past k g hk x hx).2 q;omega⟩,h.opn,h.dis⟩
theorem hirC.same {vm:Mp (List UInt8)}{now:Int}{s s':Off}(h:hirC vm now s)(hh:s'.his=s.his)(ho:∀v,(s.sts.val v).k=2→(s'.sts.val v).k=2):hirC vm now s':=by
 refine⟨?_,?_,?_,?_,?_⟩<;>rw[hh]
 · exact h.key
 · exact h.veh
 · exact h.past
 · exact fun k g hk x hx q=>ho _ (h.opn k g hk x hx q)
 · exact h.dis
theorem hirC.put {vm:Mp (List UInt8)}{now:Int}{s s':Off}(h:hirC vm now s){key:List UInt8}{g':Hir}(hh:s'.his=s.his.put key (some g'))(hk:g'.key=key)(hv:∀x ∈ g'.legs,vm.has x.veh=true)
 (hp:∀x ∈ g'.legs,x.out.tm≤now∧(x.inn.tm≠-1→x.inn.tm≤now))(ho:∀x ∈ g'.legs,x.inn.tm= -1→(s'.sts.val x.veh).k=2)
 (hs:∀k g,k≠key→s.his.val k=some g→∀y ∈ g.legs,y.inn.tm= -1→(s'.sts.val y.veh).k=2)
 (hd:∀k g,k≠key→s.his.val k=some g→∀x ∈ g'.legs,∀y ∈ g.legs,x.veh=y.veh→lastTo x≤y.out.tm∨lastTo y≤x.out.tm):hirC vm now s':=by
 have hval:∀k,s'.his.val k=if k=key then some g' else s.his.val k:=fun k=>by rw[hh];rfl
 have hc:∀k g,s'.his.val k=some g→(k=key∧g=g')∨(k≠key∧s.his.val k=some g):=fun k g hk=>by
  rw[hval]at hk
  by_cases q:k=key
  · rw[if_pos q]at hk;exact .inl ⟨q,(Option.some.inj hk).symm⟩
  · rw[if_neg q]at hk;exact .inr ⟨q,hk⟩
 refine⟨fun k g hk' => ?_,fun k g hk' => ?_,fun k g hk' => ?_,fun k g hk' => ?_,fun k1 k2 g1 g2 hne h1 h2=> ?_⟩
 · rcases hc k g hk' with⟨e1,e2⟩|⟨e1,e2⟩
   · rw[e1,e2];exact hk
   · exact h.key k g e2
 · rcases hc k g hk' with⟨e1,e2⟩|⟨e1,e2⟩
   · rw[e2];exact hv
   · exact h.veh k g e2
 · rcases hc k g hk' with⟨e1,e2⟩|⟨e1,e2⟩
   · rw[e2];exact hp
   · exact h.past k g e2
 · rcases hc k g hk' with⟨e1,e2⟩|⟨e1,e2⟩
   · rw[e2];exact ho
   · exact hs k g e1 e2
 · rcases hc k1 g1 h1 with⟨a1,a2⟩|⟨a1,a2⟩<;>rcases hc k2 g2 h2 with⟨b1,b2⟩|⟨b1,b2⟩
   · exact absurd (a1.trans b1.symm) hne
   · rw[a2];exact hd k2 g2 b1 b2
   · rw[b2];exact fun x hx y hy e=>(hd k1 g1 a1 a2 y hy x hx e.symm).symm
   · exact h.dis k1 k2 g1 g2 hne a2 b2
theorem kinds_val {w:List UInt8}(h:kindsM.has w=true):kindsM.val w=1∨kindsM.val w=4∨kindsM.val w=5∨kindsM.val w=6∨kindsM.val w=7∨kindsM.val w=8:=by
 simp only[kindsM,Mp.put,Mp.nil,Bool.or_eq_true,decide_eq_true_eq,Bool.false_eq_true,or_false]at h ⊢;grind
theorem fol_not2 {s:Stt}{x:Evn}(hk:x.kind=1∨x.kind=4∨x.kind=5∨x.kind=6∨x.kind=7∨x.kind=8)(h:folOk s x=true):s.k≠2:=by
 unfold folOk at h;intro e;rw[e]at h;rcases hk with q|q|q|q|q|q<;>simp[q]at h
theorem fol_out {s:Stt}{x:Evn}(hk:x.kind=2)(h:folOk s x=true):s.k=1∧(folS s x).k=2:=by
 constructor
 · unfold folOk at h;simp[hk]at h;exact h.1
 · unfold folS;rw[if_pos h];simp[hk]
variable {vm:Mp (List UInt8)} {sm:Mp Bool} {now:Int} {s:Off}
theorem say_sts (s:Off)(x:Evn)(v:List UInt8):(sayS s x).sts.val v=if v=x.veh then folS (s.sts.val x.veh) x else s.sts.val v:=rfl
theorem hirC.free (h:hirC vm now s){v:List UInt8}(h1:(s.sts.val v).k=1){k:List UInt8}{g:Hir}(hk:s.his.val k=some g){y:Leg}(hy:y ∈ g.legs)(e:y.veh=v):y.inn.tm≠-1:=fun q=>by
 have:=h.opn k g hk y hy q;rw[e,h1]at this;exact absurd this (by decide)
theorem hirC.one (h:hirC vm now s)(hn:now≤5761439){k1 k2:List UInt8}{g1 g2:Hir}(hne:k1≠k2)(h1:s.his.val k1=some g1)(h2:s.his.val k2=some g2){x y:Leg}(hx:x ∈ g1.legs)(hy:y ∈ g2.legs)(e:x.veh=y.veh)(q1:x.inn.tm= -1):y.inn.tm≠-1∧lastTo y≤x.out.tm:=by
 have p1:=(h.past k1 g1 h1 x hx).1;have p2:=(h.past k2 g2 h2 y hy).1;have hd:=h.dis k1 k2 g1 g2 hne h1 h2 x hx y hy e;unfold lastTo at hd;rw[if_pos q1]at hd;unfold lastTo
 by_cases r:y.inn.tm= -1
 · rw[if_pos r]at hd;omega
 · rw[if_neg r]at hd ⊢;exact⟨r,by omega⟩
theorem evtS_BC (hb:logB vm sm now s)(hc:hirC vm now s)(hsm:sm.val []=false)(hn:0≤now∧now≤5761439){t:Tol}(hk:kindsM.has t.word=true):logB vm sm now (evtS vm sm s (evOf now t))∧hirC vm now (evtS vm sm s (evOf now t)):=by
 unfold evtS;split
 · rename_i e;unfold evtE at e;have e1:=firstE_mem e _ (List.mem_cons_self ..);have e2:=firstE_mem e _ (List.mem_cons_of_mem _ (List.mem_cons_self ..));have e3:=(canE_zero (firstE_mem e (canE s (evOf now t)) (by simp))).2;have hkv:=kinds_val hk;have hK:(evOf now t).kind=kindsM.val t.word:=rfl;have hT:(evOf now t).to=if kindsM.val t.word=6 then t.texts.getD 2 []else []:=rfl
   have h1:(!vm.has (evOf now t).veh||(!sm.val (evOf now t).st||(decide ((evOf now t).kind=6)&& !sm.val (evOf now t).to)))=false:=by
    cases q:(!vm.has (evOf now t).veh||(!sm.val (evOf now t).st||(decide ((evOf now t).kind=6)&& !sm.val (evOf now t).to)))with
    |false=>rfl
    |true=>rw[q]at e1;exact absurd e1 (by decide)
   have h2:(decide ((evOf now t).kind=6)&&decide ((evOf now t).to=(evOf now t).st))=false:=by
    cases q:(decide ((evOf now t).kind=6)&&decide ((evOf now t).to=(evOf now t).st))with
    |false=>rfl
    |true=>rw[q]at e2;exact absurd e2 (by decide)
   simp only[Bool.or_eq_false_iff,Bool.not_eq_false']at h1;obtain⟨a1,a2,a3⟩:=h1
   have hr:evR vm sm (evOf now t):=by
    refine⟨hn,a1,a2,by rw[hK];omega,fun q=> ?_,fun q=> ?_,fun q=> ?_⟩
    · by_cases r:kindsM.val t.word=6
      · rw[hK];exact r
      · rw[hT,if_neg r]at q;exact absurd rfl q
    · rw[q]at a3;simpa using a3
    · by_cases r:kindsM.val t.word=6
      · rw[hK,decide_eq_true r,Bool.true_and,decide_eq_false_iff_not]at h2;exact h2 q
      · rw[hT,if_neg r]at q;rw[←q,hsm]at a2;cases a2
   refine⟨hb.say hr rfl e3,hc.same rfl fun v hv=> ?_⟩;rw[say_sts]
   by_cases q:v=(evOf now t).veh
   · rw[q]at hv;exact absurd hv (fol_not2 (by rw[hK];exact hkv) e3)
   · rw[if_neg q];exact hv
 · exact⟨hb,hc⟩
theorem stS_BC (hb:logB vm sm now s)(hc:hirC vm now s)(hsm:sm.val []=false)(hn:0≤now∧now≤5761439)(t:Tol):logB vm sm now (stS vm sm s now t)∧hirC vm now (stS vm sm s now t):=by
 unfold stS;split
 · rename_i e;unfold stE at e
   by_cases q:hirE (stHi now t)=0
   · rw[if_neg (fun c=>c q)]at e;have e2:=firstE_mem e _ (List.mem_cons_of_mem _ (List.mem_cons_self ..));have e3:=(canE_zero (firstE_mem e (canE s (stEv now t)) (by simp))).2;obtain⟨o1,o2⟩:=fol_out (x:=stEv now t) rfl e3
     have h1:(!vm.has (t.texts.getD 2 [])|| !sm.val (t.texts.getD 3 []))=false:=by
      cases q:(!vm.has (t.texts.getD 2 [])|| !sm.val (t.texts.getD 3 []))with
      |false=>rfl
      |true=>rw[q]at e2;exact absurd e2 (by decide)
     simp only[Bool.or_eq_false_iff,Bool.not_eq_false']at h1
     have hr:evR vm sm (stEv now t):=⟨hn,h1.1,h1.2,⟨by show(1:Int)≤2;decide,by show(2:Int)≤8;decide⟩,fun q=>absurd rfl q,fun q=>absurd (show(2:Int)=6 from q) (by decide),fun q=>by
      have:t.texts.getD 3 []= []:=q.symm
      rw[this,hsm]at h1;cases h1.2⟩
     refine⟨?_,hc.put (key:=t.texts.getD 0 []) (g':=stHi now t) rfl rfl (fun x hx=> ?_) (fun x hx=> ?_) (fun x hx _=> ?_) (fun k g hne hk y hy q' => ?_) (fun k g hne hk x hx y hy e' => ?_)⟩
     · have h3:=hb.say hr rfl e3;exact⟨h3.inc,h3.low,h3.rt,h3.cur,h3.ok⟩
     · have:x=⟨t.texts.getD 2 [],⟨now,t.texts.getD 3 [],t.nums.getD 1 0,t.nums.getD 2 0⟩,rgN⟩:=List.mem_singleton.1 hx;rw[this];exact h1.1
     · have:x=⟨t.texts.getD 2 [],⟨now,t.texts.getD 3 [],t.nums.getD 1 0,t.nums.getD 2 0⟩,rgN⟩:=List.mem_singleton.1 hx;rw[this];exact⟨Int.le_refl _,fun c=>absurd rfl c⟩
     · have:x=⟨t.texts.getD 2 [],⟨now,t.texts.getD 3 [],t.nums.getD 1 0,t.nums.getD 2 0⟩,rgN⟩:=List.mem_singleton.1 hx;rw[this];show((sayS s (stEv now t)).sts.val (t.texts.getD 2 [])).k=2;rw[say_sts,if_pos (show t.texts.getD 2 []=(stEv now t).veh from rfl)];exact o2
     · show((sayS s (stEv now t)).sts.val y.veh).k=2;rw[say_sts,if_neg (fun r=>hc.free o1 hk hy r q')];exact hc.opn k g hk y hy q'
     · have hxe:x=⟨t.texts.getD 2 [],⟨now,t.texts.getD 3 [],t.nums.getD 1 0,t.nums.getD 2 0⟩,rgN⟩:=List.mem_singleton.1 hx;right;have h5:=hc.free o1 hk hy (by rw[←e',hxe];rfl);have h6:=(hc.past k g hk y hy).2 h5;unfold lastTo;rw[if_neg h5,hxe];exact h6
   · rw[if_pos q]at e;exact absurd e q
 · exact⟨hb,hc⟩
theorem legs_closed {g:Hir}(h:hirE g=0){x:Leg}{i:Nat}(hi:i<g.legs.length)(hx:g.legs.getD i lg0=x)(hl:i+1<g.legs.length):x.inn.tm≠-1:=fun q=>by
 have hA:=(hirE_K h).2.2.2.2.2 i hi;unfold legE at hA;rw[hx]at hA;rw[if_pos q,if_pos (show(i:Int)<(g.legs.length:Int) - 1 by omega)]at hA;grind
theorem setIn_mem {g:Hir}(h:hirE g=0)(r:Rdg){x:Leg}(hx:x ∈ setIn g.legs r):(x ∈ g.legs∧x.inn.tm≠-1)∨∃y ∈ g.legs,x={y with inn:=r}∧y=g.legs.getD (g.legs.length - 1) lg0:=by
 have hK:=hirE_K h;obtain⟨i,hi,rfl⟩:=mem_getD (d:=lg0) hx;rw[setIn_len]at hi;unfold setIn;rw[show((g.legs.length:Int) - 1).toNat=g.legs.length - 1 by omega,List.getD_eq_getElem?_getD,List.getElem?_set]
 by_cases q:g.legs.length - 1=i
 · right;rw[if_pos q,if_pos (by omega)];exact⟨g.legs.getD (g.legs.length - 1) lg0,getD_mem (by omega),rfl,rfl⟩
 · left;rw[if_neg q,←List.getD_eq_getElem?_getD];exact⟨getD_mem hi,legs_closed h hi rfl (by omega)⟩
theorem last_open {g:Hir}(h:hirE g=0)(ho:opnH g=true):(g.legs.getD (g.legs.length - 1) lg0) ∈ g.legs∧(g.legs.getD (g.legs.length - 1) lg0).inn.tm= -1∧(g.legs.getD (g.legs.length - 1) lg0).veh=oldV g:=by
 have hK:=hirE_K h;unfold opnH at ho;rw[show((g.legs.length:Int) - 1).toNat=g.legs.length - 1 by omega]at ho;refine⟨getD_mem (by omega),by simpa using ho,?_⟩;unfold oldV;rw[show((g.legs.length:Int) - 1).toNat=g.legs.length - 1 by omega]
theorem chS_BC (hi:∀k,s.his.has k=true→∃g,s.his.val k=some g∧hirE g=0)(hb:logB vm sm now s)(hc:hirC vm now s)(hsm:sm.val []=false)(hn:0≤now∧now≤5761439)(t:Tol):logB vm sm now (chS vm sm s now t)∧hirC vm now (chS vm sm s now t):=by
 unfold chS;split
 · rename_i e;unfold chE at e
   by_cases q:s.his.has (t.texts.getD 0 [])=true
   · rw [if_pos q]at e;obtain⟨g,hg,hE⟩:=hi _ q;have hgd:(s.his.val (t.texts.getD 0 [])).getD hi0=g:=by rw[hg];rfl
     rw[hgd]at e ⊢;obtain⟨⟨_,ho,hN⟩,hkn,hcan⟩:=chG_zero e;obtain⟨l1,l2,l3⟩:=last_open hE ho
     have hkey:(chNext g now t).key=t.texts.getD 0 []:=by
      have:=hc.key _ g hg;unfold chNext;split
      · exact this
      · split
        · exact this
        · exact this
     have hold:vm.has (oldV g)=true:=by rw[←l3];exact hc.veh _ g hg _ l1
     have hst2:(s.sts.val (oldV g)).k=2:=by rw[←l3];exact hc.opn _ g hg _ l1 l2
     have hno:∀k g',k≠t.texts.getD 0 []→s.his.val k=some g'→∀y ∈ g'.legs,y.inn.tm= -1→y.veh≠oldV g:=fun k g' hne hk y hy hq er=>
      (hc.one hn.2 (fun z=>hne z.symm) hg hk l1 hy (by rw[l3,er]) l2).1 hq
     have hclo:∀r:Rdg,r.tm=now→∀k g',k≠t.texts.getD 0 []→s.his.val k=some g'→∀x ∈ setIn g.legs r,∀y ∈ g'.legs,x.veh=y.veh→lastTo x≤y.out.tm∨lastTo y≤x.out.tm:=fun r hr k g' hne hk x hx y hy er=>by
      rcases setIn_mem hE r hx with⟨h1,h2⟩|⟨z,h1,h2,h3⟩
      · exact hc.dis _ _ _ _ (fun z=>hne z.symm) hg hk x h1 y hy er
      · right;rw[←h3]at l2;have:=(hc.one hn.2 (fun z=>hne z.symm) hg hk h1 hy (by rw[h2]at er;exact er) l2).2;rw[h2];exact this
     have hpst:∀r:Rdg,r.tm=now→∀x ∈ setIn g.legs r,x.out.tm≤now∧(x.inn.tm≠-1→x.inn.tm≤now):=fun r hr x hx=>by
      rcases setIn_mem hE r hx with⟨h1,h2⟩|⟨z,h1,h2,h3⟩
      · exact hc.past _ g hg x h1
      · rw[h2];exact⟨(hc.past _ g hg z h1).1,fun _=>by show r.tm≤now;omega⟩
     have hvh:∀r:Rdg,∀x ∈ setIn g.legs r,vm.has x.veh=true:=fun r x hx=>by
      rcases setIn_mem hE r hx with⟨h1,h2⟩|⟨z,h1,h2,h3⟩
      · exact hc.veh _ g hg x h1
      · rw[h2];exact hc.veh _ g hg z h1
     have hcl2:∀r:Rdg,r.tm=now→∀x ∈ setIn g.legs r,x.inn.tm≠-1:=fun r hr x hx=>by
      rcases setIn_mem hE r hx with⟨h1,h2⟩|⟨z,h1,h2,h3⟩
      · exact h2
      · rw[h2];show r.tm≠-1;omega
     by_cases w1:t.word= [101,120,116,101,110,100]
     · have hEv:chEvs g now t= []:=by unfold chEvs;rw[if_pos w1]
       have hNx:chNext g now t=xtH g (t.nums.getD 0 0):=by unfold chNext;rw[if_pos w1]
       rw[hEv,hNx];rw[hNx]at hkey;refine⟨⟨hb.inc,hb.low,hb.rt,hb.cur,hb.ok⟩,hc.put (key:=t.texts.getD 0 []) (g':=xtH g (t.nums.getD 0 0)) rfl hkey (hc.veh _ g hg) (hc.past _ g hg) (hc.opn _ g hg) (fun k g' hne hk=>hc.opn k g' hk) (fun k g' hne hk x hx y hy er=>hc.dis _ _ g g' (fun z=>hne z.symm) hg hk x hx y hy er)⟩
     by_cases w2:t.word= [99,108,111,115,101]
     · have hEv:chEvs g now t= [⟨now,oldV g,t.texts.getD 1 [],3,[]⟩]:=by unfold chEvs;rw[if_neg w1,if_pos w2]
       have hNx:chNext g now t=clH g (chIn now t):=by unfold chNext;rw[if_neg w1,if_pos w2]
       have hKn:sm.val (t.texts.getD 1 [])=true:=by unfold chKn at hkn;rw[if_neg w1,if_pos w2]at hkn;exact hkn
       rw[hEv]at hcan ⊢;rw[hNx]at hkey ⊢;have c1:=(canE_zero (hcan 0 (by simp))).2
       have hr:evR vm sm ⟨now,oldV g,t.texts.getD 1 [],3,[]⟩:=⟨hn,hold,hKn,⟨by show(1:Int)≤3;decide,by show(3:Int)≤8;decide⟩,fun z=>absurd rfl z,fun z=>absurd (show(3:Int)=6 from z) (by decide),fun z=>by
        have:t.texts.getD 1 []= []:=z.symm
        rw[this,hsm]at hKn;cases hKn⟩
       have h3:=hb.say hr rfl c1;refine⟨⟨h3.inc,h3.low,h3.rt,h3.cur,h3.ok⟩,hc.put (key:=t.texts.getD 0 []) (g':=clH g (chIn now t)) rfl hkey (hvh _) (hpst _ rfl) (fun x hx z=>absurd z (hcl2 _ rfl x hx)) (fun k g' hne hk y hy z=> ?_) (hclo _ rfl)⟩;show((sayS s ⟨now,oldV g,t.texts.getD 1 [],3,[]⟩).sts.val y.veh).k=2;rw[say_sts,if_neg (hno k g' hne hk y hy z)];exact hc.opn k g' hk y hy z
     · have hEv:chEvs g now t= [⟨now,oldV g,t.texts.getD 1 [],3,[]⟩,⟨now,t.texts.getD 2 [],t.texts.getD 1 [],2,[]⟩]:=by unfold chEvs;rw[if_neg w1,if_neg w2]
       have hNx:chNext g now t=exH g (chIn now t) (t.texts.getD 2 []) (chOut now t):=by unfold chNext;rw[if_neg w1,if_neg w2]
       have hKn:sm.val (t.texts.getD 1 [])=true∧vm.has (t.texts.getD 2 [])=true:=by
        unfold chKn at hkn;rw[if_neg w1,if_neg w2,Bool.and_eq_true]at hkn;exact hkn
       rw[hEv]at hcan ⊢;rw[hNx]at hkey hN ⊢;have hne2:=exH_ne (hirE_K hE).2.1 hN;have c1:=(canE_zero (hcan 0 (by simp))).2;have c2:folOk (s.sts.val (t.texts.getD 2 [])) ⟨now,t.texts.getD 2 [],t.texts.getD 1 [],2,[]⟩=true:=(canE_zero (hcan 1 (by simp))).2;have hst:t.texts.getD 1 []≠ []:=fun z=>by rw[z,hsm]at hKn;cases hKn.1
       have hr1:evR vm sm ⟨now,oldV g,t.texts.getD 1 [],3,[]⟩:=⟨hn,hold,hKn.1,⟨by show(1:Int)≤3;decide,by show(3:Int)≤8;decide⟩,fun z=>absurd rfl z,fun z=>absurd (show(3:Int)=6 from z) (by decide),fun z=>hst z.symm⟩;have hr2:evR vm sm ⟨now,t.texts.getD 2 [],t.texts.getD 1 [],2,[]⟩:=⟨hn,hKn.2,hKn.1,⟨by show(1:Int)≤2;decide,by show(2:Int)≤8;decide⟩,fun z=>absurd rfl z,fun z=>absurd (show(2:Int)=6 from z) (by decide),fun z=>hst z.symm⟩
       have c3:folOk ((sayS s ⟨now,oldV g,t.texts.getD 1 [],3,[]⟩).sts.val (t.texts.getD 2 [])) ⟨now,t.texts.getD 2 [],t.texts.getD 1 [],2,[]⟩=true:=by
        rw[say_sts,if_neg hne2];exact c2
       obtain⟨o1,o2⟩:=fol_out (x:=⟨now,t.texts.getD 2 [],t.texts.getD 1 [],2,[]⟩) rfl c2;have h3:=(hb.say hr1 rfl c1).say hr2 rfl c3
       have hsts:∀v,((sayS (sayS s ⟨now,oldV g,t.texts.getD 1 [],3,[]⟩) ⟨now,t.texts.getD 2 [],t.texts.getD 1 [],2,[]⟩).sts.val v)=if v=t.texts.getD 2 []then folS (s.sts.val (t.texts.getD 2 [])) ⟨now,t.texts.getD 2 [],t.texts.getD 1 [],2,[]⟩else if v=oldV g then folS (s.sts.val (oldV g)) ⟨now,oldV g,t.texts.getD 1 [],3,[]⟩else s.sts.val v:=fun v=>by
        rw[say_sts,say_sts,say_sts,if_neg hne2]
       refine⟨⟨h3.inc,h3.low,h3.rt,h3.cur,h3.ok⟩,hc.put (key:=t.texts.getD 0 []) (g':=exH g (chIn now t) (t.texts.getD 2 []) (chOut now t)) rfl hkey (fun x hx=> ?_) (fun x hx=> ?_) (fun x hx z=> ?_) (fun k g' hne hk y hy z=> ?_) (fun k g' hne hk x hx y hy er=> ?_)⟩
       · rcases List.mem_append.1 (show x ∈ setIn g.legs (chIn now t)++ [⟨t.texts.getD 2 [],chOut now t,rgN⟩]from hx)with r|r
         · exact hvh _ x r
         · rw[List.mem_singleton]at r;rw[r];exact hKn.2
       · rcases List.mem_append.1 (show x ∈ setIn g.legs (chIn now t)++ [⟨t.texts.getD 2 [],chOut now t,rgN⟩]from hx)with r|r
         · exact hpst _ rfl x r
         · rw[List.mem_singleton]at r;rw[r];exact⟨Int.le_refl _,fun c=>absurd rfl c⟩
       · rcases List.mem_append.1 (show x ∈ setIn g.legs (chIn now t)++ [⟨t.texts.getD 2 [],chOut now t,rgN⟩]from hx)with r|r
         · exact absurd z (hcl2 _ rfl x r)
         · rw[List.mem_singleton]at r;rw[r];show((sayS (sayS s ⟨now,oldV g,t.texts.getD 1 [],3,[]⟩) ⟨now,t.texts.getD 2 [],t.texts.getD 1 [],2,[]⟩).sts.val (t.texts.getD 2 [])).k=2;rw[hsts,if_pos rfl];exact o2
       · show((sayS (sayS s ⟨now,oldV g,t.texts.getD 1 [],3,[]⟩) ⟨now,t.texts.getD 2 [],t.texts.getD 1 [],2,[]⟩).sts.val y.veh).k=2;rw[hsts,if_neg (fun r=>hc.free o1 hk hy r z),if_neg (hno k g' hne hk y hy z)];exact hc.opn k g' hk y hy z
       · rcases List.mem_append.1 (show x ∈ setIn g.legs (chIn now t)++ [⟨t.texts.getD 2 [],chOut now t,rgN⟩]from hx)with r|r
         · exact hclo _ rfl k g' hne hk x r y hy er
         · rw[List.mem_singleton]at r;right;have h5:=hc.free o1 hk hy (by rw[←er,r]);have h6:=(hc.past k g' hk y hy).2 h5;unfold lastTo;rw[if_neg h5,r];exact h6
   · rw[if_neg q]at e;exact absurd e (by decide)
 · exact⟨hb,hc⟩
theorem folO_BC (h:Hou){m n:Nat}{t0:Int}(hI:offI m n s)(hb:logB vm sm t0 s)(hc:hirC vm t0 s)(hsm:sm.val []=false){x:Ent}(ht:t0≤x.tm)(hx:0≤x.tm∧x.tm≤5761439):logB vm sm x.tm (folO h vm sm s x)∧hirC vm x.tm (folO h vm sm s x):=by
 have hb:=hb.later ht;have hc:=hc.later ht;unfold folO;split
 · exact⟨hb,hc⟩
 split
 · rename_i q;exact evtS_BC hb hc hsm hx q
 split
 · unfold bookS;split
   · exact⟨⟨hb.inc,hb.low,hb.rt,hb.cur,hb.ok⟩,⟨hc.key,hc.veh,hc.past,hc.opn,hc.dis⟩⟩
   · exact⟨hb,hc⟩
 split
 · split
   · exact⟨⟨hb.inc,hb.low,hb.rt,hb.cur,hb.ok⟩,⟨hc.key,hc.veh,hc.past,hc.opn,hc.dis⟩⟩
   · exact⟨hb,hc⟩
 split
 · exact stS_BC hb hc hsm hx _
 split
 · unfold payS;split
   · exact⟨⟨hb.inc,hb.low,hb.rt,hb.cur,hb.ok⟩,⟨hc.key,hc.veh,hc.past,hc.opn,hc.dis⟩⟩
   · exact⟨hb,hc⟩
 exact chS_BC hI.his hb hc hsm hx _
theorem runC_BC (h:Hou)(hsm:sm.val []=false):∀ (l:List Ent) {m n:Nat} {t0:Int} {s:Off},offI m n s→logB vm sm t0 s→hirC vm t0 s→l.Pairwise (fun a b=>a.tm≤b.tm)→(∀x ∈ l,t0≤x.tm∧0≤x.tm∧x.tm≤5761439)→t0≤5761439→∃t1,t1≤5761439∧logB vm sm t1 (runC h vm sm s l)∧hirC vm t1 (runC h vm sm s l)
 | [],m,n,t0,s,hI,hb,hc,_,_,h0=>⟨t0,h0,hb,hc⟩
 | x::l,m,n,t0,s,hI,hb,hc,hp,hx,h0=>by
   obtain⟨a1,a2⟩:=hx x (by simp);obtain⟨b1,b2⟩:=folO_BC h hI hb hc hsm a1 a2;rw[List.pairwise_cons]at hp;exact runC_BC h hsm l (folO_I hI h vm sm x) b1 b2 hp.2 (fun y hy=>⟨hp.1 y hy,(hx y (by simp[hy])).2⟩) a2.2
theorem off0_B:logB vm sm 0 off0:=⟨List.Pairwise.nil,fun x hx=>(by cases hx),fun x hx=>(by cases hx),fun v=>rfl,fun v=>trivial⟩
theorem off0_C:hirC vm 0 off0:=⟨fun k g hk=>(by cases hk),fun k g hk=>(by cases hk),fun k g hk=>(by cases hk),fun k g hk=>(by cases hk),fun k1 k2 g1 g2 _ hk=>(by cases hk)⟩
theorem offZ_BC (h:Hou)(hsm:(smO h.flt.sta).val []=false){l:List Ent}(hl:entsR l):∃t1,t1≤5761439∧logB (vmO h.flt.veh) (smO h.flt.sta) t1 (offZ h l)∧hirC (vmO h.flt.veh) t1 (offZ h l):=by
 have hf:∀x ∈ l,0≤x.tm∧x.tm≤5761439:=fun x hx=>by
  have:=hl.frm x hx;unfold frmE at this
  by_cases q:0≤x.tm∧x.tm≤5761439
  · exact q
  · rw[if_pos q]at this;exact absurd this (by decide)
 have hp:l.Pairwise fun a b=>a.tm≤b.tm:=hl.ord.imp fun{a b} q=>by
  unfold entCmp at q;simp only[firstE]at q
  by_cases z:cmpI a.tm b.tm=0
  · have:=cmpI_zero.1 z;omega
  · rw[if_neg z]at q;have:=cmpI_lt.1 q;omega
 obtain⟨t1,h1,h2,h3⟩:=runC_BC (vm:=vmO h.flt.veh) (sm:=smO h.flt.sta) h hsm l off0_I off0_B off0_C hp (fun x hx=>⟨(hf x hx).1,hf x hx⟩) (by decide)
 have e:offZ h l={runC h (vmO h.flt.veh) (smO h.flt.sta) off0 l with ref:=(offZ h l).ref}:=by
  unfold offZ offN;rw[List.take_length]
 rw[e];exact⟨t1,h1,⟨h2.inc,h2.low,h2.rt,h2.cur,h2.ok⟩,⟨h3.key,h3.veh,h3.past,h3.opn,h3.dis⟩⟩
end Go.Proofs.YtghhghijalcdfaaGreatDoor
namespace Go.Eng
open Go Go.Proofs Go.Sort Go.RowKit
def sF1':List UInt8→List DV:=fun s=> [.str s]
def sortS (l:List (List UInt8)):List (List UInt8):=l.mergeSort fun x y=>decide (x≤y)
theorem sortS_perm (l:List (List UInt8)):(sortS l).Perm l:=List.mergeSort_perm _ _
theorem sortS_length (l:List (List UInt8)):(sortS l).length=l.length:=(sortS_perm l).length_eq
theorem sortS_sorted (l:List (List UInt8)):(sortS l).Pairwise fun x y=>x≤y:=by
 have:=List.pairwise_mergeSort (le:=fun x y:List UInt8=>decide (x≤y)) (fun a b c h1 h2=>by simp only[decide_eq_true_eq]at*;exact List.le_trans h1 h2) (fun a b=>by simp only[Bool.or_eq_true,decide_eq_true_eq];exact List.le_total a b) l;exact this.imp (fun h=>by simpa using h)
theorem sortS_eq {l m:List (List UInt8)}(h:l.Perm m):sortS l=sortS m:=
 List.Perm.eq_of_pairwise (le:=fun x y:List UInt8=>x≤y) (fun x y _ _ h1 h2=>List.le_antisymm h1 h2) (sortS_sorted l) (sortS_sorted m) ((sortS_perm l).trans (h.trans (sortS_perm m).symm))
theorem FSpec.sortS {P:Program}{f:FuncId}{e:TypeId}(henter:∀args w,(callFunc f args).run P w= .ok (.enter f args) w)(l:List (List UInt8))
 (hn:∀w,Calls P f #[.slice none 0 0] w fun e' w' =>e' = .returned (.tuple #[])∧w' =w)
 (hc:∀ (blk cap:Nat) (w:World),Holds encStr w blk 0 l.toArray→blk<w.heap.size→Calls P f #[.slice (some ⟨blk,0,none⟩) l.length cap] w fun e' w' =>e' = .returned (.tuple #[])∧∃n os,w' =grow (putRow encStr (Sort.ahead w n) blk 0 (Go.Eng.sortS l).toArray) os):
 FSpec P f [.buf 1000001] [(1000001,seqB e 1 sF1' [] l)] (fun y r=>y= .tup []∧r= [(1000001,seqB e 1 sF1' [] (Go.Eng.sortS l))]):=by
 refine⟨henter,fun G β w vs hpre hvl hvd=> ?_⟩
 match vs,hvl with
 | [v],_=>
   have hv:=hvd 0 _ _ rfl rfl
   cases hv with|buf _ _ hb _=>
   have hR:lookL [(1000001,seqB e 1 sF1' [] l)] 1000001=some (seqB e 1 sF1' [] l):=by simp[lookL]
   have hrow:∀ {q:List (List UInt8)} d r,lookL [(1000001,seqB e 1 sF1' [] q)] d=some r→d=1000001∧r=seqB e 1 sF1' [] q:=by
    intro q d r hr;simp only[lookL]at hr
    cases hq:Nat.beq d 1000001 with
    |false=>rw[show(d.beq 1000001)=false from hq]at hr;cases hr
    |true=>rw[show(d.beq 1000001)=true from hq]at hr;cases hr;exact⟨Nat.eq_of_beq_eq_true hq,rfl⟩
   obtain⟨v',xs,hv',hown,_,_,hden⟩:=hpre.rs _ _ hR;rw[hb]at hv';cases hv';rcases hown.2 with⟨rfl,hz⟩|⟨g,cap,cur,rfl,hg,hh,hnc,hcm,hcz,htake⟩
   · have hl0:l= []:=List.length_eq_zero_iff.1 hz;subst hl0;refine(hn w).mono ?_;rintro e' w' ⟨rfl,rfl⟩;refine⟨.tuple #[],.tup [],[(1000001,seqB e 1 sF1' [] (Go.Eng.sortS []))],G,β,rfl,⟨rfl,rfl⟩,⟨Hp.le_refl G,Env.le_refl β,fun b o ho=>hpre.gw b o ho,fun b o ho=>.inl ho,⟨rfl,rfl,rfl,Nat.le_refl _,fun b hlt hT=>rfl⟩,fun d r hr=> ?_,fun d d' r r' _ _ _ e1 e2 _ _ _ _ _ _=> ?_,fun d r u b e1 _ hu hbk=> ?_⟩,.tup [] [] rfl (fun i x v hx=>by simp at hx)⟩
     · rw[show Go.Eng.sortS []= []by simp[Go.Eng.sortS]]at hr;exact hpre.rs d r hr
     · rw[(hrow d r e1).1,(hrow d' r' e2).1]
     · obtain⟨rfl,rfl⟩:=hrow d r e1;rw[hb]at hu;cases hu;exact absurd (hbk.plain rfl) (by simp[blk])
   have hxs:xs=l.map encStr:=by
    apply List.ext_getElem
    · rw[hown.1];simp
    intro i hi hi';have hil:i<l.length:=by simpa using hi'
    obtain⟨u,hu,hd⟩:=hden i 0 (.str (l.getD i [])) hil rfl;rw[Nat.mul_one,Nat.add_zero,List.getElem?_eq_getElem hi]at hu;cases hu;generalize xs[i]=z at hd;cases hd;simp[List.getD_eq_getElem?_getD,hil]
   have hgs:g<w.heap.size:=(Array.getElem?_eq_some_iff.1 hh).1;have hho:=holds_of_block (ss:=l) hh (by rw[←hxs,←htake,Nat.mul_one]);refine(hc g cap w hho hgs).mono ?_;rintro e' w' ⟨rfl,n,os,rfl⟩;have hgb:=grownBy_sorted (w:=w) (g:=g) (n:=n) (os:=os) (Go.Eng.sortS l).toArray;have hrs:=ownsRow_sorted (w:=w) (base:=0) (cap:=cap) (n:=n) (os:=os) (sortS_length l) (Nat.zero_le _) hh hnc hcm hcz;have hTin:Tin w β (lookL [(1000001,seqB e 1 sF1' [] l)]) g:=⟨1000001,_,_,hR,rfl,hb,.of rfl⟩;have hGg:G g=none:=hpre.og _ _ _ g hR rfl hb (.of rfl);refine⟨.tuple #[],.tup [],_,G,β,rfl,⟨rfl,rfl⟩,⟨Hp.le_refl G,Env.le_refl β,fun b o ho=> ?_,fun b o ho=>.inl ho,⟨hgb.os,hgb.tape,hgb.output,hgb.size,fun b hlt hT=> ?_⟩,fun d r hr=> ?_,fun d d' r r' _ _ _ e1 e2 _ _ _ _ _ _=> ?_,fun d r u b e1 _ hu hbk=> ?_⟩,.tup [] [] rfl (fun i x v hx=>by simp at hx)⟩
   · have hw:=hpre.gw b o ho;rw[hgb.block b (Array.getElem?_eq_some_iff.1 hw).1 (fun q=>by cases q;rw[hGg]at ho;cases ho)];exact hw
   · exact hgb.block b hlt (fun q=>by cases q;exact hT hTin)
   · obtain⟨rfl,rfl⟩:=hrow d r hr;refine⟨_,_,hb,by rw[sortS_length];exact hrs,by omega,fun i hi=>rfl,fun i j x hi hx=> ?_⟩
     have hj:j=0:=by
      have:=(List.getElem?_eq_some_iff.1 hx).1;simp[rowF,sF1']at this;omega
     subst hj;simp[rowF,sF1']at hx;subst hx;exact⟨encStr ((Go.Eng.sortS l).getD i []),by rw[Nat.mul_one,Nat.add_zero];simp[List.getD_eq_getElem?_getD,hi],.str _⟩
   · rw[(hrow d r e1).1,(hrow d' r' e2).1]
   · obtain⟨rfl,rfl⟩:=hrow d r e1;rw[hb]at hu;cases hu;cases hbk.plain rfl;exact⟨hGg,.inl hTin⟩
end Go.Eng
