/- EntriesFollow is proved: for every input the law returns true, and its argument reads afterwards as it read before. Conditions: those of the given row alone. -/
import Derived.Test.YtafhoijegjmdcaaGreatDoorLzEngTwo
import Derived.Test.YtafhoijegjmdcaaGreatDoorLzConQui
import Derived.Test.YtafhoijegjmdcaaGreatDoorLzConTri
import Derived.Test.YtafhoijegjmdcaaGreatDoorLzConOne
import Derived.Test.YtafhoijegjmdcaaGreatDoorLzConTwo
import Derived.Shelf.Spec.SlicesGrow
import Derived.Test.YtafhoijegjmdcaaGreatDoorLzConQua
import Derived.RangeFuncNested
import Derived.RangeFuncBound
import Derived.RangeFuncCalls
import Derived.RangeFuncLeaves
import Derived.RangeFuncBox
import Derived.Shelf.Abstract
import Derived.Shelf.RegionOpen
import Derived.WalkKit
import Derived.OwnWalkIn
import Derived.TacticsInMore
import Derived.LoopNIn
import Derived.LoopIn
set_option linter.unusedVariables false
set_option linter.unusedSimpArgs false
set_option maxHeartbeats 16000000
namespace Go.Eng
open Go
variable {A:mA} {G:Hp} {β:eP} {s:St} {t:Array Value} {w:World}
theorem du.bunchNew (e k:Nat)(hk:0<k)(hu:s.used 999999=false):du s (s.app ⟨none,.any,[(999999,some (.bunch e k []))],[999999]⟩):=by
 refine⟨fun A a w=> ?_⟩;rintro⟨h0,G,β,h⟩;exact⟨h0,G,_,h.bunchNew hk hu⟩
theorem pN {q e k:Nat}:∀ (l:List (Value×Nat×(Nat→List DV))) {G:Hp} {s:St},MG A G β s t w→s.res q=some (.bunch e k l)→
 ∃G',G.le G'∧(∀p ∈ l,aG G' (.ro k p.2.1 p.2.2) p.1)∧MG A G' β (s.app ⟨none,.any,[(q,some (.bunch e k []))],[]⟩) t w:=by
 intro l
 induction l with
 | nil =>
   intro G s h hq;refine⟨G,Hp.le_refl G,fun p hp=>(by cases hp),?_⟩
   have:s.app ⟨none,.any,[(q,some (.bunch e k []))],[]⟩=s:=by
    cases s with
    | mk tm rs us=>
      simp only[St.app,St.mk.injEq];refine⟨rfl,?_,rfl⟩;funext x
      simp only[aA,aW]
      by_cases c:x=q
      · subst c;simpa using hq.symm
      · rw[aw c];rfl
   rw[this];exact h
 | cons p l ih=>
   obtain⟨v,n,get⟩:=p;intro G s h hq;obtain⟨G1,h1,h2,h3⟩:=h.bunchFree hq;obtain⟨G2,k1,k2,k3⟩:=ih h3 (by simp[St.app,aA,aW]);refine⟨G2,Hp.le_trans h1 k1,fun p hp=> ?_,?_⟩
   · rcases List.mem_cons.1 hp with rfl|hp
     · exact h2.mono k1
     · exact k2 p hp
   · have:(s.app ⟨none,.any,[(q,some (.bunch e k l))],[]⟩).app ⟨none,.any,[(q,some (.bunch e k []))],[]⟩=s.app ⟨none,.any,[(q,some (.bunch e k []))],[]⟩:=by
      simp only[St.app,St.mk.injEq];refine⟨rfl,?_,rfl⟩;funext x
      simp only[aA,aW]
      by_cases c:x=q
      · subst c;simp
      · rw[aw c];rfl
     rw[this]at k3;exact k3
theorem oM {q e k e2 k2 N:Nat}{l:List (Value×Nat×(Nat→List DV))}{get:Nat→List DV}(get':Nat→List DV)(hb:s.res 999999=some (.bunch e k l))(hq:s.res q=some (.buf e2 k2 N get))
 (hl:∀i,i<N→(get' i).length=(get i).length)
 (hg:∀ (i j:Nat) (x:DV),i<N→(get' i)[j]? =some x→(get i)[j]? =some x∨∃p ∈ l,(get i)[j]? =some (.opq p.1)∧∀G v,aG G (.ro k p.2.1 p.2.2) v→aG G x v):
 du s (s.app ⟨none,.any,[(999999,none),(q,some (.buf e2 k2 N get'))],[]⟩):=by
 refine⟨fun A a w=> ?_⟩;rintro⟨h0,G,β,h⟩;obtain⟨G',h1,h2,h3⟩:=pN l h hb;have hne:¬q=999999:=fun c=>by rw[c,hb]at hq;cases hq
 have hq1:(s.app ⟨none,.any,[(999999,some (.bunch e k []))],[]⟩).res q=some (.buf e2 k2 N get):=by
  simp only[St.app,aA,aW];rw[aw hne];exact hq
 obtain⟨v,xs,hv,hown,hk,hlen,hden⟩:=h3.rs _ _ hq1
 have h4:=h3.changeG (r':=.buf e2 k2 N get') hq1 rfl hv rfl rfl rfl rfl (fun _ _=>rfl) (fun b hb=>hb.to rfl) ⟨v,xs,hv,hown,hk,fun i hi=>(hl i hi).trans (hlen i hi),fun i j x hi hx=>by
  rcases hg i j x hi hx with c|⟨p,hp,c,hx⟩
  · exact hden i j x hi c
  · obtain⟨u,hu,hd⟩:=hden i j _ hi c
    cases hd with|opq _ _=>exact⟨_,hu,hx _ _ (h2 p hp)⟩⟩
 have h5:=h4.drop 999999;refine⟨h0,G',β,?_⟩
 have:((s.app ⟨none,.any,[(999999,some (.bunch e k []))],[]⟩).app ⟨none,.any,[(q,some (.buf e2 k2 N get'))],[]⟩).app ⟨none,.any,[(999999,none)],[]⟩=s.app ⟨none,.any,[(999999,none),(q,some (.buf e2 k2 N get'))],[]⟩:=by
  simp only[St.app,St.mk.injEq];refine⟨rfl,?_,rfl⟩;funext x
  simp only[aA,aW]
  by_cases c:x=999999
  · subst c;simp
  · rw[aw c]
    by_cases d:x=q
    · subst d;simp
    · rw[aw d];rfl
 rw[←this];exact h5
end Go.Eng
set_option maxRecDepth 20000
namespace Go.Proofs.YtafhoijegjmdcaaGreatDoor
open Go Go.Eng
def vu:TL:= [(18,[(0,[]),(1,[0]),(2,[0]),(3,[0]),(4,[0]),(5,rg 5),(6,rg 6),(7,rg 5),(8,rg 5),(9,[0]),(10,[]),(11,[]),(12,[])])]
def Jp (x:ow):Prop:=x.key.length≤8∧x.on.length≤8
structure wd where
 key:List UInt8
 per:Int
 v:Value
 on:List Int
 over:Bool
def Fg (x:wd):List DV:= [.str x.key,.int .i64 x.per,.opq x.v,.bool x.over]
def qr:wd:=⟨[],0,.nilFunc,[],false⟩
def bM (x:wd):Prop:=x.key.length≤8∧x.on.length≤5
def bT (x:wd):ow:=⟨x.key,x.per,x.on,x.over⟩
def bE (x:wd):Value×Nat×(Nat→List DV):=(x.v,x.on.length,aR iF 0 x.on)
def bL (l:List wd):List (Value×Nat×(Nat→List DV)):=(l.map bE).reverse
theorem G8 (l:List wd)(x:wd):bL (l++ [x])=bE x::bL l:=by simp[bL]
theorem Ie {l:List wd}{x:wd}(h:x ∈ l):bE x ∈ bL l:=by
 unfold bL;rw[List.mem_reverse];exact List.mem_map.2 ⟨x,h,rfl⟩
theorem DY (l:List wd){j:Nat}(h:j<l.length):∃A B,bL l=A++bE (l.getD j qr)::B∧∀x,∀t ∈ l.set j x,t=x∨bE t ∈ A++B:=by
 have e:l=l.take j++l.getD j qr::l.drop (j+1):=by
  rw[List.getD_eq_getElem?_getD,List.getElem?_eq_getElem h,Option.getD_some,←List.drop_eq_getElem_cons h,List.take_append_drop]
 refine⟨((l.drop (j+1)).map bE).reverse,((l.take j).map bE).reverse,?_,fun x t ht=> ?_⟩
 · conv=>lhs;rw[e]
   simp[bL]
 · rw[List.set_eq_take_append_cons_drop,if_pos h]at ht;rcases List.mem_append.1 ht with q|q
   · exact .inr (List.mem_append.2 (.inr (by rw[List.mem_reverse];exact List.mem_map.2 ⟨t,q,rfl⟩)))
   · rcases List.mem_cons.1 q with q|q
     · exact .inl q
     · exact .inr (List.mem_append.2 (.inl (by rw[List.mem_reverse];exact List.mem_map.2 ⟨t,q,rfl⟩)))
theorem qg {s:St}{q N:Nat}{Bn:List (Value×Nat×(Nat→List DV))}{get:Nat→List DV}(hb:s.res 999999=some (.bunch 3 1 Bn))(hq:s.res q=some (.buf 198 4 N get))(l:List wd)(hN:N=l.length)(hg:∀i,i<N→get i=aR Fg qr l i)
 (hB:∀t ∈ l,∃p ∈ Bn,p.1=t.v∧p.2.1=t.on.length∧∀i,i<p.2.1→p.2.2 i=aR iF 0 t.on i):
 du s (s.app ⟨none,.any,[(999999,none),(q,some (.buf 198 4 N (aR vI jz (l.map bT))))],[]⟩):=by
 have hrow:∀i,i<N→aR vI jz (l.map bT) i=vI (bT (l.getD i qr)):=fun i hi=>by
  unfold aR;congr 1
  rw[List.getD_eq_getElem?_getD,List.getElem?_map,List.getD_eq_getElem?_getD,List.getElem?_eq_getElem (by omega)];rfl
 refine oM _ hb hq (fun i hi=>by rw[hrow i hi,hg i hi];rfl) (fun i j x hi hx=> ?_);rw[hrow i hi]at hx;rw[hg i hi];obtain⟨t,ht⟩:∃t,t=l.getD i qr:=⟨_,rfl⟩;have hm:t ∈ l:=by rw[ht];exact al (by omega)
 show(Fg (l.getD i qr))[j]? =some x∨∃p ∈ Bn,(Fg (l.getD i qr))[j]? =some (.opq p.1)∧∀G v,aG G (.ro 1 p.2.1 p.2.2) v→aG G x v;rw[←ht]at hx ⊢
 match j with
 |0=>exact .inl hx
 |1=>exact .inl hx
 |3=>exact .inl hx
 | 2=>
   obtain⟨p,hp,h1,h2,h3⟩:=hB t hm;cases hx
   exact .inr ⟨p,hp,by rw[h1];rfl,fun G v hv=>s6 h2 h3 hv⟩
 |j+4=>cases hx
def KF:List (List UInt8):= [[99,105,116,121],[115,116,97,116,101],[118,97,116]]
theorem nD {l:List wd}{k:Nat}(hl:l.length≤k)(h:∀t ∈ l,t.key.length≤8∧t.on.length≤8):dA Jp k (l.map bT):=
 ⟨by rw[List.length_map];exact hl,fun x hx=>by
   obtain⟨t,ht,rfl⟩:=List.mem_map.1 hx
   exact h t ht⟩
theorem HO (n:Nat)(L:Nat→Int)(hL:oW n L)(a:Int)(h0:0≤a)(ha:a≤2^36):
 ae Tryz.prog 61 [.ptr 1000000 0] [(1000000,bd n L a)] (fun y r=>(∃l:List ow,dA Jp 3 l∧y= .d (ip l))∧fo n L a 50 r):=by
 refine aj hT Tryz.func61 Tryz.call61 ?_;conv=>whnf
 refine af hT (C:= []) (ι:=Int×List wd×Nat) (fun(b,l,i)=>(a≤b∧b≤a+10*i∧i≤3)∧dA bM i l)
  (fun(b,l,i)=>aJ [(0,.ptr 1000000 0),(3,.buf 3),(10,.d (bU KF)),(11,.d (.int .i64 3)),(12,.d (.int .i64 i))] [(1000000,bd n L b),(3,aD 198 4 Fg qr l),(999999,.bunch 3 1 (bL l))])
  (fun(_,_,i)=>3 - i) (a,[],0) ⟨⟨by simp,by simp,by simp⟩,⟨by simp,by simp⟩⟩ ?_ ?_
 · refine(du.bunchNew 3 1 (by decide) rfl).trans ((du.nil 3 3 198 4 (aR Fg qr []) rfl rfl (by decide)).trans (ac [(1000000,1000000),(3,3),(999999,999999)] rfl rfl ⟨lr,lr,ai rfl rfl,lr,lr,trivial⟩ ⟨rr,rr,rr,trivial⟩))
 rintro⟨b,l,i⟩ ⟨⟨p1,p2,p3⟩,p4⟩;have p1:a≤b:=p1;have p2:b≤a+10*i:=p2;have p3:i≤3:=p3;have p4:dA bM i l:=p4;have hc3:KF.length=3:=rfl;have hl1:l.length≤i:=p4.1;have hkk:(i:Int)<3→(KF.getD (i:Int).toNat []).length≤8:=fun h=>bu (al (by omega)) rfl
 rcases Nat.lt_or_ge i 3 with hi|hi
 · conv=>whnf
   repeat' (first|(refine dp (pn n L hL _ ?_ ?_ 3 ?_) [(1000000,1000000)] ?_;rotate_right;rintro x rout ⟨⟨w,rfl⟩,⟨c,c1,c2,rfl⟩⟩;refine⟨rfl,?_⟩;conv=>whnf)|(refine kN (jF n L hL _ ?_ ?_ [0,50,75,200,1000] ?_ ?_) [(1000000,1000000)] ?_;rotate_right;rintro x rout ⟨⟨u1,hu1,rfl⟩,⟨c,c1,c2,rfl⟩⟩;refine⟨rfl,?_⟩;conv=>whnf)|(refine dp (pn n L hL _ ?_ ?_ 2 ?_) [(1000000,1000000)] ?_;rotate_right;rintro x rout ⟨⟨w2,rfl⟩,⟨c,c1,c2,rfl⟩⟩;refine⟨rfl,?_⟩;conv=>whnf)|((first|refine aa ?_ ?_<;>intro hb<;>try simp only[am]at hb|refine bg hT vu ?_|omega|refine ao ?_|decide|assumption)<;>conv=>whnf))
   all_goals try(exact h0)
   all_goals try omega
   · exact⟨(c,l,i+1),⟨⟨by omega,by show _≤a+10*((i+1:Nat):Int);omega,by omega⟩,bo p4 (by omega)⟩,by show 3 - (i+1)<3 - i;omega,(by exact a7 [(1000000,1000000),(3,3),(999999,999999)])⟩
   · have hk:=hkk (by omega);obtain⟨ky,hky⟩:∃ky,ky=KF.getD (i:Int).toNat []:=⟨_,rfl⟩;obtain⟨cc,hcc⟩:∃cc:Int,cc=c:=⟨_,rfl⟩;rw[←hky]at hk
     refine af hT (C:= []) (ι:=Int×List Int×Nat) (fun(d,on,k)=>(cc≤d∧d≤cc+k∧k≤5)∧on.length≤k)
      (fun(d,on,k)=>aJ [(0,.ptr 1000000 0),(3,.buf 3),(6,.ptr 6 0),(10,.d (bU KF)),(11,.d (.int .i64 3)),(12,.d (.int .i64 i)),(25,.d (cz [1,2,3,4,6])),(26,.d (.int .i64 5)),(27,.d (.int .i64 k))] [(1000000,bd n L d),(3,aD 198 4 Fg qr l),(999999,.bunch 3 1 (bL l)),(6,.cells 198 [.d (.str ky),.d (.int .i64 u1),.buf 7,.d (.bool w2)]),(7,aD 3 1 iF 0 on)])
      (fun(_,_,k)=>5 - k) (cc,[],0) ⟨⟨by simp,by simp,by simp⟩,by simp⟩ ?_ ?_
     · subst hcc hky;refine(bF 6 7 3 1 2 (aR iF 0 []) rfl rfl rfl (by decide) rfl).trans (ac [(1000000,1000000),(3,3),(999999,999999),(6,6),(7,7)] rfl rfl ⟨lr,lr,lr,lr,lr,lr,ai rfl rfl,lr,lr,trivial⟩ ⟨rr,rr,rr,?_,rr,trivial⟩);conv=>whnf
       refine⟨rfl,fun _ _ _ _ h=> ?_⟩;exact h
     rintro⟨d,on,k⟩ ⟨⟨q1,q2,q3⟩,q4⟩;have q1:cc≤d:=q1;have q2:d≤cc+k:=q2;have q3:k≤5:=q3;have q4:on.length≤k:=q4;conv=>whnf
     repeat' (first|(refine dp (pn n L hL _ ?_ ?_ 2 ?_) [(1000000,1000000)] ?_;rotate_right;rintro x rout ⟨⟨w3,rfl⟩,⟨c,c1,c2,rfl⟩⟩;refine⟨rfl,?_⟩;conv=>whnf)|(intro v;conv=>whnf)|((first|refine aa ?_ ?_<;>intro hb<;>try simp only[am]at hb|refine bg hT vu ?_|omega|refine ao ?_|decide|assumption)<;>conv=>whnf))
     all_goals try(exact h0)
     all_goals try omega
     · exact⟨(c,on++ [([1,2,3,4,6]:List Int).getD (k:Int).toNat 0],k+1),⟨⟨by omega,by show _≤cc+((k+1:Nat):Int);omega,by omega⟩,by show(on++_).length≤k+1;rw[List.length_append];simp;omega⟩,by show 5 - (k+1)<5 - k;omega,
        ac [(1000000,1000000),(3,3),(999999,999999),(6,6),(7,37)] rfl rfl ⟨lr,lr,lr,lr,lr,lr,lr,lr,lr,trivial⟩ ⟨rr,rr,rr,rr,aB rfl,trivial⟩⟩
     · exact⟨(c,on,k+1),⟨⟨by omega,by show _≤cc+((k+1:Nat):Int);omega,by omega⟩,by show on.length≤k+1;omega⟩,by show 5 - (k+1)<5 - k;omega,(by exact a7 [(1000000,1000000),(3,3),(999999,999999),(6,6),(7,7)])⟩
     · exact⟨(d,l++ [⟨ky,u1,v,on,w2⟩],i+1),⟨⟨by omega,by show _≤a+10*((i+1:Nat):Int);omega,by omega⟩,dk p4 (by omega) ⟨hk,by show on.length≤5;omega⟩⟩,by show 3 - (i+1)<3 - i;omega,
        ac [(1000000,1000000),(3,43),(999999,999999)] rfl rfl ⟨lr,lr,lr,lr,lr,trivial⟩ ⟨rr,aB rfl,(by rw[G8];exact rr),trivial⟩⟩
 · have hi3:i=3:=by omega
   subst hi3;have hsp:=fun(j:Int) (h1:0≤j) (h2:j<l.length)=>DY l (j:=j.toNat) (by omega)
   have hon:∀j:Int,0≤j→j<l.length→(l.getD j.toNat qr).on.length≤5:=fun j h1 h2=>(p4.2 _ (al (by omega))).2
   have hB:∀t ∈ l,∃p ∈ bL l,p.1=t.v∧p.2.1=t.on.length∧∀i,i<p.2.1→p.2.2 i=aR iF 0 t.on i:=fun t ht=>⟨_,Ie ht,rfl,rfl,fun _ _=>rfl⟩
   conv=>whnf
   repeat' (first|(refine dp (pn n L hL _ ?_ ?_ 15 ?_) [(1000000,1000000)] ?_;rotate_right;rintro x rout ⟨⟨w,rfl⟩,⟨c,c1,c2,rfl⟩⟩;refine⟨rfl,?_⟩;conv=>whnf)|(refine dp (wA n L hL _ ?_ ?_ 3 ?_) [(1000000,1000000)] ?_;rotate_right;rintro x rout ⟨⟨m,hm1,hm2,hm3,rfl⟩,⟨c,c1,c2,rfl⟩⟩;refine⟨rfl,?_⟩;conv=>whnf)|(refine dp (wA n L hL _ ?_ ?_ _ ?_) [(1000000,1000000)] ?_;rotate_right;rintro x rout ⟨⟨j,hj1,hj2,hj3,rfl⟩,⟨c,c1,c2,rfl⟩⟩;refine⟨rfl,?_⟩;conv=>whnf)|(refine dP.of (mI n L hL _ ?_ ?_ [[],[99,105,116,121],[65]] (by simp) (by simp)) [(1000000,1000000)] rfl ⟨lr,ai rfl rfl,trivial⟩ ⟨rr,trivial⟩ rfl rfl ?_;rotate_right;rintro x rout ⟨⟨v1,hv1,rfl⟩,⟨c,c1,c2,rfl⟩⟩;refine⟨rfl,?_⟩;conv=>whnf)|(refine dp (mh n L hL _ ?_ ?_ 0 1000 ?_ ?_ ?_) [(1000000,1000000)] ?_;rotate_right;rintro x rout ⟨⟨o1,ho1,ho2,rfl⟩,⟨c,c1,c2,rfl⟩⟩;refine⟨rfl,?_⟩;conv=>whnf)|(refine kN (jF n L hL _ ?_ ?_ [0,5,6,7,1] ?_ ?_) [(1000000,1000000)] ?_;rotate_right;rintro x rout ⟨⟨u1,hu1,rfl⟩,⟨c,c1,c2,rfl⟩⟩;refine⟨rfl,?_⟩;conv=>whnf)|((first|(obtain⟨A,B,hAB,hset⟩:=hsp j hj1 (hj2 (by omega));refine⟨A,_,_,B,hAB,?_⟩)|(refine And.intro (by have:=hon j hj1 (hj2 (by omega));show((l.getD j.toNat qr).on.length+1)*8≤140737488355328;omega) ?_))<;>conv=>whnf)|(intro v';conv=>whnf)|((first|refine aa ?_ ?_<;>intro hb<;>try simp only[am]at hb|refine bg hT vu ?_|omega|refine ao ?_|decide|assumption)<;>conv=>whnf))
   all_goals try(exact h0)
   all_goals try omega
   · have hw:v1.length≤8:=bu hv1 rfl;refine .ent _ _ (qg (q:=3) rfl rfl (kO l j.toNat qr fun y=>{y with key:=v1}) (by simp) (fun i hi=>eg (f:=Fg) (d:=qr) (l:=l) (j:=j.toNat) (off:=0) (ds:= [.str v1]) (fun _ _=>rfl) (fun y:wd=>{y with key:=v1}) (fun _=>rfl) i (by simpa using hi)) (fun t ht=> ?_)) (.freeze _ 3 198 4 _ _ rfl (.weak _ ?_))
     · rcases List.mem_or_eq_of_mem_set ht with q|rfl
       · exact hB t q
       · exact hB (l.getD j.toNat qr) (al (by omega))
     conv=>whnf
     exact⟨.d (ip ((kO l j.toNat qr fun y=>{y with key:=v1}).map bT)),[(1000000,bd n L _)],cO (by simp) (fun _ _=>rfl),⟨⟨_,nD (by simpa using p4.1) (fun t ht=>by
      rcases List.mem_or_eq_of_mem_set ht with q|rfl
      · exact⟨(p4.2 t q).1,Nat.le_trans (p4.2 t q).2 (by decide)⟩
      · exact⟨hw,Nat.le_trans (p4.2 _ (al (by omega))).2 (by decide)⟩),rfl⟩,_,by omega,by omega,rfl⟩,rr,trivial⟩
   · refine .ent _ _ (qg (q:=3) rfl rfl (kO l j.toNat qr fun y=>{y with per:=o1}) (by simp) (fun i hi=>eg (f:=Fg) (d:=qr) (l:=l) (j:=j.toNat) (off:=1) (ds:= [.int .i64 o1]) (fun _ _=>rfl) (fun y:wd=>{y with per:=o1}) (fun _=>rfl) i (by simpa using hi)) (fun t ht=> ?_)) (.freeze _ 3 198 4 _ _ rfl (.weak _ ?_))
     · rcases List.mem_or_eq_of_mem_set ht with q|rfl
       · exact hB t q
       · exact hB (l.getD j.toNat qr) (al (by omega))
     conv=>whnf
     exact⟨.d (ip ((kO l j.toNat qr fun y=>{y with per:=o1}).map bT)),[(1000000,bd n L _)],cO (by simp) (fun _ _=>rfl),⟨⟨_,nD (by simpa using p4.1) (fun t ht=>by
      rcases List.mem_or_eq_of_mem_set ht with q|rfl
      · exact⟨(p4.2 t q).1,Nat.le_trans (p4.2 t q).2 (by decide)⟩
      · exact⟨(p4.2 _ (al (by omega))).1,Nat.le_trans (p4.2 _ (al (by omega))).2 (by decide)⟩),rfl⟩,_,by omega,by omega,rfl⟩,rr,trivial⟩
   · have hon:=hon j hj1 (hj2 (by omega));refine .ent _ _ (qg (q:=3) rfl rfl (kO l j.toNat qr fun y=>{y with v:=v',on:=y.on++ [u1]}) (by simp) (fun i hi=>eg (f:=Fg) (d:=qr) (l:=l) (j:=j.toNat) (off:=2) (ds:= [.opq v']) (fun _ _=>rfl) (fun y:wd=>{y with v:=v',on:=y.on++ [u1]}) (fun _=>rfl) i (by simpa using hi)) (fun t ht=> ?_)) (.freeze _ 3 198 4 _ _ rfl (.weak _ ?_))
     · rcases hset _ t ht with rfl|q
       · exact⟨_,List.mem_cons_self,rfl,by simp,fun i hi=>iJ (f:=iF) (d:=0) (l:=(l.getD j.toNat qr).on) (x:=u1) (h:=fun i=> [[DV.int .i64 u1]].getD i []) rfl i hi⟩
       · exact⟨_,List.mem_cons_of_mem _ q,rfl,rfl,fun _ _=>rfl⟩
     conv=>whnf
     exact⟨.d (ip ((kO l j.toNat qr fun y=>{y with v:=v',on:=y.on++ [u1]}).map bT)),[(1000000,bd n L _)],cO (by simp) (fun _ _=>rfl),⟨⟨_,nD (by simpa using p4.1) (fun t ht=>by
      rcases List.mem_or_eq_of_mem_set ht with q|rfl
      · exact⟨(p4.2 t q).1,Nat.le_trans (p4.2 t q).2 (by decide)⟩
      · exact⟨(p4.2 _ (al (by omega))).1,by show(_++ [u1]).length≤8;rw[List.length_append,List.length_singleton];omega⟩),rfl⟩,_,by omega,by omega,rfl⟩,rr,trivial⟩
   all_goals
    refine .ent _ _ (qg (q:=3) rfl rfl l rfl (fun _ _=>rfl) hB) (.freeze _ 3 198 4 _ _ rfl (.weak _ ?_));conv=>whnf
    exact⟨.d (ip (l.map bT)),[(1000000,bd n L _)],cO (by simp) (fun _ _=>rfl),⟨⟨_,nD p4.1 (fun t q=>⟨(p4.2 t q).1,Nat.le_trans (p4.2 t q).2 (by decide)⟩),rfl⟩,_,by omega,by omega,rfl⟩,rr,trivial⟩
def dea (d:EW):SV:=.agg ((yw d).map .d)
def JA (d:EW):Prop:=(0≤d.km∧d.km≤30)∧(0≤d.eig∧d.eig≤1000)∧0≤d.dy∧d.dy≤9000
theorem AA {a b c e u2 u3 u6:Int}(h2:u2 ∈ ([0,2,30]:List Int))(h3:u3 ∈ ([0,300,1000]:List Int))(h6:u6 ∈ ([0,4000,5000,9000]:List Int)):JA ⟨a,u2,u3,b,c,u6,e⟩:=by
 simp only[List.mem_cons,List.not_mem_nil,or_false]at h2 h3 h6;refine⟨?_,?_,?_⟩<;>(dsimp only;omega)
theorem Hg (n:Nat)(L:Nat→Int)(hL:oW n L)(a:Int)(h0:0≤a)(ha:a≤2^37):
 ae Tryz.prog 27 [.ptr 1000000 0] [(1000000,bd n L a)] (fun y r=>(∃d:EW,JA d∧y=dea d)∧fo n L a 20 r):=by
 refine aj hT Tryz.func27 Tryz.call27 ?_;conv=>whnf
 repeat' (first|(refine kN (jF n L hL _ ?_ ?_ [0,100,200,10000] ?_ ?_) [(1000000,1000000)] ?_;rotate_right;rintro x rout ⟨⟨u1,hu1,rfl⟩,⟨c,c1,c2,rfl⟩⟩;refine⟨rfl,?_⟩;conv=>whnf)|(refine kN (jF n L hL _ ?_ ?_ [0,2,30] ?_ ?_) [(1000000,1000000)] ?_;rotate_right;rintro x rout ⟨⟨u2,hu2,rfl⟩,⟨c,c1,c2,rfl⟩⟩;refine⟨rfl,?_⟩;conv=>whnf)|(refine kN (jF n L hL _ ?_ ?_ [0,300,1000] ?_ ?_) [(1000000,1000000)] ?_;rotate_right;rintro x rout ⟨⟨u3,hu3,rfl⟩,⟨c,c1,c2,rfl⟩⟩;refine⟨rfl,?_⟩;conv=>whnf)|(refine kN (jF n L hL _ ?_ ?_ [0,29,30,59,60] ?_ ?_) [(1000000,1000000)] ?_;rotate_right;rintro x rout ⟨⟨u4,hu4,rfl⟩,⟨c,c1,c2,rfl⟩⟩;refine⟨rfl,?_⟩;conv=>whnf)|(refine kN (jF n L hL _ ?_ ?_ [0,500,1000,2000] ?_ ?_) [(1000000,1000000)] ?_;rotate_right;rintro x rout ⟨⟨u5,hu5,rfl⟩,⟨c,c1,c2,rfl⟩⟩;refine⟨rfl,?_⟩;conv=>whnf)|(refine kN (jF n L hL _ ?_ ?_ [0,4000,5000,9000] ?_ ?_) [(1000000,1000000)] ?_;rotate_right;rintro x rout ⟨⟨u6,hu6,rfl⟩,⟨c,c1,c2,rfl⟩⟩;refine⟨rfl,?_⟩;conv=>whnf)|(refine kN (jF n L hL _ ?_ ?_ [0,10000,1000000] ?_ ?_) [(1000000,1000000)] ?_;rotate_right;rintro x rout ⟨⟨u7,hu7,rfl⟩,⟨c,c1,c2,rfl⟩⟩;refine⟨rfl,?_⟩;conv=>whnf)|(refine dp (pn n L hL _ ?_ ?_ 15 ?_) [(1000000,1000000)] ?_;rotate_right;rintro x rout ⟨⟨w,rfl⟩,⟨c,c1,c2,rfl⟩⟩;refine⟨rfl,?_⟩;conv=>whnf)|(refine dp (mh n L hL _ ?_ ?_ 0 10000 ?_ ?_ ?_) [(1000000,1000000)] ?_;rotate_right;rintro x rout ⟨⟨o1,ho1,ho2,rfl⟩,⟨c,c1,c2,rfl⟩⟩;refine⟨rfl,?_⟩;conv=>whnf)|(refine dp (mh n L hL _ ?_ ?_ 0 1440 ?_ ?_ ?_) [(1000000,1000000)] ?_;rotate_right;rintro x rout ⟨⟨o2,ho3,ho4,rfl⟩,⟨c,c1,c2,rfl⟩⟩;refine⟨rfl,?_⟩;conv=>whnf)|(refine dp (mh n L hL _ ?_ ?_ 0 1000000 ?_ ?_ ?_) [(1000000,1000000)] ?_;rotate_right;rintro x rout ⟨⟨o3,ho5,ho6,rfl⟩,⟨c,c1,c2,rfl⟩⟩;refine⟨rfl,?_⟩;conv=>whnf)|(refine dp (mh n L hL _ ?_ ?_ 0 1000000 ?_ ?_ ?_) [(1000000,1000000)] ?_;rotate_right;rintro x rout ⟨⟨o4,ho7,ho8,rfl⟩,⟨c,c1,c2,rfl⟩⟩;refine⟨rfl,?_⟩;conv=>whnf)|((first|refine aa ?_ ?_<;>intro hb<;>try simp only[am]at hb|omega|refine ao ?_|decide|assumption)<;>conv=>whnf))
 all_goals try(exact h0)
 all_goals try omega
 all_goals refine .ret _ ?_
 all_goals conv=>whnf
 · exact⟨[(1000000,bd n L _)],⟨⟨⟨_,_,_,_,_,_,_⟩,AA hu2 hu3 hu6,rfl⟩,_,by omega,by omega,rfl⟩,rr,trivial⟩
 · exact⟨[(1000000,bd n L _)],⟨⟨⟨_,_,_,_,_,_,_⟩,AA hu2 hu3 hu6,rfl⟩,_,by omega,by omega,rfl⟩,rr,trivial⟩
def Ir:EW:=⟨0,0,0,0,0,0,0⟩
theorem HV (n:Nat)(L:Nat→Int)(hL:oW n L)(a:Int)(h0:0≤a)(ha:a≤2^36):
 ae Tryz.prog 52 [.ptr 1000000 0] [(1000000,bd n L a)] (fun y r=>(∃d:EW,(yD d=0∧JA d)∧y=dea d)∧fo n L a 160 r):=by
 refine aj hT Tryz.func52 Tryz.call52 ?_;conv=>whnf
 refine af hT (C:= []) (ι:=Int×Nat) (fun(b,i)=>a≤b∧b≤a+20*i∧i≤8)
  (fun(b,i)=>aJ [(0,.ptr 1000000 0),(2,.ptr 2 0),(4,.d (.int .i64 i))] [(1000000,bd n L b),(2,.cells 40 ((yw Ir).map .d))])
  (fun(_,i)=>8 - i) (a,0) ⟨by simp,by simp,by simp⟩ (by exact a7 [(1000000,1000000),(2,2)]) ?_
 rintro⟨b,i⟩ ⟨p1,p2,p3⟩;have p1:a≤b:=p1;have p2:b≤a+20*i:=p2;have p3:i≤8:=p3;conv=>whnf
 repeat' (first|(refine dp (Hg n L hL _ ?_ ?_) [(1000000,1000000)] ?_;rotate_right;rintro x rout ⟨⟨d,hds,rfl⟩,⟨c,c1,c2,rfl⟩⟩;refine⟨rfl,?_⟩;conv=>whnf)|((first|refine ap (On _) ⟨lr,trivial⟩ rfl ?_|refine aa ?_ ?_<;>intro hb<;>try simp only[am]at hb|omega|refine ao ?_|decide|assumption)<;>conv=>whnf))
 all_goals try omega
 · refine .ret _ ?_;conv=>whnf
   exact⟨[(1000000,bd n L _)],⟨⟨d,⟨by simpa using hb,hds⟩,rfl⟩,_,by omega,by omega,rfl⟩,rr,trivial⟩
 · exact⟨(c,i+1),⟨by omega,by show _≤a+20*((i+1:Nat):Int);omega,by omega⟩,by show 8 - (i+1)<8 - i;omega,(by exact a7 [(1000000,1000000),(2,2)])⟩
 · refine .ret _ ?_;conv=>whnf
   exact⟨[(1000000,bd n L _)],⟨⟨Ir,⟨by decide,⟨by decide,by decide⟩,⟨by decide,by decide⟩,by decide,by decide⟩,rfl⟩,_,by omega,by omega,rfl⟩,rr,trivial⟩
structure FV (t:B6):Prop where
 rat:dA zw 10 t.rat
 ext:dA Lf 2 t.ext
 fe:dA Ka 5 t.fe
 cod:dA G9 3 t.cod
 tax:dA Jp 3 t.tax
theorem FV.ok {t:B6}(h:FV t):zW t:=
 ⟨⟨Nat.le_trans h.rat.1 (by decide),fun x hx=>Nat.le_trans (h.rat.2 x hx) (by decide)⟩,⟨Nat.le_trans h.ext.1 (by decide),fun x hx=>Nat.le_trans (h.ext.2 x hx) (by decide)⟩,
   ⟨Nat.le_trans h.fe.1 (by decide),fun x hx=>⟨Nat.le_trans (h.fe.2 x hx).1 (by decide),Nat.le_trans (h.fe.2 x hx).2 (by decide)⟩⟩,
   ⟨Nat.le_trans h.cod.1 (by decide),fun x hx=>⟨Nat.le_trans (h.cod.2 x hx).1 (by decide),Nat.le_trans (h.cod.2 x hx).2 (by decide)⟩⟩,
   ⟨Nat.le_trans h.tax.1 (by decide),fun x hx=>⟨Nat.le_trans (h.tax.2 x hx).1 (by decide),Nat.le_trans (h.tax.2 x hx).2 (by decide)⟩⟩⟩
def tar (t:B6):SV:=.agg (EN t)
theorem zR (n:Nat)(L:Nat→Int)(hL:oW n L)(a:Int)(h0:0≤a)(ha:a≤2^34):
 ae Tryz.prog 26 [.ptr 1000000 0] [(1000000,bd n L a)] (fun y r=>(∃t:B6,FV t∧y=tar t)∧fo n L a 250 r):=by
 refine aj hT Tryz.func26 Tryz.call26 ?_;conv=>whnf
 repeat' (first|(refine dp (IA n L hL _ ?_ ?_) [(1000000,1000000)] ?_;rotate_right;rintro x rout ⟨⟨t1,ht1,rfl⟩,⟨c,c1,c2,rfl⟩⟩;refine⟨rfl,?_⟩;conv=>whnf)|(refine dp (Hc n L hL _ ?_ ?_) [(1000000,1000000)] ?_;rotate_right;rintro x rout ⟨⟨t2,ht2,rfl⟩,⟨c,c1,c2,rfl⟩⟩;refine⟨rfl,?_⟩;conv=>whnf)|(refine dp (Ke n L hL _ ?_ ?_) [(1000000,1000000)] ?_;rotate_right;rintro x rout ⟨⟨t3,ht3,rfl⟩,⟨c,c1,c2,rfl⟩⟩;refine⟨rfl,?_⟩;conv=>whnf)|(refine dp (I2 n L hL _ ?_ ?_) [(1000000,1000000)] ?_;rotate_right;rintro x rout ⟨⟨t4,ht4,rfl⟩,⟨c,c1,c2,rfl⟩⟩;refine⟨rfl,?_⟩;conv=>whnf)|(refine dp (HO n L hL _ ?_ ?_) [(1000000,1000000)] ?_;rotate_right;rintro x rout ⟨⟨t5,ht5,rfl⟩,⟨c,c1,c2,rfl⟩⟩;refine⟨rfl,?_⟩;conv=>whnf)|((first|refine aa ?_ ?_<;>intro hb<;>try simp only[am]at hb|omega|refine ao ?_|decide|assumption)<;>conv=>whnf))
 all_goals try omega
 refine .ret _ ?_;conv=>whnf
 exact⟨[(1000000,bd n L _)],⟨⟨⟨t1,t2,t3,t4,t5⟩,⟨ht1,ht2,ht3,ht4,ht5⟩,rfl⟩,_,by omega,by omega,rfl⟩,rr,trivial⟩
theorem C8 (n:Nat)(L:Nat→Int)(hL:oW n L)(a:Int)(h0:0≤a)(ha:a≤2^33):
 ae Tryz.prog 51 [.ptr 1000000 0] [(1000000,bd n L a)] (fun y r=>(∃t:B6,FV t∧y=tar t)∧fo n L a 2200 r):=by
 refine aj hT Tryz.func51 Tryz.call51 ?_;conv=>whnf
 refine af hT (C:= []) (ι:=Int×Nat) (fun(b,i)=>a≤b∧b≤a+250*i∧i≤8)
  (fun(b,i)=>aJ [(0,.ptr 1000000 0),(2,.ptr 2 0),(4,.d (.int .i64 i))] [(1000000,bd n L b),(2,.cells 38 [.d .nilsl,.d .nilsl,.d .nilsl,.d .nilsl,.d .nilsl])])
  (fun(_,i)=>8 - i) (a,0) ⟨by simp,by simp,by simp⟩ (by exact a7 [(1000000,1000000),(2,2)]) ?_
 rintro⟨b,i⟩ ⟨p1,p2,p3⟩;have p1:a≤b:=p1;have p2:b≤a+250*i:=p2;have p3:i≤8:=p3;conv=>whnf
 repeat' (first|(refine dp (zR n L hL _ ?_ ?_) [(1000000,1000000)] ?_;rotate_right;rintro x rout ⟨⟨t,ht,rfl⟩,⟨c,c1,c2,rfl⟩⟩;refine⟨rfl,?_⟩;conv=>whnf)|(refine ap (OE _ ht.ok) ⟨lr,trivial⟩ rfl ?_;conv=>whnf)|(refine dp (KP n L hL _ ?_ ?_) [(1000000,1000000),(3,14)] ?_;rotate_right;rintro x rout ⟨l,c,hl,⟨c1,c2⟩,rfl,rfl⟩;refine⟨rfl,?_⟩;conv=>whnf)|((first|refine aa ?_ ?_<;>intro hb<;>try simp only[am]at hb|omega|refine ao ?_|decide|assumption)<;>conv=>whnf))
 all_goals try omega
 · refine .ret _ ?_;conv=>whnf
   exact⟨[(1000000,bd n L _)],⟨⟨t,ht,rfl⟩,_,by omega,by omega,rfl⟩,rr,trivial⟩
 · exact⟨(c,i+1),⟨by omega,by show _≤a+250*((i+1:Nat):Int);omega,by omega⟩,by show 8 - (i+1)<8 - i;omega,(by exact a7 [(1000000,1000000),(2,2)])⟩
 · refine .freeze _ 14 187 7 _ _ rfl (.ent _ _ (aF 2 14 7 _ 0 _ rfl rfl rfl) (.weak _ ?_));conv=>whnf
   exact⟨tar ⟨l,[],[],[],[]⟩,[(1000000,bd n L _)],be ⟨lr,aI,aI,aI,aI,trivial⟩,⟨⟨⟨l,[],[],[],[]⟩,⟨bo hl (by omega),⟨by simp,by simp⟩,⟨by simp,by simp⟩,⟨by simp,by simp⟩,⟨by simp,by simp⟩⟩,rfl⟩,_,by omega,by omega,rfl⟩,rr,trivial⟩
theorem gk {h:cq}(hE:aT h=0):((aN h.key=true∧aN h.drv=true)∧iS h.frm h.to=0∧1≤h.legs.length∧h.legs.length≤20)∧∀i,i<h.legs.length→iQ h i=0:=by
 unfold aT at hE;split at hE
 · omega
 rename_i a;split at hE
 · omega
 rename_i b;split at hE
 · omega
 rename_i c;split at hE
 · omega
 rename_i d;refine⟨⟨⟨?_,?_⟩,Classical.not_not.1 b,by omega,by omega⟩,fun i hi=>fL hE i hi⟩
 · cases q:aN h.key with
   |true=>rfl
   |false=>exact absurd (Or.inl q) a
 · cases q:aN h.drv with
   |true=>rfl
   |false=>exact absurd (Or.inr q) a
theorem oz {h:cq}{i:Nat}(e:iQ h i=0):aN (h.legs.getD i cr).veh=true∧iy (h.legs.getD i cr).out=0∧((h.legs.getD i cr).inn.tm= -1∧(h.legs.length:Int) - 1≤i∨iy (h.legs.getD i cr).inn=0):=by
 unfold iQ at e;split at e
 · omega
 rename_i a;split at e
 · rename_i b;exact absurd e b
 rename_i b;refine⟨?_,Classical.not_not.1 b,?_⟩
 · cases q:aN (h.legs.getD i cr).veh with
   |true=>rfl
   |false=>exact absurd q a
 · split at e
   · omega
   split at e
   · omega
   split at e
   · omega
   split at e
   · omega
   split at e
   · rename_i c;split at e
     · omega
     split at e
     · omega
     · exact .inl ⟨c,by omega⟩
   · split at e
     · rename_i c d;exact absurd e d
     · rename_i c d;exact .inr (Classical.not_not.1 d)
def Bv (x:na):aS:=⟨x.out.tm,x.veh,x.out.st,2,[]⟩
def I5 (x:na):aS:=⟨x.inn.tm,x.veh,x.inn.st,3,[]⟩
def iM (x:na):List aS:=Bv x::if x.inn.tm= -1 then []else [I5 x]
def ef (l:List na):List aS:=l.flatMap iM
def cK (g:cq):List aS:=bc aX (ef g.legs)
def sH (old new:List aS):List aS:=new.filter fun x=> !decide (x ∈ old)
def xn (a b:aS):Int:=bJ b.kind a.kind
def B3 (old new:List aS):List aS:=bc xn (sH old new)
theorem Ao:iV xn where
 sw a b:=(iV.int (fun a:aS=>a.kind)).sw b a
 tr a b c h1 h2:=(iV.int (fun a:aS=>a.kind)).tr c b a h2 h1
 co a b h c:=(iV.int (fun a:aS=>a.kind)).co' (show bJ a.kind b.kind=0 by
  have:=(iV.int (fun a:aS=>a.kind)).sw a b;have h:bJ b.kind a.kind=0:=h;show bJ a.kind b.kind=0;have this:bJ a.kind b.kind= - bJ b.kind a.kind:=this
  omega) c
theorem Ji {old base new l:List aS}(h1:old.Perm base)(hl:l.Perm (base++new))(hno:∀x ∈ new,x ∉ base):(sH old l).Perm new:=by
 unfold sH;refine(hl.filter _).trans ?_;rw[List.filter_append];have e1:base.filter (fun x=> !decide (x ∈ old))= []:=List.filter_eq_nil_iff.2 fun x hx=>by simpa using h1.mem_iff.2 hx
 have e2:new.filter (fun x=> !decide (x ∈ old))=new:=List.filter_eq_self.2 fun x hx=>by simpa using fun c=>hno x hx (h1.mem_iff.1 c)
 rw[e1,e2];exact List.Perm.refl _
theorem Aj {old base new l:List aS}(h1:old.Perm base)(hl:l.Perm (base++new))(hno:∀x ∈ new,x ∉ base)(hz:∀a ∈ new,∀b ∈ new,xn a b=0→a=b)(hs:kP xn new):B3 old l=new:=by
 have hp:=Ji h1 hl hno;exact(nv Ao (fun a ha b hb=>hz a (hp.mem_iff.1 ha) b (hp.mem_iff.1 hb)) hp.symm hs).symm
theorem iW {h:cq}{i:Nat}(e:iQ h i=0):(0<i→(h.legs.getD i cr).out.tm=(h.legs.getD (i - 1) cr).inn.tm∧(h.legs.getD i cr).veh≠(h.legs.getD (i - 1) cr).veh)∧((h.legs.getD i cr).inn.tm≠-1→(h.legs.getD i cr).out.tm<(h.legs.getD i cr).inn.tm):=by
 unfold iQ at e;generalize h.legs.getD i cr=x at e ⊢;generalize h.legs.getD (i - 1) cr=y at e ⊢
 by_cases c1:aN x.veh=false
 · rw[if_pos c1]at e;exact absurd e (by decide)
 rw[if_neg c1]at e
 by_cases c2:iy x.out≠0
 · rw[if_pos c2]at e;exact absurd e c2
 rw[if_neg c2]at e
 by_cases c3:i=0∧x.out.tm≠h.frm
 · rw[if_pos c3]at e;exact absurd e (by decide)
 rw[if_neg c3]at e
 by_cases c4:0<i∧x.out.tm≠y.inn.tm
 · rw[if_pos c4]at e;exact absurd e (by decide)
 rw[if_neg c4]at e
 by_cases c5:0<i∧x.veh=y.veh
 · rw[if_pos c5]at e;exact absurd e (by decide)
 rw[if_neg c5]at e
 by_cases c6:0<i∧x.out.st≠y.inn.st
 · rw[if_pos c6]at e;exact absurd e (by decide)
 rw[if_neg c6]at e;refine⟨fun h0=>⟨Classical.not_not.1 fun q=>c4 ⟨h0,q⟩,fun q=>c5 ⟨h0,q⟩⟩,fun h1=> ?_⟩;rw[if_neg h1]at e
 by_cases c7:iy x.inn≠0
 · rw[if_pos c7]at e;exact absurd e c7
 rw[if_neg c7]at e
 by_cases c8:x.inn.tm≤x.out.tm
 · rw[if_pos c8]at e;exact absurd e (by decide)
 omega
theorem xl {g:cq}(h:aT g=0):∀j,j<g.legs.length→∀i,i≤j→(g.legs.getD i cr).out.tm≤(g.legs.getD j cr).out.tm∧(i<j→(g.legs.getD i cr).inn.tm≤(g.legs.getD j cr).out.tm):=by
 obtain⟨_,p2⟩:=gk h;intro j
 induction j with
 | zero => intro hj i hi;have:i=0:=by omega
           subst this;exact⟨Int.le_refl _,fun q=>absurd q (by omega)⟩
 | succ j ih=>
   intro hj i hi;have ih:=ih (by omega);have h1:=(iW (p2 (j+1) hj)).1 (by omega);rw[Nat.add_sub_cancel]at h1;have h2:=(iW (p2 j (by omega))).2 (lw h (by omega) rfl (by omega));rcases Nat.lt_or_ge i (j+1)with q|q
   · rcases Nat.lt_or_ge i j with r|r
     · have:=ih i (by omega);have h3:=this.2 r;exact⟨by omega,fun _=>by omega⟩
     · have:i=j:=by omega
       subst this;exact⟨by omega,fun _=>by omega⟩
   · have:i=j+1:=by omega
     subst this;exact⟨Int.le_refl _,fun q=>absurd q (by omega)⟩
theorem CS {g:cq}(h:aT g=0)(ho:fx g=true):∀x ∈ ef g.legs,x.tm≤(g.legs.getD (g.legs.length - 1) cr).out.tm:=fun x hx=>by
 obtain⟨y,hy,hx⟩:=List.mem_flatMap.1 hx;obtain⟨i,hi,rfl⟩:=bI (d:=cr) hy;have hm:=xl h (g.legs.length - 1) (by omega) i (by omega);obtain⟨_,o2,_⟩:=gr h ho;simp only[iM,List.mem_cons]at hx;rcases hx with rfl|hx
 · exact hm.1
 · split at hx
   · cases hx
   · rename_i q;rw[List.mem_singleton]at hx;subst hx;refine hm.2 (Nat.lt_of_le_of_ne (by omega) fun e=> ?_);rw[e]at q;exact q o2
theorem xS {g:cq}(h:aT g=0)(ho:fx g=true)(r:ij)(hr:r.tm≠-1):ef (ct g.legs r)=ef g.legs++ [⟨r.tm,eJ g,r.st,3,[]⟩]:=by
 obtain⟨o1,o2,o3⟩:=gr h ho;have hn:g.legs≠ []:=fun q=>by rw[q]at o1;cases o1
 have hl:0<g.legs.length:=List.length_pos_iff.2 hn;have e0:((g.legs.length:Int) - 1).toNat=g.legs.length - 1:=by omega
 have e1:g.legs=g.legs.take (g.legs.length - 1)++ [g.legs.getD (g.legs.length - 1) cr]:=by
  have:=io (d:=cr) (l:=g.legs) (i:=g.legs.length - 1) (by omega);rw[show g.legs.length - 1+1=g.legs.length by omega,List.take_length]at this;exact this
 have e2:ct g.legs r=g.legs.take (g.legs.length - 1)++ [{g.legs.getD (g.legs.length - 1) cr with inn:=r}]:=by
  unfold ct;rw[e0,List.set_eq_take_append_cons_drop,if_pos (by omega),List.drop_eq_nil_of_le (by omega)]
 rw[e2];conv=>rhs;rw[e1]
 unfold ef;rw[List.flatMap_append,List.flatMap_append,List.append_assoc];congr 1
 have e3:iM (g.legs.getD (g.legs.length - 1) cr)= [Bv (g.legs.getD (g.legs.length - 1) cr)]:=by unfold iM;rw[if_pos o2]
 have e4:iM {g.legs.getD (g.legs.length - 1) cr with inn:=r}= [Bv (g.legs.getD (g.legs.length - 1) cr),⟨r.tm,eJ g,r.st,3,[]⟩]:=by
  unfold iM;rw[if_neg hr];simp only[Bv,I5,o3]
 simp only[List.flatMap_cons,List.flatMap_nil,List.append_nil,e3,e4];rfl
theorem CD {g:cq}{r:ij}(h:aT (q8 g r)=0)(hl:0<g.legs.length)(hr:r.tm≠-1):(g.legs.getD (g.legs.length - 1) cr).out.tm<r.tm:=by
 have e0:((g.legs.length:Int) - 1).toNat=g.legs.length - 1:=by omega
 have hg:(q8 g r).legs.getD (g.legs.length - 1) cr={g.legs.getD (g.legs.length - 1) cr with inn:=r}:=by
  show(ct g.legs r).getD (g.legs.length - 1) cr=_;unfold ct;rw[e0,List.getD_eq_getElem?_getD,List.getElem?_set];simp[show g.legs.length - 1<g.legs.length by omega]
 have:=(iW ((gk h).2 (g.legs.length - 1) (by show _<(ct g.legs r).length;rw[cU];omega))).2;rw[hg]at this;exact this hr
theorem ta {g:cq}(h:aT g=0)(ho:fx g=true){r:ij}(hr:r.tm≠-1)(hn:aT (q8 g r)=0):B3 (cK g) (cK (q8 g r))= [⟨r.tm,eJ g,r.st,3,[]⟩]:=by
 obtain⟨o1,_,_⟩:=gr h ho;have hl:0<g.legs.length:=List.length_pos_iff.2 fun q=>by rw[q]at o1;cases o1
 have hlt:=CD hn hl hr;refine Aj (aK _ _) (l:=cK (q8 g r)) (base:=ef g.legs) ?_ (fun x hx c=> ?_) (fun a ha b hb _=> ?_) (List.pairwise_singleton _ _)
 · rw[←xS h ho r hr];exact aK _ _
 · rw[List.mem_singleton]at hx;subst hx;have:=CS h ho _ c;simp only at this;omega
 · rw[List.mem_singleton]at ha hb;rw[ha,hb]
theorem Al (g:cq)(to:Int):B3 (cK g) (cK (sO g to))= []:=by
 have e:cK (sO g to)=cK g:=rfl;have:sH (cK g) (cK g)= []:=List.filter_eq_nil_iff.2 fun x hx=>by simpa using hx
 rw[e,B3,this];rfl
def dE (vm:Mp (List UInt8))(sm:Mp Bool):List aS→List aS→Int×List aS
 |log,[]=>(0,log)
 |log,x::l=>if eY vm sm log x≠0 then(eY vm sm log x,log)else dE vm sm (bc aX (log++ [x])) l
def eG (vm:Mp (List UInt8))(sm:Mp Bool)(log:List aS)(e:Int)(next:cq)(old:List aS)(st veh:List UInt8):Int:=
 if e≠0 then e else if(st≠ []∧sm.val st=false)∨(veh≠ []∧vm.has veh=false)then 8 else(dE vm sm log (B3 old (cK next))).1
def iq (vm:Mp (List UInt8))(sm:Mp Bool)(log:List aS)(e:Int)(next:cq)(old:List aS)(st veh:List UInt8):List aS:=
 if eG vm sm log e next old st veh=0 then(dE vm sm log (B3 old (cK next))).2 else log
variable {vm:Mp (List UInt8)} {sm:Mp Bool} {m n:Nat} {now:Int} {s:da}
theorem Jm {x:aS}(h:BT vm sm x):zX vm sm x=0:=by
 unfold zX;rw[if_neg (fun c=>c h.tm),if_neg (by rw[h.veh,h.st];simp),if_neg (fun c=>c h.kind),if_neg (fun c=>c.1 (h.to c.2)),if_neg (fun c=>by rw[h.lv c.1]at c;exact absurd c.2 (by simp)),if_neg h.ne]
theorem ur (hI:dQ m n s)(hB:gI vm sm now s)(h0:0≤now){x:aS}(hx:x.tm=now)(hr:BT vm sm x):eY vm sm (e9 s) x=dV s x:=by
 rw[zM hI hB h0 hx,Jm hr,if_neg (fun c=>c rfl)]
theorem zD (hI:dQ m n s)(hB:gI vm sm now s)(h0:0≤now){x:aS}(hx:x.tm=now)(hr:BT vm sm x):(dE vm sm (e9 s) [x]).1=j5 s [x]∧(j5 s [x]=0→(dE vm sm (e9 s) [x]).2=e9 (e7 s [x])):=by
 have e:=ur hI hB h0 hx hr
 have ec:j5 s [x]=dV s x:=by
  unfold j5;simp only[List.length_singleton,a8,List.getD_cons_zero];first|rfl|(by_cases q:dV s x=0<;>simp[q])
 rw[ec];unfold dE;rw[e]
 by_cases q:dV s x=0
 · rw[if_neg (fun c=>c q)];exact⟨q.symm,fun _=>qd hI q⟩
 · rw[if_pos q];exact⟨rfl,fun c=>absurd c q⟩
theorem FA (hI:dQ m n s)(hB:gI vm sm now s)(h0:0≤now){x y:aS}(hx:x.tm=now)(hy:y.tm=now)(hr:BT vm sm x)(hr2:BT vm sm y)(hv:x.veh≠y.veh):(dE vm sm (e9 s) [x,y]).1=j5 s [x,y]∧(j5 s [x,y]=0→(dE vm sm (e9 s) [x,y]).2=e9 (e7 s [x,y])):=by
 have e:=ur hI hB h0 hx hr
 have ec:j5 s [x,y]=if dV s x≠0 then dV s x else dV s y:=by
  unfold j5;simp only[List.length_cons,List.length_nil,a8,List.getD_cons_zero,List.getD_cons_succ]
  by_cases q:dV s x=0<;>by_cases r:dV s y=0<;>simp[q,r]
 rw[ec];unfold dE;rw[e]
 by_cases q:dV s x=0
 · rw [if_neg (fun c=>c q),if_neg (fun c=>c q),qd hI q];obtain⟨k1,k2⟩:=dO q;have hI2:=hI.say k1;have hB2:=hB.say hr hx k2;have e2:=ur hI2 hB2 h0 hy hr2
   have e3:dV (fy s x) y=dV s y:=by
    unfold dV
    have a1:(fy s x).ats y.veh y.tm=s.ats y.veh y.tm:=by
     show((decide (y.veh=x.veh)&&decide (y.tm=x.tm))||s.ats y.veh y.tm)=_;rw[decide_eq_false (fun c=>hv c.symm)];rfl
    have a2:(fy s x).sts.val y.veh=s.sts.val y.veh:=by
     rw[g8,if_neg (fun c=>hv c.symm)]
    rw[a1,a2]
   unfold dE;rw[e2,e3]
   by_cases r:dV s y=0
   · rw[if_neg (fun c=>c r)];exact⟨r.symm,fun _=>qd hI2 (by rw[e3];exact r)⟩
   · rw[if_pos r];exact⟨rfl,fun c=>absurd c r⟩
 · rw[if_pos q,if_pos q];exact⟨rfl,fun c=>absurd c q⟩
variable {vm:Mp (List UInt8)} {sm:Mp Bool} {m n:Nat} {now:Int} {s:da}
theorem s3 {s:List UInt8}(h:aN s=true):s≠ []:=fun e=>by rw[e]at h;revert h;decide
theorem um {r:ij}(h:iy r=0):aN r.st=true:=by
 unfold iy at h
 by_cases c:¬ (0≤r.tm∧r.tm≤5761439)
 · rw[if_pos c]at h;exact absurd h (by decide)
 rw[if_neg c]at h
 by_cases c2:aN r.st=false
 · rw[if_pos c2]at h;exact absurd h (by decide)
 simpa using c2
theorem Ai {h:cq}{i:Nat}{x:na}{r:ij}(e:iQ h i=0)(hg:h.legs.getD i cr={x with inn:=r})(hr:r.tm≠-1):x.out.tm<r.tm∧iy r=0:=by
 have h1:=(iW e).2;have h2:=(oz e).2.2;rw[hg]at h1 h2;refine⟨h1 hr,?_⟩;rcases h2 with q|q
 · exact absurd q.1 hr
 · exact q
theorem yr (l:List na)(r:ij)(hl:0<l.length)(k:List na):(ct l r++k).getD (l.length - 1) cr={l.getD (l.length - 1) cr with inn:=r}:=by
 have e0:((l.length:Int) - 1).toNat=l.length - 1:=by omega
 have hlen:=cU l r;rw[List.getD_eq_getElem?_getD,List.getElem?_append_left (by omega)];unfold ct;rw[e0,List.getElem?_set];simp[show l.length - 1<l.length by omega]
theorem wH {g:cq}(h:aT g=0)(ho:fx g=true){ri ro:ij}{v:List UInt8}(hr:ri.tm≠-1)(he:ro.tm=ri.tm)(hn:aT (ng g ri v ro)=0):
 B3 (cK g) (cK (ng g ri v ro))= [⟨ri.tm,eJ g,ri.st,3,[]⟩,⟨ro.tm,v,ro.st,2,[]⟩]∧iy ri=0∧aN v=true∧eJ g≠v:=by
 obtain⟨o1,o2,o3⟩:=gr h ho;have hl:0<g.legs.length:=List.length_pos_iff.2 fun q=>by rw[q]at o1;cases o1
 have hlen:(ng g ri v ro).legs.length=g.legs.length+1:=by
  show(ct g.legs ri++ [_]).length=_;rw[List.length_append,cU];rfl
 have hp:=(gk hn).2;have hA:=Ai (hp (g.legs.length - 1) (by omega)) (yr g.legs ri hl _) hr
 have hg1:(ng g ri v ro).legs.getD g.legs.length cr=⟨v,ro,r8⟩:=by
  show(ct g.legs ri++ [_]).getD g.legs.length cr=_;rw[List.getD_eq_getElem?_getD,List.getElem?_append_right (by rw[cU];omega),cU,Nat.sub_self];rfl
 have hB:=oz (hp g.legs.length (by omega));have hC:=(iW (hp g.legs.length (by omega))).1 hl;rw[hg1]at hB hC;rw[show(ng g ri v ro).legs.getD (g.legs.length - 1) cr=_ from yr g.legs ri hl _]at hC;have hne:eJ g≠v:=fun e=>hC.2 (by show v=(g.legs.getD (g.legs.length - 1) cr).veh;rw[o3,e])
 refine⟨Aj (aK _ _) (l:=cK (ng g ri v ro)) (base:=ef g.legs) ?_ (fun x hx c=> ?_) (fun a ha b hb hz=> ?_) ?_,hA.2,hB.1,hne⟩
 · have e:ef (ng g ri v ro).legs=ef g.legs++ [⟨ri.tm,eJ g,ri.st,3,[]⟩,⟨ro.tm,v,ro.st,2,[]⟩]:=by
    show ef (ct g.legs ri++ [⟨v,ro,r8⟩])=_;unfold ef;rw[List.flatMap_append];show ef (ct g.legs ri)++_=_;rw[xS h ho ri hr,List.append_assoc];rfl
   rw[←e];exact aK _ _
 · have h1:=CS h ho _ c;have h2:=hA.1;simp only[List.mem_cons,List.not_mem_nil,or_false]at hx;rcases hx with rfl|rfl
   · simp only at h1;omega
   · simp only at h1;omega
 · simp only[List.mem_cons,List.not_mem_nil,or_false]at ha hb;rcases ha with rfl|rfl<;>rcases hb with rfl|rfl
   · rfl
   · exact absurd (show bJ 2 3=0 from hz) (by decide)
   · exact absurd (show bJ 3 2=0 from hz) (by decide)
   · rfl
 · refine List.pairwise_cons.2 ⟨fun y hy=> ?_,List.pairwise_singleton _ _⟩;rw[List.mem_singleton]at hy;subst hy;show bJ 2 3≤0;decide
theorem Dk (hI:dQ m n s)(hB:gI vm sm now s)(h0:0≤now∧now≤5761439)(hsm:sm.val []=false)(t:ik):
 (if aT (fw now t)≠0 then aT (fw now t)else if s.his.has (t.texts.getD 0 [])=true then 6 else eG vm sm (e9 s) 0 (fw now t) [] (t.texts.getD 3 []) (t.texts.getD 2 []))=vC vm sm s now t∧
 (vC vm sm s now t=0→iq vm sm (e9 s) 0 (fw now t) [] (t.texts.getD 3 []) (t.texts.getD 2 [])=e9 (r7 vm sm s now t)):=by
 unfold vC
 by_cases q:aT (fw now t)=0
 case neg=>rw[if_pos q,if_pos q];exact⟨rfl,fun c=>absurd c q⟩
 have hq:¬aT (fw now t)≠0:=fun c=>c q
 rw[if_neg hq,if_neg hq];have hp:=oz ((gk q).2 0 (by show 0<1;decide));have kv:aN (t.texts.getD 2 [])=true:=hp.1;have ks:aN (t.texts.getD 3 [])=true:=um (r:=⟨now,t.texts.getD 3 [],t.nums.getD 1 0,t.nums.getD 2 0⟩) hp.2.1
 have hf:B3 [] (cK (fw now t))= [ia now t]:=by
  have e1:cK (fw now t)= [ia now t]:=by
   have:ef (fw now t).legs= [ia now t]:=rfl;unfold cK;rw[this];rfl
  rw[e1];rfl
 unfold iq;simp only[ah]
 by_cases c1:s.his.has (t.texts.getD 0 [])=true
 · rw[if_pos c1,if_pos c1];simp
 rw[if_neg c1,if_neg c1]
 have hE0:eG vm sm (e9 s) 0 (fw now t) [] (t.texts.getD 3 []) (t.texts.getD 2 [])=if(!vm.has (t.texts.getD 2 [])|| !sm.val (t.texts.getD 3 []))=true then 8 else(dE vm sm (e9 s) [ia now t]).1:=by
  unfold eG;rw[if_neg (fun c=>c rfl),hf]
  by_cases c:(!vm.has (t.texts.getD 2 [])|| !sm.val (t.texts.getD 3 []))=true
  · rw[if_pos c,if_pos];rw[Bool.or_eq_true,Bool.not_eq_true',Bool.not_eq_true']at c;rcases c with c|c
    · exact .inr ⟨s3 kv,c⟩
    · exact .inl ⟨s3 ks,c⟩
  · rw[if_neg c,if_neg];intro z;apply c
    rw[Bool.or_eq_true,Bool.not_eq_true',Bool.not_eq_true'];rcases z with z|z
    · exact .inr z.2
    · exact .inl z.2
 rw[hE0,hf]
 by_cases c2:(!vm.has (t.texts.getD 2 [])|| !sm.val (t.texts.getD 3 []))=true
 · rw[if_pos c2,if_pos c2];simp
 rw[if_neg c2,if_neg c2]
 have c2:vm.has (t.texts.getD 2 [])=true∧sm.val (t.texts.getD 3 [])=true:=by
  have:=Bool.eq_false_iff.2 c2;rw[Bool.or_eq_false_iff,Bool.not_eq_false',Bool.not_eq_false']at this;exact this
 have hr:BT vm sm (ia now t):=⟨h0,c2.1,c2.2,by show(1:Int)≤2∧(2:Int)≤8;omega,fun z=>absurd rfl z,fun z=>absurd (show(2:Int)=6 from z) (by decide),fun z=>by
  have:=c2.2
  rw[show t.texts.getD 3 []= []from z.symm,hsm]at this;cases this⟩
 obtain⟨a1,a2⟩:=zD hI hB h0.1 rfl hr
 have ec:j5 s [ia now t]=dV s (ia now t):=by
  unfold j5;simp only[List.length_singleton,a8,List.getD_cons_zero];first|rfl|(by_cases q:dV s (ia now t)=0<;>simp[q])
 rw[a1,ec]
 by_cases c3:dV s (ia now t)=0
 · simp only[c3,ne_eq,not_true_eq_false,if_false,if_true,true_and];intro _;rw[a2 (by rw[ec];exact c3)];unfold r7
   have hz:vC vm sm s now t=0:=by
    unfold vC;rw[if_neg hq];have c1':s.his.has (t.texts.getD 0 [])=false:=Bool.eq_false_iff.2 c1;simp only[ah,c1',c2.1,c2.2,c3,Bool.not_true,Bool.or_false,Bool.false_eq_true,if_false,if_true,ne_eq,not_true_eq_false]
   rw[if_pos hz];rfl
 · simp[c3]
variable {vm:Mp (List UInt8)} {sm:Mp Bool} {m n:Nat} {now:Int} {s:da}
def qA (t:ik):List UInt8:=if t.word= [101,120,116,101,110,100]then []else t.texts.getD 1 []
def qX (t:ik):List UInt8:=if t.word= [101,120,116,101,110,100]then []else if t.word= [99,108,111,115,101]then []else t.texts.getD 2 []
def dK (g next:cq):Int:=if fx g=false then 11 else aT next
theorem Ii {g next:cq}(h:aT g=0):nb g next=dK g next:=by
 unfold nb po dK;rw[h];cases fx g<;>simp
theorem vN {log:List aS}{e:Int}{next:cq}{old:List aS}{st veh:List UInt8}(he:e≠0):eG vm sm log e next old st veh=e:=by
 unfold eG;rw[if_pos he]
theorem J2 (hI:dQ m n s)(hB:gI vm sm now s)(h0:0≤now∧now≤5761439)(hsm:sm.val []=false){g:cq}(hg:aT g=0)(hv:∀x ∈ g.legs,vm.has x.veh=true)(t:ik):
 eG vm sm (e9 s) (dK g (aY g now t)) (aY g now t) (cK g) (qA t) (qX t)=FZ vm sm s g now t∧
 (FZ vm sm s g now t=0→iq vm sm (e9 s) (dK g (aY g now t)) (aY g now t) (cK g) (qA t) (qX t)=e9 (e7 s (dW g now t))):=by
 have hm:=Ii (next:=aY g now t) hg
 have hG:FZ vm sm s g now t=if dK g (aY g now t)≠0 then dK g (aY g now t)else if(!lD vm sm t)=true then 8 else j5 s (dW g now t):=by
  unfold FZ;rw[hm];generalize dK g (aY g now t)=E;generalize j5 s (dW g now t)=C;simp only[ah]
  by_cases q:E=0
  · subst q;cases lD vm sm t<;>simp
  · simp[q]
 by_cases q:dK g (aY g now t)=0
 case neg=>
  rw[hG,if_pos q,vN q];exact⟨rfl,fun c=>absurd c q⟩
 have hq:¬dK g (aY g now t)≠0:=fun c=>c q
 have ho:fx g=true:=by
  unfold dK at q
  cases c:fx g with
  |true=>rfl
  |false=>rw[c,if_pos rfl]at q;exact absurd q (by decide)
 have hn:aT (aY g now t)=0:=by
  unfold dK at q;rw[ho,if_neg (by simp)]at q;exact q
 rw[hG,if_neg hq]
 have key:∀ (known:Bool) (evs:List aS),lD vm sm t=known→dW g now t=evs→B3 (cK g) (cK (aY g now t))=evs→
  ((qA t≠ []∧sm.val (qA t)=false)∨(qX t≠ []∧vm.has (qX t)=false)↔known=false)→
  (known=true→(dE vm sm (e9 s) evs).1=j5 s evs∧(j5 s evs=0→(dE vm sm (e9 s) evs).2=e9 (e7 s evs)))→
  eG vm sm (e9 s) (dK g (aY g now t)) (aY g now t) (cK g) (qA t) (qX t)=(if(!lD vm sm t)=true then 8 else j5 s (dW g now t))∧
  ((if(!lD vm sm t)=true then 8 else j5 s (dW g now t))=0→iq vm sm (e9 s) (dK g (aY g now t)) (aY g now t) (cK g) (qA t) (qX t)=e9 (e7 s (dW g now t))):=by
  intro known evs e1 e2 e3 e4 e5;unfold iq eG;rw[if_neg hq,e3,e1,e2]
  cases known with
  | false=>
    rw[if_pos (e4.2 rfl)]
    exact⟨rfl,fun c=>by simp at c⟩
  | true=>
    obtain⟨a1,a2⟩:=e5 rfl;rw[if_neg (fun c=>by have:=e4.1 c;cases this)];simp only[Bool.not_true,Bool.false_eq_true,if_false];refine⟨a1,fun c=> ?_⟩;rw[if_pos (by rw[a1];exact c)];exact a2 c
 by_cases w1:t.word= [101,120,116,101,110,100]
 · have eN:aY g now t=sO g (t.nums.getD 0 0):=by unfold aY;rw[if_pos w1]
   refine key true [] (by unfold lD;rw[if_pos w1]) (by unfold dW;rw[if_pos w1]) (by rw[eN];exact Al g _) ?_ (fun _=>⟨rfl,fun _=>rfl⟩);unfold qA qX;rw[if_pos w1,if_pos w1];simp
 by_cases w2:t.word= [99,108,111,115,101]
 · have eN:aY g now t=q8 g (jI now t):=by unfold aY;rw[if_neg w1,if_pos w2]
   rw[eN]at hn;obtain⟨o1,o2,o3⟩:=gr hg ho;have hl:0<g.legs.length:=List.length_pos_iff.2 fun q=>by rw[q]at o1;cases o1
   have hr:(jI now t).tm≠-1:=by show now≠-1;omega
   have hk:=Ai ((gk hn).2 (g.legs.length - 1) (by show _<(ct g.legs _).length;rw[cU];omega)) (by have:=yr g.legs (jI now t) hl [];rw[List.append_nil]at this;exact this) hr;have hs:t.texts.getD 1 []≠ []:=s3 (um hk.2);refine key (sm.val (t.texts.getD 1 [])) [⟨now,eJ g,t.texts.getD 1 [],3,[]⟩] (by unfold lD;rw[if_neg w1,if_pos w2]) (by unfold dW;rw[if_neg w1,if_pos w2]) (by rw[eN];exact ta hg ho hr hn) ?_ (fun hk1=> ?_)
   · unfold qA qX;rw[if_neg w1,if_neg w1,if_pos w2];exact⟨fun c=>by rcases c with c|c;exact c.2;exact absurd rfl c.1,fun c=>.inl ⟨hs,c⟩⟩
   · exact zD hI hB h0.1 rfl ⟨h0,by rw[←o3];exact hv _ o1,hk1,by show(1:Int)≤3∧(3:Int)≤8;omega,fun z=>absurd rfl z,fun z=>absurd (show(3:Int)=6 from z) (by decide),fun z=>hs z.symm⟩
 · have eN:aY g now t=ng g (jI now t) (t.texts.getD 2 []) (ln now t):=by unfold aY;rw[if_neg w1,if_neg w2]
   rw[eN]at hn;obtain⟨o1,o2,o3⟩:=gr hg ho;have hr:(jI now t).tm≠-1:=by show now≠-1;omega
   obtain⟨f1,f2,f3,f4⟩:=wH hg ho hr (show(ln now t).tm=(jI now t).tm from rfl) hn;have hs:t.texts.getD 1 []≠ []:=s3 (um f2);have hve:t.texts.getD 2 []≠ []:=s3 f3;refine key (sm.val (t.texts.getD 1 [])&&vm.has (t.texts.getD 2 [])) [⟨now,eJ g,t.texts.getD 1 [],3,[]⟩,⟨now,t.texts.getD 2 [],t.texts.getD 1 [],2,[]⟩] (by unfold lD;rw[if_neg w1,if_neg w2]) (by unfold dW;rw[if_neg w1,if_neg w2]) (by rw[eN];exact f1) ?_ (fun hk1=> ?_)
   · unfold qA qX;rw[if_neg w1,if_neg w1,if_neg w2];constructor
     · rintro(c|c)
       · rw[c.2];rfl
       · rw[c.2,Bool.and_false]
     · intro c;rw[Bool.and_eq_false_iff]at c;exact c.imp (fun c=>⟨hs,c⟩) (fun c=>⟨hve,c⟩)
   · rw[Bool.and_eq_true]at hk1
     exact FA hI hB h0.1 rfl rfl ⟨h0,by rw[←o3];exact hv _ o1,hk1.1,by show(1:Int)≤3∧(3:Int)≤8;omega,fun z=>absurd rfl z,fun z=>absurd (show(3:Int)=6 from z) (by decide),fun z=>hs z.symm⟩
      ⟨h0,hk1.2,hk1.1,by show(1:Int)≤2∧(2:Int)≤8;omega,fun z=>absurd rfl z,fun z=>absurd (show(2:Int)=6 from z) (by decide),fun z=>hs z.symm⟩ f4
structure fJ where
 log:List aS
 bks:Mp oR
 his:Mp (Option cq)
 paid:Mp Int
def pC (s:da):fJ:=⟨e9 s,s.bks,s.his,s.paid⟩
def kQ:fJ:=⟨[],Mp.nil fG,Mp.nil none,Mp.nil 0⟩
def kE (x:aZ)(t:ik):oR:=⟨t.texts.getD 0 [],t.texts.getD 1 [],t.nums.getD 0 0,t.nums.getD 1 0,x.tm,t.nums.getD 2 0⟩
def ga (h:df)(o:fJ)(b:oR):Int:=if mf b≠0 then mf b else if kX h.flt.cls b.cls=false then 8 else if(o.bks.has b.key||o.his.has b.key)=true then 6 else 0
def LQ (vm:Mp (List UInt8))(sm:Mp Bool)(o:fJ)(now:Int)(t:ik):Int:=
 if aT (fw now t)≠0 then aT (fw now t)else if o.his.has (t.texts.getD 0 [])=true then 6 else eG vm sm o.log 0 (fw now t) [] (t.texts.getD 3 []) (t.texts.getD 2 [])
def Lm (vm:Mp (List UInt8))(sm:Mp Bool)(o:fJ)(now:Int)(t:ik):List aS:=iq vm sm o.log 0 (fw now t) [] (t.texts.getD 3 []) (t.texts.getD 2 [])
def iX (o:fJ)(key:List UInt8)(c:Int):Int:=if o.his.has key=false then 8 else if ¬ (0≤c∧c≤1000000000)then 1 else if 1000000000<o.paid.val key+c then 2 else 0
def ov (o:fJ)(t:ik):cq:=(o.his.val (t.texts.getD 0 [])).getD fq
def JY (vm:Mp (List UInt8))(sm:Mp Bool)(o:fJ)(now:Int)(t:ik):Int:=
 if o.his.has (t.texts.getD 0 [])=false then 8 else eG vm sm o.log (dK (ov o t) (aY (ov o t) now t)) (aY (ov o t) now t) (cK (ov o t)) (qA t) (qX t)
def wl (vm:Mp (List UInt8))(sm:Mp Bool)(o:fJ)(now:Int)(t:ik):List aS:=
 iq vm sm o.log (dK (ov o t) (aY (ov o t) now t)) (aY (ov o t) now t) (cK (ov o t)) (qA t) (qX t)
def yH (h:df)(vm:Mp (List UInt8))(sm:Mp Bool)(o:fJ)(x:aZ)(t:ik):Int:=
 if aM.has t.word=true then eY vm sm o.log (eZ x.tm t)
 else if t.word= [98,111,111,107]then ga h o (kE x t)
 else if t.word= [99,97,110,99,101,108]then(if o.bks.has (t.texts.getD 0 [])then 0 else 8)
 else if t.word= [115,116,97,114,116]then LQ vm sm o x.tm t
 else if t.word= [112,97,121]then iX o (t.texts.getD 0 []) (t.nums.getD 0 0)
 else JY vm sm o x.tm t
def Dz (vm:Mp (List UInt8))(sm:Mp Bool)(o:fJ)(x:aZ)(t:ik):fJ:=
 if aM.has t.word=true then{o with log:=bc aX (o.log++ [eZ x.tm t])}
 else if t.word= [98,111,111,107]then{o with bks:=o.bks.put (t.texts.getD 0 []) (kE x t)}
 else if t.word= [99,97,110,99,101,108]then{o with bks:=o.bks.del (t.texts.getD 0 []) fG}
 else if t.word= [115,116,97,114,116]then{o with log:=Lm vm sm o x.tm t,his:=o.his.put (t.texts.getD 0 []) (some (fw x.tm t)),bks:=o.bks.del (t.texts.getD 0 []) fG}
 else if t.word= [112,97,121]then{o with paid:=o.paid.put (t.texts.getD 0 []) (o.paid.val (t.texts.getD 0 [])+t.nums.getD 0 0)}
 else{o with log:=wl vm sm o x.tm t,his:=o.his.put (t.texts.getD 0 []) (some (aY (ov o t) x.tm t))}
def rE (h:df)(vm:Mp (List UInt8))(sm:Mp Bool)(o:fJ)(x:aZ):Int:=if cJ formsM x.words=false then 9 else yH h vm sm o x (cP formsM x.words)
def rS (h:df)(vm:Mp (List UInt8))(sm:Mp Bool)(o:fJ)(x:aZ):fJ:=if rE h vm sm o x=0 then Dz vm sm o x (cP formsM x.words)else o
variable {vm:Mp (List UInt8)} {sm:Mp Bool} {m n:Nat} {s:da}
theorem K4 {h:df}(hc:dD h.flt.cls=0){t0:Int}(hI:dQ m n s)(hB:gI vm sm t0 s)(hC:jn vm t0 s){x:aZ}(ht:t0≤x.tm)(h0:0≤x.tm∧x.tm≤5761439)(hsm:sm.val []=false):
 rE h vm sm (pC s) x=gJ h vm sm s x∧rS h vm sm (pC s) x=pC (iU h vm sm s x):=by
 have hB:=hB.later ht;have hC:=hC.later ht
 have key:rE h vm sm (pC s) x=gJ h vm sm s x∧(gJ h vm sm s x=0→Dz vm sm (pC s) x (cP formsM x.words)=pC (iU h vm sm s x)):=by
  unfold rE gJ iU
  by_cases q:cJ formsM x.words=false
  · rw[if_pos q,if_pos q];exact⟨rfl,fun c=>absurd c (by decide)⟩
  rw[if_neg q,if_neg q,if_neg q];generalize cP formsM x.words=t;unfold yH Dz
  by_cases k1:aM.has t.word=true
  · simp only[if_pos k1];have hk:=s7 k1;have e:=Gl hI hB h0 (x:=eZ x.tm t) rfl (by show 1≤aM.val t.word∧aM.val t.word≤8;omega) (fun c=>if_neg (show ¬aM.val t.word=6 from c)) hsm;refine⟨e,fun z=> ?_⟩;unfold kg;rw[if_pos z];have hcan:dV s (eZ x.tm t)=0:=bf z _ (by simp);show fJ.mk _ _ _ _=pC (fy s (eZ x.tm t));rw[show(pC s).log=e9 s from rfl,qd hI hcan];rfl
  simp only[if_neg k1]
  by_cases k2:t.word= [98,111,111,107]
  · simp only[if_pos k2]
    have e:ga h (pC s) (kE x t)=gQ h s (kE x t):=by
     unfold ga gQ C9 tB;simp only[ah,hc];show(if mf (kE x t)≠0 then _ else if kX h.flt.cls (kE x t).cls=false then 8 else if(s.bks.has _||s.his.has _)=true then 6 else 0)=_
     by_cases f1:mf (kE x t)=0
     · cases kX h.flt.cls (kE x t).cls<;>cases (s.bks.has (kE x t).key||s.his.has (kE x t).key)<;>simp[f1]
     · simp[f1]
    refine⟨e,fun z=> ?_⟩;have z:gQ h s (kE x t)=0:=z;show _=pC (gF h s (kE x t));unfold gF;rw[if_pos z];rfl
  simp only[if_neg k2]
  by_cases k3:t.word= [99,97,110,99,101,108]
  · simp only[if_pos k3];refine⟨rfl,fun z=> ?_⟩
    by_cases f:s.bks.has (t.texts.getD 0 [])=true
    · rw[if_pos f];rfl
    · rw[if_neg f]at z;exact absurd z (by decide)
  simp only[if_neg k3]
  by_cases k4:t.word= [115,116,97,114,116]
  · simp only[if_pos k4];obtain⟨a1,a2⟩:=Dk hI hB h0 hsm t;refine⟨a1,fun z=> ?_⟩;unfold Lm;rw[show(pC s).log=e9 s from rfl,a2 z];unfold r7;rw[if_pos z];rfl
  simp only[if_neg k4]
  by_cases k5:t.word= [112,97,121]
  · simp only[if_pos k5]
    have e:iX (pC s) (t.texts.getD 0 []) (t.nums.getD 0 0)=mj s (t.texts.getD 0 []) (t.nums.getD 0 0):=by
     unfold iX mj;simp only[ah];show(if s.his.has _=false then 8 else if ¬_ then 1 else if 1000000000<s.paid.val _+_ then 2 else 0)=_;generalize t.nums.getD 0 0=C;generalize s.paid.val (t.texts.getD 0 [])=P;cases s.his.has (t.texts.getD 0 [])
     · simp
     · by_cases f1:0≤C<;>by_cases f2:C≤1000000000<;>by_cases f3:1000000000<P+C<;>simp[f1,f2,f3]<;>omega
    refine⟨e,fun z=> ?_⟩;unfold ml;rw[if_pos z];rfl
  simp only[if_neg k5];unfold JY t8;show(if s.his.has _=false then 8 else _)=_∧_
  cases hh:s.his.has (t.texts.getD 0 [])with
  |false=>simp
  | true=>
    obtain⟨g,hg,hE⟩:=hI.his _ hh;have hr:ov (pC s) t=g:=by show(s.his.val _).getD fq=g;rw[hg];rfl
    have hgd:(s.his.val (t.texts.getD 0 [])).getD fq=g:=by rw[hg];rfl
    obtain⟨a1,a2⟩:=J2 hI hB h0 hsm hE (fun y hy=>hC.veh _ _ hg y hy) t;unfold wl sB t8;rw[hr,hgd,hh];simp only[Bool.true_eq_false,if_false,if_true];refine⟨a1,fun z=> ?_⟩;rw[if_pos z,show(pC s).log=e9 s from rfl,a2 z];show fJ.mk _ _ _ _=fJ.mk _ _ _ _;have b1:(e7 s (dW g x.tm t)).his=s.his:=Ca s _
    have b2:∀l:List aS,∀s:da,(e7 s l).bks=s.bks∧(e7 s l).paid=s.paid:=by
     intro l
     induction l with
     |nil=>intro s;exact⟨rfl,rfl⟩
     |cons y l ih=>intro s;exact ih (fy s y)
    rw[b1,(b2 _ _).1,(b2 _ _).2];rfl
 refine⟨key.1,?_⟩;unfold rS;rw[key.1]
 by_cases z:gJ h vm sm s x=0
 · rw[if_pos z];exact key.2 z
 · rw[if_neg z,lu z]
variable {vm:Mp (List UInt8)} {sm:Mp Bool}
def sf (h:df)(vm:Mp (List UInt8))(sm:Mp Bool):fJ→Nat→List aZ→List sk
 |_,_,[]=> []
 |o,i,x::l=>(if rE h vm sm o x=0 then []else [⟨i,rE h vm sm o x⟩])++sf h vm sm (rS h vm sm o x) (i+1) l
theorem x8 {h:df}(hc:dD h.flt.cls=0)(hsm:sm.val []=false):∀ (l:List aZ) {m n i:Nat} {t0:Int} {s:da},dQ m n s→gI vm sm t0 s→jn vm t0 s→l.Pairwise (fun a b=>a.tm≤b.tm)→(∀x ∈ l,t0≤x.tm∧0≤x.tm∧x.tm≤5761439)→
 l.foldl (rS h vm sm) (pC s)=pC (pT h vm sm s l)∧sf h vm sm (pC s) i l=pJ h vm sm s i l
 | [],m,n,i,t0,s,_,_,_,_,_=>⟨rfl,rfl⟩
 | x::l,m,n,i,t0,s,hI,hb,hcc,hp,hx=>by
   obtain⟨a1,a2⟩:=hx x (by simp);obtain⟨b1,b2⟩:=AD h hI hb hcc hsm a1 a2;rw[List.pairwise_cons]at hp;obtain⟨e1,e2⟩:=K4 hc hI hb hcc a1 a2 hsm;obtain⟨c1,c2⟩:=x8 hc hsm l (i:=i+1) (yE hI h vm sm x) b1 b2 hp.2 (fun y hy=>⟨hp.1 y hy,(hx y (by simp[hy])).2⟩);refine⟨by rw[List.foldl_cons,e2,c1];rfl,?_⟩;unfold sf pJ;rw[e1,e2,c2]
   by_cases q:gJ h vm sm s x=0
   · rw[if_pos q,if_pos q];rfl
   · rw[if_neg q,if_neg q,lu q];rfl
theorem y1 {h:df}(hE:gi h=0){l:List aZ}(hl:zO l):l.foldl (rS h (b8 h.flt.veh) (bV h.flt.sta)) kQ=pC (cV h l)∧sf h (b8 h.flt.veh) (bV h.flt.sta) kQ 0 l=(cV h l).ref:=by
 have hc:dD h.flt.cls=0:=by
  have hf:=ru hE;unfold iL at hf
  by_cases q:kL h.flt=0
  · exact bf q _ (by simp)
  · rw[if_pos q]at hf;exact absurd hf q
 have hf:∀x ∈ l,0≤x.tm∧x.tm≤5761439:=fun x hx=>by
  have:=hl.frm x hx;unfold oA at this
  by_cases q:0≤x.tm∧x.tm≤5761439
  · exact q
  · rw[if_pos q]at this;exact absurd this (by decide)
 have hp:l.Pairwise fun a b=>a.tm≤b.tm:=hl.ord.imp fun{a b} q=>by
  unfold fa at q;simp only[ah]at q
  by_cases z:bJ a.tm b.tm=0
  · have:=dw.1 z;omega
  · rw[if_neg (by simp[z])]at q;have:=qx.1 (show bJ a.tm b.tm<0 by first|exact q|omega);omega
 have:=x8 (vm:=b8 h.flt.veh) (sm:=bV h.flt.sta) hc (ul hE) l (i:=0) rD zn yG hp (fun x hx=>⟨(hf x hx).1,hf x hx⟩);have e0:pC jl=kQ:=rfl;rw[e0]at this;unfold cV ll;rw[List.take_length];exact⟨this.1,this.2⟩
theorem OA (l:List Int)(hl:l.length≤2^40):ae Tryz.prog 11 [.d (cz l)] [] (fun x r=>x= .d (.int .i64 (ah l))∧r= []):=by
 refine aj hT Tryz.func11 Tryz.call11 ?_;conv=>whnf
 refine af hT (C:= []) (ι:=Nat) (fun i=>i≤l.length∧ah l=ah (l.drop i)) (fun i=>aJ [(5,.d (cz l)),(6,.d (.int .i64 l.length)),(7,.d (.int .i64 i))] []) (fun i=>l.length - i) 0 ⟨by omega,by simp⟩ (by exact a7 []) ?_;rintro i ⟨p1,p2⟩;have hd:i<l.length→l.drop i=l.getD i 0::l.drop (i+1):=fun hi=>by rw[List.drop_eq_getElem_cons hi,List.getD_eq_getElem?_getD,List.getElem?_eq_getElem hi];rfl
 conv=>whnf
 repeat' ((first|refine aa ?_ ?_<;>intro hb<;>try simp only[am]at hb|omega|refine ao ?_|decide|assumption)<;>conv=>whnf)
 · refine .ret _ ?_;conv=>whnf
   refine⟨[],⟨?_,rfl⟩,trivial⟩;conv=>lhs;whnf
   congr 2;rw[p2,hd (by omega),ah,if_neg hb,Int.toNat_natCast]
 · exact⟨i+1,⟨by omega,by rw[p2,hd (by omega),ah,if_pos hb]⟩,by omega,(by exact a7 [])⟩
 · refine .ret _ ?_;conv=>whnf
   refine⟨[],⟨?_,rfl⟩,trivial⟩;conv=>lhs;whnf
   congr 2;rw[p2,List.drop_eq_nil_iff.2 (by omega)];rfl
theorem M6 (l m:List (List UInt8))(hl:l.length≤2^40)(hm:m.length≤2^40):ae Tryz.prog 135 [.d (bU l),.d (bU m)] [] (fun x r=>x= .d (.int .i64 (xh l m))∧r= []):=by
 refine aj hT Tryz.func135 Tryz.call135 ?_;conv=>whnf
 refine af hT (C:= []) (ι:=Nat) (fun i=>i≤l.length∧i≤m.length∧xh l m=xh (l.drop i) (m.drop i)) (fun i=>aJ [(0,.d (bU l)),(1,.d (bU m)),(9,.d (bU l)),(10,.d (.int .i64 l.length)),(11,.d (.int .i64 i))] []) (fun i=>l.length - i) 0 ⟨by omega,by omega,by simp⟩ (by exact a7 []) ?_;rintro i ⟨p1,p2,p3⟩;have hd:i<l.length→l.drop i=l.getD i []::l.drop (i+1):=fun hi=>by rw[List.drop_eq_getElem_cons hi,List.getD_eq_getElem?_getD,List.getElem?_eq_getElem hi];rfl
 have hd2:i<m.length→m.drop i=m.getD i []::m.drop (i+1):=fun hi=>by rw[List.drop_eq_getElem_cons hi,List.getD_eq_getElem?_getD,List.getElem?_eq_getElem hi];rfl
 have e1:=ek i;conv=>whnf
 repeat' (first|(refine ab (wP _ _) rfl rfl ?_;rotate_right;conv=>whnf)|((first|refine aa ?_ ?_<;>intro hb<;>try simp only[am]at hb|omega|refine ao ?_|decide|assumption)<;>conv=>whnf))
 · refine .ret _ ?_;conv=>whnf
   refine⟨[],⟨?_,rfl⟩,trivial⟩;conv=>lhs;whnf
   congr 2
   rw[p3,hd (by omega),List.drop_eq_nil_iff.2 (by omega:m.length≤i)];rfl
 · refine .ret _ ?_;conv=>whnf
   refine⟨[],⟨?_,rfl⟩,trivial⟩;conv=>lhs;whnf
   congr 2
   rw[p3,hd (by omega),hd2 (by omega),xh,if_pos (by simpa using hb)];simp only[e1]
 · refine⟨i+1,⟨by omega,by omega,?_⟩,by omega,(by exact a7 [])⟩;rw[p3,hd (by omega),hd2 (by omega),xh,if_neg (by simpa using hb)]
 · refine .ret _ ?_;conv=>whnf
   refine⟨[],⟨?_,rfl⟩,trivial⟩;conv=>lhs;whnf
   congr 2
   have hm:i<m.length:=by omega
   rw[p3,hd2 hm,List.drop_eq_nil_iff.2 (by omega:l.length≤i)];rfl
 · refine .ret _ ?_;conv=>whnf
   refine⟨[],⟨?_,rfl⟩,trivial⟩;conv=>lhs;whnf
   congr 2
   rw[p3,List.drop_eq_nil_iff.2 (by omega:m.length≤i),List.drop_eq_nil_iff.2 (by omega:l.length≤i)];rfl
end Go.Proofs.YtafhoijegjmdcaaGreatDoor
namespace Go.Proofs
open Go.Shelf
set_option maxRecDepth 20000
def mF:Go.Shelf.Ren:=⟨fun|4=>139|n=>n,fun|22=>44|25=>96|3=>3|4=>4|9=>9|20=>20|0=>0|n=>n,fun|n=>n⟩
theorem Tryz.laysGrowE:Go.Proofs.Lays8.n4 Tryz.prog mF:={
 mixed:=by kernel_rfl
 f4:=⟨Tryz.f139.name,by decide,Tryz.func139.trans (congrArg some (by kernel_rfl))⟩
 t0:=Tryz.underlying0
 a0:=Tryz.isAgg0
 z0:=Tryz.sizeOf0
 v0:=Tryz.zeroValue0
 t3:=Tryz.underlying3
 a3:=Tryz.isAgg3
 z3:=Tryz.sizeOf3
 v3:=Tryz.zeroValue3
 t4:=Tryz.underlying4
 a4:=Tryz.isAgg4
 z4:=Tryz.sizeOf4
 v4:=Tryz.zeroValue4
 t9:=Tryz.underlying9
 a9:=Tryz.isAgg9
 z9:=Tryz.sizeOf9
 v9:=Tryz.zeroValue9
 t20:=Tryz.underlying20
 a20:=Tryz.isAgg20
 z20:=Tryz.sizeOf20
 v20:=Tryz.zeroValue20
 t22:=Tryz.underlying44
 a22:=Tryz.isAgg44
 z22:=Tryz.sizeOf44
 v22:=Tryz.zeroValue44}
end Go.Proofs
set_option maxRecDepth 100000
namespace Go.Proofs.YtafhoijegjmdcaaGreatDoor
open Go Go.Eng Go.RowKit
theorem Ix (n:Nat)(hn:n≤2^20):ae Tryz.prog 139 [.d .nilsl,.d (.int .i64 n)] [] (fun y r=>y= .buf 1000001∧r= [(1000001,.buf 96 4 0 fun _=> [])]):=by
 refine xr (by decide) Tryz.call139 (fun G β w vs _ hl hd=> ?_)
 match vs,hl with
 | [u,v],_=>
   have hu:=hd 0 _ _ rfl rfl;have hv:=hd 1 _ _ rfl rfl
   cases hu with|d _ _ hu=>cases hu with|nilsl=>
   cases hv with|d _ _ hv=>cases hv with|int _ _=>
   by_cases h0:n=0
   · subst h0;refine(Go.Proofs.Any8.slices_Grow_room Go.Proofs.Tryz.laysGrowE none 0 0 0 w (by decide) (by decide) (by decide) (by decide)).mono ?_;rintro e w' ⟨rfl,rfl⟩;exact⟨Below.refl _ _,_,rfl,.inl rfl⟩
   · obtain⟨_,inf,hi,hsz,hby,hz⟩:=hT.get (t:=96) (i:=(T 96).get rfl) rfl;have hg1:=grownCap_ge w (0+n) 0 96;have hg2:=grownCap_le_maxLen w (0+n) 0 96 (by simp only[maxLen];omega);refine(Go.Proofs.Any8.slices_Grow_grow Go.Proofs.Tryz.laysGrowE inf _ hi hz (by rw[hsz];decide) none 0 0 n [] w (Nat.le_refl _) (by omega) (by rw[hby];show(0+n)*48≤_;omega) (by omega) (by simp) (fun _=>rfl) (fun a h=>by cases h)).mono ?_;rintro e w' ⟨rfl,rfl⟩;refine⟨⟨rfl,rfl,rfl,?_,fun b hb=> ?_⟩,_,rfl,.inr ⟨_,_,_,rfl,Nat.le_refl _,Array.getElem?_push_size,hg2,?_⟩⟩
     · show w.heap.size≤(w.heap.push _).size;rw[Array.size_push];omega
     · show(w.heap.push _)[b]? =w.heap[b]?;rw[Array.getElem?_push];exact if_neg (by omega)
     · rw[Array.size_append,Array.size_append,size_zeroCells,size_zeroCells];show 0+(0+n - 0)*4+(grownCap w (0+n) 0 96 - (0+n))*4=grownCap w (0+n) 0 96*4;omega
instance:DecidableEq aZ:=fun _ _=>decidable_of_iff _ DJ.symm
def qI:TL:= [(6,[(0,[]),(1,[0]),(2,[]),(3,[]),(4,rg 4),(5,rg 5),(6,rg 5),(7,rg 4),(8,rg 4),(9,[])]),(11,[(0,[]),(1,[0]),(2,[]),(3,[]),(4,rg 4),(5,rg 5),(6,rg 5),(7,rg 4),(8,rg 4),(9,[])])]
theorem Kq (l:List aZ)(hl:l.length≤2^20):
 ae Tryz.prog 94 [.buf 1000001] [(1000001,aD 96 4 en bH l)]
  (fun y r=>∃d,(d=1000001∨d=59)∧y= .buf d∧r= [(d,aD 96 4 en bH (mZ l l.length))]):=by
 refine aj hT Tryz.func94 Tryz.call94 ?_;conv=>whnf
 repeat' ((first|refine aa ?_ ?_<;>intro hb<;>try simp only[am]at hb|refine bg hT qI ?_|omega|refine ao ?_|decide|assumption)<;>conv=>whnf)
 · have e:mZ l l.length=l:=by
    match l,hb with
    | [],_=>rfl
    | [x],_=>rfl
    |_::_::_,h=>simp at h;omega
   refine .ret _ ?_;conv=>whnf
   rw[e];exact⟨_,⟨1000001,.inl rfl,rfl,rfl⟩,rr,trivial⟩
 refine af hT (C:= []) (ι:=Nat) (fun k=>1≤k∧k≤l.length∧mZ l k=l.take k) (fun k=>aJ [(0,.buf 1000001),(3,.d (.int .i64 k))] [(1000001,aD 96 4 en bH l)]) (fun k=>l.length - k) 1 ⟨by omega,by omega,?_⟩ (by exact a7 [(1000001,1000001)]) ?_
 · cases l with
   |nil=>simp at hb
   |cons x l=>rfl
 rintro k ⟨p1,p2,p3⟩;have e1:(k:Int).toNat=k:=Int.toNat_natCast k;conv=>whnf
 repeat' ((first|refine jP.first (lo:=none) rfl ?_|refine jP.look (lo:=some _) rfl ?_|refine aa ?_ ?_<;>intro hb<;>try simp only[am]at hb|refine bg hT qI ?_|omega|refine ao ?_|decide|assumption)<;>conv=>whnf)
 · have hsub:SV.le (SV.sub 1000001 4 (k:Int).toNat (((l.length:Nat):Int) - (k:Int)).toNat) (SV.sub 1000001 4 k (l.length - k)):=by
    rw[show(k:Int).toNat=k by omega,show(((l.length:Nat):Int) - (k:Int)).toNat=l.length - k by omega];exact lr
   have hdup:l.getD k bH=l.getD (k - 1) bH:=by
    rw[aE]at hb;exact zH.2 ⟨hb.1,hb.2.1,hb.2.2.1,hb.2.2.2.1⟩
   refine af hT (C:= []) (ι:=Nat×Nat×List aZ) (fun(q,m,c)=>k≤q∧q<k+m∧1≤m∧k+m≤l.length∧c.length=l.length∧c.take q=mZ l (k+m)∧∀j,k+m≤j+1→c.getD j bH=l.getD j bH)
    (fun(q,m,c)=>aJ [(0,.buf 1000001),(3,.d (.int .i64 q)),(4,.sub 1000001 4 k (l.length - k)),(5,.d (.int .i64 m))] [(1000001,aD 96 4 en bH c)])
    (fun(_,m,_)=>l.length - m) (k,1,l) ⟨by omega,by omega,by omega,by omega,rfl,?_,fun _ _=>rfl⟩ (by(refine ac [(1000001,1000001)] rfl rfl ?_ ?_<;>repeat' (first|exact True.intro|exact lr|exact rr|(exact hsub)|exact au (by omega)|exact SV.le_any _|refine And.intro ?_ ?_));done) ?_
   · rw[mZ,if_pos ⟨by omega,hdup⟩,List.append_nil,p3]
   rintro⟨q,m,c⟩ ⟨r1,r2,r3,r4,hc0,r5,r6⟩;conv=>whnf
   repeat' ((first|refine jP.first (lo:=none) rfl ?_|refine jP.look (lo:=some _) rfl ?_|refine aa ?_ ?_<;>intro hb<;>try simp only[am]at hb|refine bg hT qI ?_|omega|refine ao ?_|decide|assumption)<;>conv=>whnf)
   · have g1:=r6 (k+m) (by omega);have g2:=r6 (k+m - 1) (by omega);rw[show k+((m:Int) - 1).toNat=k+m - 1 by omega,g1,g2]at hb
     have hne:¬l.getD (k+m) bH=l.getD (k+m - 1) bH:=by
      intro h;rw[h]at hb;simp at hb
     have eq':(q:Int).toNat=q:=Int.toNat_natCast q;have em:k+(m:Int).toNat=k+m:=by rw[Int.toNat_natCast]
     refine⟨(q+1,m+1,c.set (q:Int).toNat (c.getD (k+(m:Int).toNat) bH)),⟨by omega,by omega,by omega,by omega,by rw[List.length_set];exact hc0,?_,fun j hj=> ?_⟩,by show l.length - (m+1)<l.length - m;omega,ac [(1000001,1000001)] rfl rfl ⟨lr,au (by omega),lr,au (by omega),trivial⟩ ⟨jg (fun _ _=>rfl),trivial⟩⟩
     · rw[eq',em,g1,←Nat.add_assoc,mZ,if_neg (fun h=>hne h.2),←r5,io (d:=bH) (by rw[List.length_set];omega)];rw[List.take_set_of_le (Nat.le_refl _),List.getD_eq_getElem?_getD,List.getElem?_set_self (by omega)];rfl
     · rw[eq',List.getD_eq_getElem?_getD,List.getElem?_set_ne (by omega),←List.getD_eq_getElem?_getD];exact r6 j (by omega)
   · have g1:=r6 (k+m) (by omega);have g2:=r6 (k+m - 1) (by omega);rw[show k+((m:Int) - 1).toNat=k+m - 1 by omega,g1,g2]at hb;have hdup2:l.getD (k+m) bH=l.getD (k+m - 1) bH:=zH.2 ⟨hb.1,hb.2.1,hb.2.2.1,hb.2.2.2.1⟩;refine⟨(q,m+1,c),⟨by omega,by omega,by omega,by omega,hc0,?_,fun j hj=>r6 j (by omega)⟩,by show l.length - (m+1)<l.length - m;omega,(by exact a7 [(1000001,1000001)])⟩;rw[←Nat.add_assoc,mZ,if_pos ⟨by omega,hdup2⟩,List.append_nil];exact r5
   · have hkm:k+m=l.length:=by omega
     refine .ret _ ?_;conv=>whnf
     refine⟨_,⟨59,.inr rfl,rfl,rfl⟩,cY (by rw[←hkm,←r5,List.length_take];omega) (fun i hi=> ?_),trivial⟩
     have hi:i<q:=by
      have:i<(q:Int).toNat:=hi;omega
     have h1:Nat.ble (q:Int).toNat i=false:=by
      rw[←Bool.not_eq_true,Nat.ble_eq];omega
     show(bif Nat.ble (q:Int).toNat i&&_ then _ else aR en bH c i)=_;rw[h1,←hkm,←r5];simp only[Bool.false_and,cond_false,aR];rw[List.getD_eq_getElem?_getD,List.getD_eq_getElem?_getD,List.getElem?_take_of_lt hi]
 · have hne:¬l.getD k bH=l.getD (k - 1) bH:=by
    rw[aE]at hb;intro h;rw[h]at hb;simp at hb
   refine⟨k+1,⟨by omega,by omega,?_⟩,by omega,(by exact a7 [(1000001,1000001)])⟩;rw[mZ,if_neg (fun h=>hne h.2),p3,io (d:=bH) (by omega)]
 · have hk:k=l.length:=by omega
   have e:mZ l l.length=l:=by rw[←hk,p3,hk,List.take_length]
   refine .ret _ ?_;conv=>whnf
   rw[e];exact⟨_,⟨1000001,.inl rfl,rfl,rfl⟩,rr,trivial⟩
def D0:TL:= [(4,[(0,[]),(1,[0]),(2,[0,1]),(3,[0,1,2]),(4,[0,1,2]),(5,[0,1,2]),(6,[0,1,2]),(7,rg 7),(8,rg 7),(9,rg 7),(10,rg 7),(11,[0,1,2]),(13,rg 12),(14,[0,1,2,3,4,5,6,7,8,9,10,11,13]),(15,[0,1,2,3,4,5,6,7,8,9,10,11,13]),(16,[0,1,2,3,4,5,6,7,8,9,10,11,13]),(17,[0,1,2,3,4,5,6,7,8,9,10,11,13]),(18,[0,1,2,3,4,5,6,7,8,9,10,11,13,14,15,16,17]),(19,[0,1,2,3,4,5,6,7,8,9,10,11,13,14,15,16,17]),(20,[0,1,2,3,4,5,6,7,8,9,10,11,13,14,15,16,17]),(21,[0,1,2,3,4,5,6,7,8,9,10,11,13,14,15,16,17]),(22,[0,1,2,3,4,5,6,7,8,9,10,11,13]),(12,[0,1,13,14,15,16,17,18,19,20,21,22]),(23,[0,1]),(24,[1]),(25,[1]),(26,[1]),(27,[]),(28,[]),(29,[])])]
theorem Gn (n:Nat)(L:Nat→Int)(hL:oW n L)(a:Int)(h0:0≤a)(ha:a≤2^37):
 ae Tryz.prog 55 [.ptr 1000000 0] [(1000000,bd n L a)] (fun y r=>(∃l:List gd,G5 l∧y= .d (dI l))∧fo n L a 20 r):=by
 refine aj hT Tryz.func55 Tryz.call55 ?_;conv=>whnf
 refine dp (Cs n L hL _ ?_ ?_) [(1000000,1000000),(9,6)] ?_
 rotate_right
 rintro x rout ⟨l,b,⟨p4,p5⟩,⟨p1,p2⟩,rfl,rfl⟩;refine⟨rfl,?_⟩;conv=>whnf
 repeat' (first|(refine dp (pn n L hL _ ?_ ?_ 10 ?_) [(1000000,1000000)] ?_;rotate_right;rintro x rout ⟨⟨w,rfl⟩,⟨c,c1,c2,rfl⟩⟩;refine⟨rfl,?_⟩;conv=>whnf)|(refine dp (wA n L hL _ ?_ ?_ _ ?_) [(1000000,1000000)] ?_;rotate_right;rintro x rout ⟨⟨j,hj1,hj2,hj3,rfl⟩,⟨c,c1,c2,rfl⟩⟩;refine⟨rfl,?_⟩;conv=>whnf)|(refine dP.of (mI n L hL _ ?_ ?_ [(l.getD j.toNat cD).key,(l.getD j.toNat cD).key,[],[65],[122,101,100]] (by simp) (by simp)) [(1000000,1000000)] rfl ⟨lr,ai rfl rfl,trivial⟩ ⟨rr,trivial⟩ rfl rfl ?_;rotate_right;rintro x rout ⟨⟨u1,hu1,rfl⟩,⟨c,c1,c2,rfl⟩⟩;refine⟨rfl,?_⟩;conv=>whnf)|(refine dP.of (mI n L hL _ ?_ ?_ [(l.getD j.toNat cD).up,[109,105,110,105],[110,111,110,101],[65],(l.getD j.toNat cD).key] (by simp) (by simp)) [(1000000,1000000)] rfl ⟨lr,ai rfl rfl,trivial⟩ ⟨rr,trivial⟩ rfl rfl ?_;rotate_right;rintro x rout ⟨⟨u2,hu2,rfl⟩,⟨c,c1,c2,rfl⟩⟩;refine⟨rfl,?_⟩;conv=>whnf)|((first|refine aa ?_ ?_<;>intro hb<;>try simp only[am]at hb|refine bg hT D0 ?_|omega|refine ao ?_|decide|assumption)<;>conv=>whnf))
 · have hc:zi (l.getD j.toNat cD):=p5 _ (al (by omega));have hw1:u1.length≤8:=by simp only[List.mem_cons,List.not_mem_nil,or_false]at hu1;rcases hu1 with rfl|rfl|rfl|rfl|rfl<;>first|exact hc.1|decide
   have hw2:u2.length≤8:=by simp only[List.mem_cons,List.not_mem_nil,or_false]at hu2;rcases hu2 with rfl|rfl|rfl|rfl|rfl<;>first|exact hc.1|exact hc.2|decide
   refine .freeze _ 6 180 2 _ _ rfl (.weak _ ?_);conv=>whnf
   exact⟨.d (dI (kO (kO l j.toNat cD fun y=>{y with key:=u1}) j.toNat cD fun y=>{y with up:=u2})),[(1000000,bd n L _)],x5 (f:=ub) (d:=cD) (fun y:gd=>{y with key:=u1}) (fun y=>{y with up:=u2}) (fun _=>rfl) (fun _=>rfl),
    ⟨⟨_,⟨by simp only[List.length_set];omega,(fd (g:=fun y:gd=>{y with up:=u2}) (fd (g:=fun y:gd=>{y with key:=u1}) (k:=4) ⟨by omega,p5⟩ (fun y hy=>⟨hw1,hy.2⟩)) (fun y hy=>⟨hy.1,hw2⟩)).2⟩,rfl⟩,_,by omega,by omega,rfl⟩,rr,trivial⟩
 · refine .freeze _ 6 180 2 _ _ rfl (.weak _ ?_);conv=>whnf
   exact⟨_,[(1000000,bd n L _)],lr,⟨⟨l,⟨by omega,p5⟩,rfl⟩,_,by omega,by omega,rfl⟩,rr,trivial⟩
theorem Fy (n:Nat)(L:Nat→Int)(hL:oW n L)(a:Int)(h0:0≤a)(ha:a≤2^37):
 ae Tryz.prog 56 [.ptr 1000000 0] [(1000000,bd n L a)] (fun y r=>(∃u:List UInt8,u.length≤8∧y= .d (.str u))∧fo n L a 20 r):=by
 refine aj hT Tryz.func56 Tryz.call56 ?_;conv=>whnf
 repeat' (first|(refine dP.of (mI n L hL _ ?_ ?_ [[109,105,110,105],[109,105,110,105],[109,105,100,105],[109,97,120,105],[98,105,103],[109,105,110,105],[110,111,110,101],[],[65]] (by simp) (by simp)) [(1000000,1000000)] rfl ⟨lr,ai rfl rfl,trivial⟩ ⟨rr,trivial⟩ rfl rfl ?_;rotate_right;rintro x rout ⟨⟨u2,hu2,rfl⟩,⟨c,c1,c2,rfl⟩⟩;have hw2:=bu hu2 rfl;refine⟨rfl,?_⟩;conv=>whnf)|((first|refine aa ?_ ?_<;>intro hb<;>try simp only[am]at hb|omega|refine ao ?_|decide|assumption)<;>conv=>whnf))
 refine .ret _ ?_;conv=>whnf
 exact⟨[(1000000,bd n L _)],⟨⟨u2,hw2,rfl⟩,_,by omega,by omega,rfl⟩,rr,trivial⟩
theorem ME (x:gd)(key:List UInt8):ae Tryz.prog 131 [.agg ((ub x).map .d),.ptr 1000001 0] [(1000001,jp key)] (fun y r=>y= .d (.bool (x.key==key))∧r= [(1000001,jp key)]):=by
 refine aj hT Tryz.func131 Tryz.call131 ?_;conv=>whnf
 refine .ret _ ?_;conv=>whnf
 exact⟨[(1000001,jp key)],⟨rfl,rfl⟩,rr,trivial⟩
theorem MS (x:pV)(key:List UInt8):ae Tryz.prog 133 [.agg ((uM x).map .d),.ptr 1000001 0] [(1000001,jp key)] (fun y r=>y= .d (.bool (x.key==key))∧r= [(1000001,jp key)]):=by
 refine aj hT Tryz.func133 Tryz.call133 ?_;conv=>whnf
 refine .ret _ ?_;conv=>whnf
 exact⟨[(1000001,jp key)],⟨rfl,rfl⟩,rr,trivial⟩
theorem Lo (l:List gd)(hl:l.length≤2^40)(key:List UInt8):ae Tryz.prog 130 [.d (dI l),.fn 131 [.ptr 1000001 0]] [(1000001,jp key)] (fun x r=>x= .d (.int .i64 (fD l key))∧r= [(1000001,jp key)]):=by
 refine aj hT Tryz.func130 Tryz.call130 ?_;conv=>whnf
 refine af hT (C:= []) (ι:=Nat) (fun i=>i≤l.length∧∀j,j<i→((l.getD j cD).key==key)=false) (fun i=>aJ [(0,.d (dI l)),(1,.fn 131 [.ptr 1000001 0]),(7,.d (.int .i64 l.length)),(8,.d (.int .i64 i))] [(1000001,jp key)]) (fun i=>l.length - i) 0 ⟨by omega,by omega⟩ (by exact a7 [(1000001,1000001)]) ?_;rintro i ⟨p1,p2⟩;have e1:=ek i;conv=>whnf
 repeat' ((first|(refine bP (ME (l.getD (i:Int).toNat cD) key) [(1000001,1000001)] ?_)|refine aa ?_ ?_<;>intro hb<;>try simp only[am]at hb|omega|refine ao ?_|decide|assumption)<;>conv=>whnf)
 · refine .ret _ ?_;conv=>whnf
   refine⟨[(1000001,jp key)],⟨?_,rfl⟩,rr,trivial⟩;conv=>lhs;whnf
   congr 2
   exact(d5 (by omega) p2 (by simpa using hb)).symm
 · exact⟨i+1,⟨by omega,aV p2 (by simpa using hb)⟩,by omega,(by exact a7 [(1000001,1000001)])⟩
 · refine .ret _ ?_;conv=>whnf
   refine⟨[(1000001,jp key)],⟨?_,rfl⟩,rr,trivial⟩;conv=>lhs;whnf
   congr 2
   have:i=l.length:=by omega
   subst this;exact(dr p2).symm
theorem ND (l:List pV)(hl:l.length≤2^40)(key:List UInt8):ae Tryz.prog 132 [.d (mg l),.fn 133 [.ptr 1000001 0]] [(1000001,jp key)] (fun x r=>x= .d (.int .i64 (m5 l key))∧r= [(1000001,jp key)]):=by
 refine aj hT Tryz.func132 Tryz.call132 ?_;conv=>whnf
 refine af hT (C:= []) (ι:=Nat) (fun i=>i≤l.length∧∀j,j<i→((l.getD j dg).key==key)=false) (fun i=>aJ [(0,.d (mg l)),(1,.fn 133 [.ptr 1000001 0]),(7,.d (.int .i64 l.length)),(8,.d (.int .i64 i))] [(1000001,jp key)]) (fun i=>l.length - i) 0 ⟨by omega,by omega⟩ (by exact a7 [(1000001,1000001)]) ?_;rintro i ⟨p1,p2⟩;have e1:=ek i;conv=>whnf
 repeat' ((first|(refine bP (MS (l.getD (i:Int).toNat dg) key) [(1000001,1000001)] ?_)|refine aa ?_ ?_<;>intro hb<;>try simp only[am]at hb|omega|refine ao ?_|decide|assumption)<;>conv=>whnf)
 · refine .ret _ ?_;conv=>whnf
   refine⟨[(1000001,jp key)],⟨?_,rfl⟩,rr,trivial⟩;conv=>lhs;whnf
   congr 2
   exact(d5 (by omega) p2 (by simpa using hb)).symm
 · exact⟨i+1,⟨by omega,aV p2 (by simpa using hb)⟩,by omega,(by exact a7 [(1000001,1000001)])⟩
 · refine .ret _ ?_;conv=>whnf
   refine⟨[(1000001,jp key)],⟨?_,rfl⟩,rr,trivial⟩;conv=>lhs;whnf
   congr 2
   have:i=l.length:=by omega
   subst this;exact(dr p2).symm
theorem Lb (l:List gd)(hl:l.length≤2^40)(key:List UInt8):ae Tryz.prog 74 [.d (dI l),.d (.str key)] [] (fun x r=>x= .d (.int .i64 (fD l key))∧r= []):=by
 refine aj hT Tryz.func74 Tryz.call74 ?_;conv=>whnf
 refine bP (Lo l hl key) [(1000001,3)] ?_;conv=>whnf
 refine .ret _ ?_;conv=>whnf
 refine⟨[],⟨?_,rfl⟩,trivial⟩;conv=>lhs;whnf
theorem z85 (f:nc)(hl:f.veh.length≤2^40)(key:List UInt8):ae Tryz.prog 76 [flt f,.d (.str key)] [] (fun x r=>x= .d (.int .i64 (m5 f.veh key))∧r= []):=by
 refine aj hT Tryz.func76 Tryz.call76 ?_;conv=>whnf
 refine bP (ND f.veh hl key) [(1000001,3)] ?_;conv=>whnf
 refine .ret _ ?_;conv=>whnf
 refine⟨[],⟨?_,rfl⟩,trivial⟩;conv=>lhs;whnf
theorem M9 (l:List gd)(hl:l.length≤2^20)(hu:tj l)(key:List UInt8)(hk:0≤fD l key):
 ae Tryz.prog 128 [.d (dI l),.d (.str key)] [] (fun x r=>x= .d (bU (oI l (l.length+1) key))∧r= []):=by
 refine aj hT Tryz.func128 Tryz.call128 ?_;conv=>whnf
 repeat' (first|(refine ab (Lb l (by omega) key) rfl rfl ?_;rotate_right;conv=>whnf)|((first|refine aa ?_ ?_<;>intro hb<;>try simp only[am]at hb|omega|refine ao ?_|decide|assumption)<;>conv=>whnf))
 refine af hT (C:= []) (ι:=List (List UInt8)×List UInt8) (fun(o,k)=>o.length≤l.length+1∧0≤fD l k∧o++oI l (l.length+1 - o.length) k=oI l (l.length+1) key)
  (fun(o,k)=>aJ [(0,.d (dI l)),(5,.buf 5),(6,.d (.int .i64 (fD l k)))] [(5,aD 9 1 sF [] o)])
  (fun(o,_)=>l.length+1 - o.length) ([],key) ⟨by simp,hk,by simp⟩ ?_ ?_
 · exact(du.nil 5 5 9 1 (aR sF [] []) rfl rfl (by decide)).trans (ac [(5,5)] rfl rfl ⟨lr,lr,lr,trivial⟩ ⟨rr,trivial⟩)
 rintro⟨o,k⟩ ⟨p1,p3,p4⟩;have p1:o.length≤l.length+1:=p1;have p3:0≤fD l k:=p3;have p4:o++oI l (l.length+1 - o.length) k=oI l (l.length+1) key:=p4;have hb1:=(qt l k).2;conv=>whnf
 repeat' (first|(refine ab (Lb l (by omega) (wn l k)) rfl rfl ?_;rotate_right;conv=>whnf)|((first|refine aa ?_ ?_<;>intro hb<;>try simp only[am]at hb|omega|refine ao ?_|decide|assumption)<;>conv=>whnf))
 · have hm:(l.getD (fD l k).toNat cD) ∈ l:=al (by omega);have hn:¬ (l.getD (fD l k).toNat cD).up= []:=by assumption
   refine⟨(o++ [wn l k],wn l k),⟨by simp;omega,hu _ hm hn,?_⟩,by show l.length+1 - (o++ [wn l k]).length<l.length+1 - o.length;simp;omega,
    ac [(5,41)] rfl rfl ⟨lr,lr,lr,trivial⟩ ⟨aB rfl,trivial⟩⟩
   rw[←p4,show l.length+1 - o.length=(l.length - o.length)+1 by omega,oI,if_neg (show ¬wn l k= []from hn),List.append_assoc,List.length_append,show l.length+1 - (o.length+ [wn l k].length)=l.length - o.length from by simp];rfl
 · refine .freeze _ 5 9 1 _ _ rfl (.weak _ ?_);conv=>whnf
   refine⟨.d (bU o),[],lr,⟨?_,rfl⟩,trivial⟩;rw[←p4,show l.length+1 - o.length=0 by omega,oI,List.append_nil]
 · refine .freeze _ 5 9 1 _ _ rfl (.weak _ ?_);conv=>whnf
   refine⟨.d (bU o),[],lr,⟨?_,rfl⟩,trivial⟩;rw[←p4]
   cases hq:l.length+1 - o.length with
   |zero=>rw[oI,List.append_nil]
   |succ m=>rw[oI,if_pos (show wn l k= []from hb),List.append_nil]
theorem O5 (s:List UInt8)(hl:s.length≤2^40):ae Tryz.prog 77 [.d (.str s)] [] (fun x r=>x= .d (.bool (gE s))∧r= []):=by
 refine aj hT Tryz.func77 Tryz.call77 ?_;conv=>whnf
 repeat' (first|(refine ab (kf _ _ _) rfl rfl ?_;rotate_right;conv=>whnf)|(refine ab (GX s oy hl ?_ ?_) rfl rfl ?_;rotate_right;conv=>whnf)|((first|refine aa ?_ ?_<;>intro hb<;>try simp only[am]at hb|omega|refine ao ?_|decide|assumption)<;>conv=>whnf))
 all_goals try(simp;omega)
 all_goals
  refine .ret _ ?_;conv=>whnf
  refine⟨[],⟨?_,rfl⟩,trivial⟩;conv=>lhs;whnf
  rw[Da];congr 2;grind
theorem KZ (n:Int):ae Tryz.prog 134 [.d (.int .i64 n)] [] (fun x r=>x= .d (.int .i64 (bJ n 0))∧r= []):=by
 refine aj hT Tryz.func134 Tryz.call134 ?_;conv=>whnf
 repeat' ((first|refine aa ?_ ?_<;>intro hb<;>try simp only[am]at hb|omega|refine ao ?_|decide|assumption)<;>conv=>whnf)
 all_goals
  refine .ret _ ?_;conv=>whnf
  refine⟨[],⟨?_,rfl⟩,trivial⟩;conv=>lhs;whnf
  congr 2;unfold bJ;grind
theorem O4 (a b:iE)(ha: -2^40≤a.frm∧a.frm≤2^40)(hb: -2^40≤b.frm∧b.frm≤2^40):ae Tryz.prog 78 [.agg ((ig a).map .d),.agg ((ig b).map .d)] [] (fun x r=>x= .d (.int .i64 (gL a b))∧r= []):=by
 refine aj hT Tryz.func78 Tryz.call78 ?_;conv=>whnf
 repeat' (first|(refine ab (KZ _) rfl rfl ?_;rotate_right;conv=>whnf)|((first|refine ap (M6 [_,_] [_,_] (by simp) (by simp)) ⟨ai (by rfl) (by rfl),ai (by rfl) (by rfl),trivial⟩ rfl ?_|refine aa ?_ ?_<;>intro hb<;>try simp only[am]at hb|omega|refine ao ?_|decide|assumption)<;>conv=>whnf))
 all_goals
  refine .ret _ ?_;conv=>whnf
  refine⟨[],⟨?_,rfl⟩,trivial⟩;conv=>lhs;whnf
  congr 2
  rw[Bt];grind
theorem OQ (o p:iE):ae Tryz.prog 80 [.agg ((ig o).map .d),.ptr 1000001 0] [(1000001,pR p)] (fun y r=>y= .d (.bool (zb p o))∧r= [(1000001,pR p)]):=by
 refine aj hT Tryz.func80 Tryz.call80 ?_;conv=>whnf
 repeat' ((first|refine aa ?_ ?_<;>intro hb<;>try simp only[am]at hb|omega|refine ao ?_|decide|assumption)<;>conv=>whnf)
 all_goals
  refine .ret _ ?_;conv=>whnf
  refine⟨[(1000001,pR p)],⟨?_,rfl⟩,rr,trivial⟩;conv=>lhs;whnf
  unfold zb;congr 2
  first|grind|simp_all
theorem MY (l:List iE)(hl:l.length≤2^40)(p:iE):ae Tryz.prog 136 [.d (vl l),.fn 80 [.ptr 1000001 0]] [(1000001,pR p)] (fun x r=>x= .d (.int .i64 (gT (fun i=>zb p (l.getD i bD)) l.length))∧r= [(1000001,pR p)]):=by
 refine aj hT Tryz.func136 Tryz.call136 ?_;conv=>whnf
 refine af hT (C:= []) (ι:=Nat) (fun i=>i≤l.length∧∀j,j<i→zb p (l.getD j bD)=false) (fun i=>aJ [(0,.d (vl l)),(1,.fn 80 [.ptr 1000001 0]),(7,.d (.int .i64 l.length)),(8,.d (.int .i64 i))] [(1000001,pR p)]) (fun i=>l.length - i) 0 ⟨by omega,by omega⟩ (by exact a7 [(1000001,1000001)]) ?_;rintro i ⟨p1,p2⟩;have e1:=ek i;conv=>whnf
 repeat' ((first|(refine bP (OQ (l.getD (i:Int).toNat bD) p) [(1000001,1000001)] ?_)|refine aa ?_ ?_<;>intro hb<;>try simp only[am]at hb|omega|refine ao ?_|decide|assumption)<;>conv=>whnf)
 · refine .ret _ ?_;conv=>whnf
   refine⟨[(1000001,pR p)],⟨?_,rfl⟩,rr,trivial⟩;conv=>lhs;whnf
   congr 2
   exact(d5 (by omega) p2 (by simpa using hb)).symm
 · exact⟨i+1,⟨by omega,aV p2 (by simpa using hb)⟩,by omega,(by exact a7 [(1000001,1000001)])⟩
 · refine .ret _ ?_;conv=>whnf
   refine⟨[(1000001,pR p)],⟨?_,rfl⟩,rr,trivial⟩;conv=>lhs;whnf
   congr 2
   have:i=l.length:=by omega
   subst this;exact(dr p2).symm
theorem Pd (l:List iE)(hl:l.length≤2^40)(p:iE):ae Tryz.prog 79 [.d (vl l),.fn 80 [.ptr 1000001 0]] [(1000001,pR p)] (fun x r=>x= .d (.bool (l.any (zb p)))∧r= [(1000001,pR p)]):=by
 refine aj hT Tryz.func79 Tryz.call79 ?_;conv=>whnf
 repeat' ((first|(refine bP (MY l hl p) [(1000001,1000001)] ?_)|refine aa ?_ ?_<;>intro hb<;>try simp only[am]at hb|omega|refine ao ?_|decide|assumption)<;>conv=>whnf)
 refine .ret _ ?_;conv=>whnf
 refine⟨[(1000001,pR p)],⟨?_,rfl⟩,rr,trivial⟩;conv=>lhs;whnf
 rw[←Jv l bD]
def B7:TL:= [(5,[(0,[]),(1,[0]),(2,[0]),(3,[0]),(4,[1,2,3]),(5,[])]),(9,[(0,[]),(1,[0]),(2,[0]),(3,[0]),(4,[1,2,3]),(5,[])]),(14,[(0,[]),(1,[0]),(2,[0]),(3,[0]),(4,[0]),(5,[0]),(6,[0]),(7,[0,5,6]),(8,[0,5,6]),(9,[0]),(10,[0]),(11,[5,6,7,8,9,10]),(12,[])]),(18,[(0,[]),(1,[0]),(2,[0]),(3,[0]),(4,[0]),(5,[0]),(6,[0]),(7,[0,5,6]),(8,[0,5,6]),(9,[0]),(10,[0]),(11,[5,6,7,8,9,10]),(12,[])])]
def xa:TL:= [(18,[(0,[]),(1,[]),(2,[]),(3,[]),(4,[3]),(5,[3]),(6,[]),(7,[]),(8,[3,4,5,6,7]),(9,[]),(10,[]),(11,[]),(12,[])])]
def vQ:TL:= [(6,[(0,[]),(1,[0]),(2,[0]),(3,[0]),(4,[]),(5,[]),(6,rg 6),(11,rg 7),(7,[11]),(8,[11]),(9,[11]),(10,[11,9]),(12,[10]),(13,[])])]
def pY (l:List lB)(key:List UInt8):Int:=gT (fun i=>(l.getD i fZ).key==key) l.length
theorem NP (x:lB)(key:List UInt8):ae Tryz.prog 257 [.agg ((pG x).map .d),.ptr 1000001 0] [(1000001,jp key)] (fun y r=>y= .d (.bool (x.key==key))∧r= [(1000001,jp key)]):=by
 refine aj hT Tryz.func257 Tryz.call257 ?_;conv=>whnf
 refine .ret _ ?_;conv=>whnf
 exact⟨[(1000001,jp key)],⟨rfl,rfl⟩,rr,trivial⟩
theorem NY (l:List lB)(hl:l.length≤2^40)(key:List UInt8):ae Tryz.prog 256 [.d (iT l),.fn 257 [.ptr 1000001 0]] [(1000001,jp key)] (fun x r=>x= .d (.int .i64 (pY l key))∧r= [(1000001,jp key)]):=by
 refine aj hT Tryz.func256 Tryz.call256 ?_;conv=>whnf
 refine af hT (C:= []) (ι:=Nat) (fun i=>i≤l.length∧∀j,j<i→((l.getD j fZ).key==key)=false) (fun i=>aJ [(0,.d (iT l)),(1,.fn 257 [.ptr 1000001 0]),(7,.d (.int .i64 l.length)),(8,.d (.int .i64 i))] [(1000001,jp key)]) (fun i=>l.length - i) 0 ⟨by omega,by omega⟩ (by exact a7 [(1000001,1000001)]) ?_;rintro i ⟨p1,p2⟩;have e1:=ek i;conv=>whnf
 repeat' ((first|(refine bP (NP (l.getD (i:Int).toNat fZ) key) [(1000001,1000001)] ?_)|refine aa ?_ ?_<;>intro hb<;>try simp only[am]at hb|omega|refine ao ?_|decide|assumption)<;>conv=>whnf)
 · refine .ret _ ?_;conv=>whnf
   refine⟨[(1000001,jp key)],⟨?_,rfl⟩,rr,trivial⟩;conv=>lhs;whnf
   congr 2
   exact(d5 (by omega) p2 (by simpa using hb)).symm
 · exact⟨i+1,⟨by omega,aV p2 (by simpa using hb)⟩,by omega,(by exact a7 [(1000001,1000001)])⟩
 · refine .ret _ ?_;conv=>whnf
   refine⟨[(1000001,jp key)],⟨?_,rfl⟩,rr,trivial⟩;conv=>lhs;whnf
   congr 2
   have:i=l.length:=by omega
   subst this;exact(dr p2).symm
theorem I8 (f:nc)(hl:f.sta.length≤2^40)(key:List UInt8):ae Tryz.prog 199 [flt f,.d (.str key)] [] (fun x r=>x= .d (.int .i64 (pY f.sta key))∧r= []):=by
 refine aj hT Tryz.func199 Tryz.call199 ?_;conv=>whnf
 repeat' ((first|(refine bP (NY f.sta hl key) [(1000001,3)] ?_)|refine aa ?_ ?_<;>intro hb<;>try simp only[am]at hb|omega|refine ao ?_|decide|assumption)<;>conv=>whnf)
 refine .ret _ ?_;conv=>whnf
 refine⟨[],⟨?_,rfl⟩,trivial⟩;conv=>lhs;whnf
def wS (s:gh)(x:aS):gh:=
 if x.kind=1∨x.kind=3∨x.kind=5∨x.kind=7 then⟨1,x.st,x.tm⟩else if x.kind=2 then⟨2,[],x.tm⟩else if x.kind=4 then⟨3,x.st,x.tm⟩else if x.kind=6 then⟨4,x.to,x.tm⟩else if x.kind=8 then⟨5,[],x.tm⟩else s
theorem Hb {s:gh}{x:aS}(h:dF s x=true):wS s x=gp s x:=by
 unfold gp wS;rw[if_pos h];unfold dF at h
 by_cases k1:x.kind=1<;>by_cases k2:x.kind=2<;>by_cases k3:x.kind=3<;>by_cases k4:x.kind=4<;>by_cases k5:x.kind=5<;>by_cases k6:x.kind=6<;>by_cases k7:x.kind=7<;>by_cases k8:x.kind=8<;>simp_all
theorem KJ (s:gh)(x:aS):ae Tryz.prog 147 [.agg ((jC s).map .d),.agg ((eV x).map .d)] [] (fun y r=>y= .tup [.agg ((jC (wS s x)).map .d),.d (.bool (dF s x))]∧r= []):=by
 refine aj hT Tryz.func147 Tryz.call147 ?_;conv=>whnf
 repeat' ((first|refine aa ?_ ?_<;>intro hb<;>try simp only[am]at hb|refine bg hT B7 ?_|omega|refine ao ?_|decide|assumption)<;>conv=>whnf)
 all_goals
  refine .ret _ ?_;conv=>whnf
  refine⟨[],⟨congrArg SV.tup ?_,rfl⟩,trivial⟩;repeat' (refine dt ?_ ?_)
  all_goals (conv=>lhs;whnf)
  all_goals try(with_reducible rfl)
 all_goals first
  |rfl
  |(simp[wS,dF,jC, *];done)
  |(simp[wS,dF,jC, *];rfl)
  |(simp[wS,dF,jC, *];exact Bool.eq_iff_iff.2 (by rw[beq_iff_eq,decide_eq_true_iff]))
theorem LO (a b:aS)(ha: -2^60≤a.tm∧a.tm≤2^60)(hb0: -2^60≤b.tm∧b.tm≤2^60):ae Tryz.prog 150 [.agg ((eV a).map .d),.agg ((eV b).map .d)] [] (fun x r=>x= .d (.int .i64 (aX a b))∧r= []):=by
 obtain⟨a1,a2⟩:=ha;obtain⟨b1,b2⟩:=hb0;refine aj hT Tryz.func150 Tryz.call150 ?_;conv=>whnf
 repeat' (first|(refine ab (KZ _) rfl rfl ?_;rotate_right;conv=>whnf)|(refine ab (IX _ _) rfl rfl ?_;rotate_right;conv=>whnf)|((first|refine aa ?_ ?_<;>intro hb<;>try simp only[am]at hb|omega|refine ao ?_|decide|assumption)<;>conv=>whnf))
 · refine .ret _ ?_;conv=>whnf
   refine⟨[],⟨?_,rfl⟩,trivial⟩;conv=>lhs;whnf
   congr 2
   have h0:¬bJ a.tm b.tm=0:=fun q=>hb (dw.1 q)
   rw[lC];unfold aX;simp only[ah];rw[if_neg h0]
 · refine .ret _ ?_;conv=>whnf
   refine⟨[],⟨?_,rfl⟩,trivial⟩;conv=>lhs;whnf
   congr 2
   have h0:bJ a.tm b.tm=0:=dw.2 (by omega);unfold aX;simp only[ah];rw[if_pos h0]
   by_cases q:dq a.veh b.veh=0
   · rw[if_pos q,q]
   · rw[if_neg q]
def Gs (f:nc)(x:aS):Int:=
 if ¬ (0≤x.tm∧x.tm≤5761439)then 1 else if m5 f.veh x.veh<0∨pY f.sta x.st<0 then 8 else if ¬ (1≤x.kind∧x.kind≤8)then 4
 else if x.kind≠6∧x.to≠ []then 3 else if x.kind=6∧pY f.sta x.to<0 then 8 else if x.to=x.st then 14 else 0
theorem uE {l:List lB}{k:List UInt8}:pY l k<0↔(bV l).val k=false:=by
 have key:∀ (l:List lB) (m:Mp Bool),(∃s ∈ l,s.key=k)→(l.foldl (fun m s=>m.put s.key true) m).val k=true:=by
  intro l
  induction l with
  |nil=>intro m h;obtain⟨s,h,_⟩:=h;cases h
  | cons s l ih=>
    intro m h;rw[List.foldl_cons]
    by_cases q:∃s ∈ l,s.key=k
    · exact ih _ q
    · have hs:s.key=k:=by
       obtain⟨u,hu,e⟩:=h;rcases List.mem_cons.1 hu with r|r
       · rw[←r];exact e
       · exact absurd ⟨u,r,e⟩ q
      have k2:∀ (l:List lB) (m:Mp Bool),m.val k=true→(l.foldl (fun m s=>m.put s.key true) m).val k=true:=by
       intro l
       induction l with
       |nil=>intro m h;exact h
       | cons u l ih2=>
         intro m h;rw[List.foldl_cons];refine ih2 _ ?_;show(if k=u.key then true else m.val k)=true;split<;>first|rfl|exact h
      refine k2 l _ ?_;show(if k=s.key then true else m.val k)=true;rw[if_pos hs.symm]
 have hb:=eB (p:=fun i=>(l.getD i fZ).key==k) (n:=l.length);constructor
 · intro h
   cases q:(bV l).val k with
   |false=>rfl
   | true=>
     obtain⟨s,hs,e⟩:=AG q;obtain⟨j,hj,rfl⟩:=bI (d:=fZ) hs;have:=jQ (p:=fun i=>(l.getD i fZ).key==k) (n:=l.length) (k:=j) hj (by rw[e];simp);unfold pY at h;omega
 · intro h;unfold pY;rcases Int.lt_or_le (gT (fun i=>(l.getD i fZ).key==k) l.length) 0 with q|q
   · exact q
   · have h1:=hb.2.2 q;have h2:(l.getD (gT (fun i=>(l.getD i fZ).key==k) l.length).toNat fZ) ∈ l:=al (by omega);have:=key l (Mp.nil false) ⟨_,h2,eq_of_beq h1⟩;rw[show l.foldl (fun m s=>m.put s.key true) (Mp.nil false)=bV l from rfl,h]at this;cases this
theorem FO {l:List pV}{k:List UInt8}(h:(b8 l).has k=true):0≤m5 l k:=by
 have key:∀ (l:List pV) (m:Mp (List UInt8)),(l.foldl (fun m v=>m.put v.key v.cls) m).has k=true→m.has k=true∨∃v ∈ l,v.key=k:=by
  intro l
  induction l with
  |nil=>intro m h;exact .inl h
  | cons v l ih=>
    intro m h;rcases ih _ h with q|⟨w,q1,q2⟩
    · have q:(decide (k=v.key)||m.has k)=true:=q;rw[Bool.or_eq_true,decide_eq_true_eq]at q;rcases q with q|q
      · exact .inr ⟨v,by simp,q.symm⟩
      · exact .inl q
    · exact .inr ⟨w,by simp[q1],q2⟩
 rcases key l _ h with q|⟨v,q1,q2⟩
 · cases q
 · obtain⟨j,hj,rfl⟩:=bI (d:=dg) q1;exact jQ hj (by show((l.getD j dg).key==k)=true;rw[q2];simp)
theorem zK {l:List pV}{k:List UInt8}:m5 l k<0↔(b8 l).has k=false:=by
 have key:∀ (l:List pV) (m:Mp (List UInt8)),(m.has k=true∨∃s ∈ l,s.key=k)→(l.foldl (fun m v=>m.put v.key v.cls) m).has k=true:=by
  intro l
  induction l with
  |nil=>intro m h;rcases h with h|⟨s,h,_⟩;exact h;cases h
  | cons s l ih=>
    intro m h;rw[List.foldl_cons];refine ih _ ?_;rcases h with h|⟨u,hu,e⟩
    · left;show(decide (k=s.key)||m.has k)=true;rw[h,Bool.or_true]
    · rcases List.mem_cons.1 hu with r|r
      · left;show(decide (k=s.key)||m.has k)=true;rw[decide_eq_true (by rw[←r];exact e.symm),Bool.true_or]
      · exact .inr ⟨u,r,e⟩
 have hb:=eB (p:=fun i=>(l.getD i dg).key==k) (n:=l.length);constructor
 · intro h
   cases q:(b8 l).has k with
   |false=>rfl
   |true=>have:=FO q;omega
 · intro h;unfold m5;rcases Int.lt_or_le (gT (fun i=>(l.getD i dg).key==k) l.length) 0 with q|q
   · exact q
   · have h1:=hb.2.2 q;have h2:(l.getD (gT (fun i=>(l.getD i dg).key==k) l.length).toNat dg) ∈ l:=al (by omega);have:=key l (Mp.nil []) (.inr ⟨_,h2,eq_of_beq h1⟩);rw[show l.foldl (fun m v=>m.put v.key v.cls) (Mp.nil [])=b8 l from rfl,h]at this;cases this
theorem J7 (f:nc)(x:aS):Gs f x=zX (b8 f.veh) (bV f.sta) x:=by
 unfold Gs zX;have h1:=zK (l:=f.veh) (k:=x.veh);have h2:=uE (l:=f.sta) (k:=x.st);have h3:=uE (l:=f.sta) (k:=x.to)
 have e1:(m5 f.veh x.veh<0∨pY f.sta x.st<0)=((!(b8 f.veh).has x.veh|| !(bV f.sta).val x.st)=true):=by
  apply propext
  rw[h1,h2,Bool.or_eq_true,Bool.not_eq_true',Bool.not_eq_true']
 have e2:(x.kind=6∧pY f.sta x.to<0)=(x.kind=6∧(bV f.sta).val x.to=false):=by
  apply propext
  rw[h3]
 simp only[e1,e2]
theorem Nm (f:nc)(hv:f.veh.length≤2^40)(hs:f.sta.length≤2^40)(x:aS):ae Tryz.prog 144 [flt f,.d (.ro 5 1 fun i=>([eV x]:List (List DV)).getD i [])] [] (fun y r=>y= .d (.int .i64 (Gs f x))∧r= []):=by
 refine aj hT Tryz.func144 Tryz.call144 ?_;conv=>whnf
 repeat' ((first|refine aa ?_ ?_<;>intro hb<;>try simp only[am]at hb|refine bg hT xa ?_|omega|refine ao ?_|decide|assumption)<;>conv=>whnf)
 refine fX hT (C:= []) (fun _ _ h=>h) (fun _ h=>h) ?_;conv=>whnf
 repeat' (first|(refine ab (Gd _) rfl rfl ?_;rotate_right;conv=>whnf)|(refine ab (z85 f hv _) rfl rfl ?_;rotate_right;conv=>whnf)|(refine ab (I8 f hs _) rfl rfl ?_;rotate_right;conv=>whnf)|(refine ab (kf _ _ _) rfl rfl ?_;rotate_right;conv=>whnf)|((first|refine aa ?_ ?_<;>intro hb<;>try simp only[am]at hb|refine bg hT xa ?_|omega|refine ao ?_|decide|assumption)<;>conv=>whnf))
 all_goals try(refine fX hT (C:= []) (fun _ _ h=>h) (fun _ h=>h) ?_;conv=>whnf)
 all_goals
  refine .ret _ ?_;conv=>whnf
  refine⟨[],⟨?_,rfl⟩,trivial⟩;conv=>lhs;whnf
  unfold Gs;repeat' split
  all_goals first
   |rfl
   |(exfalso;omega)
   |(exfalso;simp_all;done)
   |(exfalso;simp_all;omega)
theorem Ml (l:List aS)(hl:l.length≤2^20)(v:List UInt8):ae Tryz.prog 201 [.d (ic l),.d (.str v)] [] (fun y r=>(∃L:List Int,y= .tup [.d (d6 3 jC ep (Ha v l)),.d (cz L)])∧r= []):=by
 refine g9 hT (C:= [13]) Tryz.func201 rfl Tryz.call201 rfl rfl rfl ?_;conv=>whnf
 repeat' ((first|refine aa ?_ ?_<;>intro hb<;>try simp only[am]at hb|refine bg hT vQ ?_|omega|refine ao ?_|decide|assumption)<;>conv=>whnf)
 refine af hT (C:= [13]) (ι:=Nat×List gh×List Int) (fun(i,o,L)=>i≤l.length∧o=(l.take i).foldl (kS v) [ep]∧(o.length≤i+1∧1≤o.length)∧L.length≤i)
  (fun(i,o,L)=>aJ [(1,.d (.str v)),(6,.buf 20),(7,.buf 21),(14,.d (ic l)),(15,.d (.int .i64 l.length)),(16,.d (.int .i64 i))] [(20,aD 230 3 jC ep o),(21,aD 3 1 iF 0 L)])
  (fun(i,_,_)=>l.length - i) (0,[ep],[]) ⟨by simp,by simp,by simp,by simp⟩ ?_ ?_
 · refine du.trans (du.nil 7 21 3 1 (aR iF 0 []) rfl rfl (by decide)) ?_;exact ac [(20,13),(21,21)] rfl rfl ⟨lr,lr,lr,lr,lr,lr,trivial⟩ ⟨jU (l:= [ep]) (by rfl) (by rfl),rr,trivial⟩
 rintro⟨i,o,L⟩ ⟨p1,p2,⟨p3,p3'⟩,p4⟩;have p1:i≤l.length:=p1;have p2:o=(l.take i).foldl (kS v) [ep]:=p2;have p3:o.length≤i+1:=p3;have p3':1≤o.length:=p3';have p4:L.length≤i:=p4;have e1:=ek i;conv=>whnf
 repeat' (first|(refine ab (KJ _ _) rfl rfl ?_;rotate_right;conv=>whnf)|((first|(refine And.intro (by show(_+1)*32≤_;omega) ?_)|(refine And.intro (by show(_+1)*8≤_;omega) ?_)|(refine And.intro (by unfold bC;omega) ?_)|refine aa ?_ ?_<;>intro hb<;>try simp only[am]at hb|refine bg hT vQ ?_|omega|refine ao ?_|decide|assumption)<;>conv=>whnf))
 · have hi:i<l.length:=by omega
   have hx:l[i]=l.getD i cj:=by rw[List.getD_eq_getElem?_getD,List.getElem?_eq_getElem hi];rfl
   refine⟨(i+1,o,L),⟨by omega,?_,⟨by omega,p3'⟩,by omega⟩,by show l.length - (i+1)<l.length - i;omega,ac [(20,20),(21,21)] rfl rfl ⟨lr,lr,lr,lr,lr,lr,trivial⟩ ⟨rr,rr,trivial⟩⟩;rw[dh hi,List.foldl_append,←p2,hx];show o=kS v o _;unfold kS;rw[if_neg (fun c=>hb c.1)]
 · have hi:i<l.length:=by omega
   have hx:l[i]=l.getD i cj:=by rw[List.getD_eq_getElem?_getD,List.getElem?_eq_getElem hi];rfl
   have hq:l.getD (i:Int).toNat cj=l.getD i cj:=by rw[e1]
   have hlast:o.getD ((o.length:Int) - 1).toNat ep=o.getLastD ep:=by
    rw[show((o.length:Int) - 1).toNat=o.length - 1 by omega,List.getD_eq_getElem?_getD,←List.getLast?_eq_getElem?];cases o<;>simp[List.getLast?,List.getLastD]
   rw[hlast]at hb;refine⟨(i+1,o++ [wS (o.getD ((o.length:Int) - 1).toNat ep) (l.getD (i:Int).toNat cj)],L),⟨by omega,?_,⟨by simp;omega,by simp⟩,by omega⟩,by show l.length - (i+1)<l.length - i;omega,ac [(20,40),(21,21)] rfl rfl ⟨lr,lr,lr,lr,lr,lr,trivial⟩ ⟨aB rfl,rr,trivial⟩⟩;rw[dh hi,List.foldl_append,←p2,hx,hlast,hq];show _=kS v o _;unfold kS;rw[if_pos ⟨by assumption,hb⟩,Hb hb]
 · have hi:i<l.length:=by omega
   have hx:l[i]=l.getD i cj:=by rw[List.getD_eq_getElem?_getD,List.getElem?_eq_getElem hi];rfl
   have hlast:o.getD ((o.length:Int) - 1).toNat ep=o.getLastD ep:=by
    rw[show((o.length:Int) - 1).toNat=o.length - 1 by omega,List.getD_eq_getElem?_getD,←List.getLast?_eq_getElem?];cases o<;>simp[List.getLast?,List.getLastD]
   rw[hlast]at hb;refine⟨(i+1,o,L++ [(i:Int)]),⟨by omega,?_,⟨by omega,p3'⟩,by simp;omega⟩,by show l.length - (i+1)<l.length - i;omega,ac [(20,20),(21,44)] rfl rfl ⟨lr,lr,lr,lr,lr,lr,trivial⟩ ⟨rr,aB rfl,trivial⟩⟩;rw[dh hi,List.foldl_append,←p2,hx];show o=kS v o _;unfold kS;rw[if_neg (fun c=>by rw[hb]at c;exact absurd c.2 (by simp))]
 · have hi:i=l.length:=by omega
   rw[hi,List.take_length]at p2;refine .freeze _ 20 230 3 _ _ rfl ?_;refine .freeze _ 21 3 1 _ _ rfl ?_;refine .ret _ ?_;conv=>whnf
   refine⟨[],⟨⟨L,?_⟩,rfl⟩,trivial⟩;conv=>lhs;whnf
   rw[show Ha v l=o from p2.symm];rfl
theorem tz (l:List na)(x:na):ef (l++ [x])=ef l++iM x:=by simp[ef]
theorem ls:∀l:List na,(ef l).length≤2*l.length
 | []=>by simp[ef]
 | x::l=>by
   have:=ls l;have h2:(iM x).length≤2:=by unfold iM;split<;>simp
   simp only[ef,List.flatMap_cons,List.length_append,List.length_cons]at this ⊢;omega
theorem FW (g:cq)(hl:g.legs.length≤2^10)(ht:∀x ∈ g.legs,(-2^60≤x.out.tm∧x.out.tm≤2^60)∧(-2^60≤x.inn.tm∧x.inn.tm≤2^60))(hz:∀a ∈ ef g.legs,∀b ∈ ef g.legs,aX a b=0→a=b):
 ae Tryz.prog 158 [.agg ((dS g).map .d)] [] (fun y r=>y= .d (ic (cK g))∧r= []):=by
 have hlen:=ls g.legs;refine aj hT Tryz.func158 Tryz.call158 ?_;conv=>whnf
 repeat' ((first|refine aa ?_ ?_<;>intro hb<;>try simp only[am]at hb|omega|refine ao ?_|decide|assumption)<;>conv=>whnf)
 refine af hT (C:= []) (ι:=Nat) (fun i=>i≤g.legs.length)
  (fun i=>aJ [(3,.buf 20),(7,.d (legs g.legs)),(8,.d (.int .i64 g.legs.length)),(9,.d (.int .i64 i))] [(20,nC (ef (g.legs.take i)))])
  (fun i=>g.legs.length - i) 0 (by simp) ?_ ?_
 · refine du.trans (du.nil 3 20 72 5 (aR eV cj []) rfl rfl (by decide)) ?_;exact ac [(20,20)] rfl rfl ⟨lr,lr,lr,lr,trivial⟩ ⟨rr,trivial⟩
 intro i p1;have p1:i≤g.legs.length:=p1;have e1:=ek i;have hl2:=ls (g.legs.take i);have hl3:(g.legs.take i).length≤g.legs.length:=by rw[List.length_take];omega
 conv=>whnf
 repeat' ((first|(refine And.intro (by show(_+1)*64≤_;omega) ?_)|(refine And.intro (by rw[List.length_append];show(_+1)*64≤_;simp only[List.length_singleton];omega) ?_)|(refine And.intro (by unfold bC;omega) ?_)|refine aa ?_ ?_<;>intro hb<;>try simp only[am]at hb|omega|refine ao ?_|decide|assumption)<;>conv=>whnf)
 · have hi:i<g.legs.length:=by omega
   have hx:g.legs[i]=g.legs.getD i cr:=by rw[List.getD_eq_getElem?_getD,List.getElem?_eq_getElem hi];rfl
   refine⟨i+1,by omega,by omega,ac [(20,40)] rfl rfl ⟨lr,lr,lr,lr,trivial⟩ ⟨?_,trivial⟩⟩;rw[dh hi,tz,hx,iM,if_neg hb];refine cY (by simp) (fun j hj=> ?_);rcases Nat.lt_or_ge j (ef (g.legs.take i)).length with q|q
   · rw[eU (by omega),eU q];simp[aR,List.getD_eq_getElem?_getD,List.getElem?_append_left q]
   · rcases Nat.lt_or_ge j ((ef (g.legs.take i)).length+1)with q2|q2
     · rw[eU q2,dR q];simp[aR,List.getD_eq_getElem?_getD,List.getElem?_append_right q,show j - (ef (g.legs.take i)).length=0 by omega];rfl
     · rw[dR q2];simp[aR,List.getD_eq_getElem?_getD,List.getElem?_append_right q,show j - (ef (g.legs.take i)).length=1 by omega,show j - ((ef (g.legs.take i)).length+1)=0 by omega];rfl
 · have hi:i<g.legs.length:=by omega
   have hx:g.legs[i]=g.legs.getD i cr:=by rw[List.getD_eq_getElem?_getD,List.getElem?_eq_getElem hi];rfl
   refine⟨i+1,by omega,by omega,ac [(20,24)] rfl rfl ⟨lr,lr,lr,lr,trivial⟩ ⟨?_,trivial⟩⟩;rw[dh hi,tz,hx,iM,if_pos hb];exact aB rfl
 · have hi:i=g.legs.length:=by omega
   rw[hi,List.take_length]
   have htm:∀a ∈ ef g.legs,-2^60≤a.tm∧a.tm≤2^60:=fun a ha=>by
    obtain⟨x,hx,ha⟩:=List.mem_flatMap.1 ha;unfold iM at ha;have:=ht x hx;split at ha
    · rcases List.mem_cons.1 ha with q|q
      · rw[q];exact this.1
      · cases q
    · rcases List.mem_cons.1 ha with q|q
      · rw[q];exact this.1
      · rw[List.mem_singleton.1 q];exact this.2
   refine bP (x6 150 aX dx (ef g.legs) (by omega) hz (fun p q hp hq=>LO p q (htm p hp) (htm q hq))) [(1000001,20)] ?_;conv=>whnf
   repeat' ((first|refine aa ?_ ?_<;>intro hb<;>try simp only[am]at hb|omega|refine ao ?_|decide|assumption)<;>conv=>whnf)
   refine .freeze _ 20 72 5 _ _ rfl ?_;refine .ret _ ?_;conv=>whnf
   refine⟨[],⟨?_,rfl⟩,trivial⟩;conv=>lhs;whnf
   rfl
def xB:TL:= [(4,[(0,[]),(1,[0]),(2,[0,1]),(3,[0]),(4,[0]),(5,[])])]
theorem NU (b:oR)(h1:b.key.length≤2^40)(h2:b.cls.length≤2^40):ae Tryz.prog 151 [.d (.ro 6 1 fun i=>([ez b]:List (List DV)).getD i [])] [] (fun y r=>y= .d (.int .i64 (mf b))∧r= []):=by
 refine aj hT Tryz.func151 Tryz.call151 ?_;conv=>whnf
 repeat' ((first|refine aa ?_ ?_<;>intro hb<;>try simp only[am]at hb|omega|refine ao ?_|decide|assumption)<;>conv=>whnf)
 refine fX hT (C:= []) (fun _ _ h=>h) (fun _ h=>h) ?_;conv=>whnf
 repeat' (first|(refine ab (vB b.key h1) rfl rfl ?_;rotate_right;conv=>whnf)|(refine ab (vB b.cls h2) rfl rfl ?_;rotate_right;conv=>whnf)|(refine ab (kf _ _ _) rfl rfl ?_;rotate_right;conv=>whnf)|((first|refine aa ?_ ?_<;>intro hb<;>try simp only[am]at hb|omega|refine ao ?_|decide|assumption)<;>conv=>whnf))
 all_goals try(refine fX hT (C:= []) (fun _ _ h=>h) (fun _ h=>h) ?_;conv=>whnf)
 all_goals first
  | (exfalso
     have hk:aN b.key=true:=by assumption
     have hn:=s3 hk;have h:Op.bytesLess b.key []=true∨b.key= []:=by assumption
     rcases h with q|q
     · revert q;cases b.key<;>simp[Op.bytesLess]
     · exact hn q)
  | (refine .ret _ ?_
     conv=>whnf
     refine⟨[],⟨?_,rfl⟩,trivial⟩;conv=>lhs;whnf
     congr 2
     unfold mf
     grind)
theorem LX (l:List aS)(hl:l.length≤2^40)(v:aS):ae Tryz.prog 267 [.d (ic l),.agg ((eV v).map .d)] [] (fun x r=>x= .d (.int .i64 (gT (fun i=>decide (l.getD i cj=v)) l.length))∧r= []):=by
 refine aj hT Tryz.func267 Tryz.call267 ?_;conv=>whnf
 repeat' ((first|refine aa ?_ ?_<;>intro hb<;>try simp only[am]at hb|refine bg hT xB ?_|omega|refine ao ?_|decide|assumption)<;>conv=>whnf)
 refine af hT (C:= []) (ι:=Nat) (fun i=>i≤l.length∧∀j,j<i→decide (l.getD j cj=v)=false) (fun i=>aJ [(0,.d (ic l)),(3,.ptr 3 0),(7,.d (.int .i64 l.length)),(8,.d (.int .i64 i))] [(3,.cells 72 ((eV v).map .d))]) (fun i=>l.length - i) 0 ⟨by simp,fun j hj=>by omega⟩ (by exact a7 [(3,3)]) ?_;rintro i ⟨p1,p2⟩;have e1:=ek i;conv=>whnf
 repeat' ((first|refine aa ?_ ?_<;>intro hb<;>try simp only[am]at hb|refine bg hT xB ?_|omega|refine ao ?_|decide|assumption)<;>conv=>whnf)
 · refine .ret _ ?_;conv=>whnf
   refine⟨[],⟨?_,rfl⟩,trivial⟩;conv=>lhs;whnf
   congr 2
   have hv:l.getD i cj=v:=zc.2 ⟨⟨⟨⟨hb.1.symm,hb.2.1.symm⟩,hb.2.2.1.symm⟩,hb.2.2.2.1.symm⟩,hb.2.2.2.2.1.symm⟩;exact(d5 (by omega) p2 (decide_eq_true hv)).symm
 · refine⟨i+1,⟨by omega,aV p2 (decide_eq_false fun q=> ?_)⟩,by omega,(by exact a7 [(3,3)])⟩;rw[q]at hb;simp at hb
 · refine .ret _ ?_;conv=>whnf
   refine⟨[],⟨?_,rfl⟩,trivial⟩;conv=>lhs;whnf
   congr 2
   have:i=l.length:=by omega
   subst this;exact(dr p2).symm
theorem GL (l:List aS)(v:aS):decide (0≤gT (fun i=>decide (l.getD i cj=v)) l.length)=decide (v ∈ l):=by
 rw[decide_eq_decide];have hb:=eB (p:=fun i=>decide (l.getD i cj=v)) (n:=l.length);constructor
 · intro h;rw[←of_decide_eq_true (hb.2.2 h)];exact al (by omega)
 · intro h;obtain⟨j,hj,e⟩:=bI (d:=cj) h;exact jQ hj (decide_eq_true e)
theorem NX (l:List aS)(hl:l.length≤2^40)(v:aS):ae Tryz.prog 205 [.d (ic l),.agg ((eV v).map .d)] [] (fun x r=>x= .d (.bool (decide (v ∈ l)))∧r= []):=by
 refine aj hT Tryz.func205 Tryz.call205 ?_;conv=>whnf
 repeat' (first|(refine ab (LX l hl v) rfl rfl ?_;rotate_right;conv=>whnf)|((first|refine aa ?_ ?_<;>intro hb<;>try simp only[am]at hb|omega|refine ao ?_|decide|assumption)<;>conv=>whnf))
 refine .ret _ ?_;conv=>whnf
 refine⟨[],⟨?_,rfl⟩,trivial⟩;conv=>lhs;whnf
 rw[←GL]
theorem Na (a b:aS)(ha:0≤a.kind∧a.kind≤2^40)(hb0:0≤b.kind∧b.kind≤2^40):ae Tryz.prog 206 [.agg ((eV a).map .d),.agg ((eV b).map .d)] [] (fun x r=>x= .d (.int .i64 (xn a b))∧r= []):=by
 refine aj hT Tryz.func206 Tryz.call206 ?_;conv=>whnf
 repeat' (first|(refine ab (MX _) rfl rfl ?_;rotate_right;conv=>whnf)|((first|(refine And.intro (by unfold bC;omega) ?_)|refine aa ?_ ?_<;>intro hb<;>try simp only[am]at hb|omega|refine ao ?_|decide|assumption)<;>conv=>whnf))
 refine .ret _ ?_;conv=>whnf
 refine⟨[],⟨?_,rfl⟩,trivial⟩;conv=>lhs;whnf
 unfold xn;rw[lC]
abbrev HF (x:aS):bh:=.cells 72 ((eV x).map .d)
def nZ (x y:aS):Bool:=decide (y.tm=x.tm)&&decide (y.veh=x.veh)
theorem NQ (x y:aS):ae Tryz.prog 146 [.agg ((eV y).map .d),.ptr 1000002 0] [(1000002,HF x)] (fun u r=>u= .d (.bool (nZ x y))∧r= [(1000002,HF x)]):=by
 refine aj hT Tryz.func146 Tryz.call146 ?_;conv=>whnf
 repeat' ((first|refine aa ?_ ?_<;>intro hb<;>try simp only[am]at hb|omega|refine ao ?_|decide|assumption)<;>conv=>whnf)
 all_goals
  unfold nZ;refine .ret _ ?_;conv=>whnf
  refine⟨[(1000002,HF x)],⟨?_,rfl⟩,rr,trivial⟩;conv=>lhs;whnf
  first|(simp[hb];done)|(simp[hb];exact Bool.eq_iff_iff.2 (by rw[beq_iff_eq,decide_eq_true_iff]))
theorem NC (l:List aS)(hl:l.length≤2^40)(x:aS):ae Tryz.prog 200 [.buf 1000001,.fn 146 [.ptr 1000002 0]] [(1000001,nC l),(1000002,HF x)] (fun u r=>u= .d (.int .i64 (gT (fun i=>nZ x (l.getD i cj)) l.length))∧r= [(1000001,nC l),(1000002,HF x)]):=by
 refine aj hT Tryz.func200 Tryz.call200 ?_;conv=>whnf
 repeat' ((first|refine aa ?_ ?_<;>intro hb<;>try simp only[am]at hb|omega|refine ao ?_|decide|assumption)<;>conv=>whnf)
 refine af hT (C:= []) (ι:=Nat) (fun i=>i≤l.length∧∀j,j<i→nZ x (l.getD j cj)=false) (fun i=>aJ [(0,.buf 1000001),(1,.fn 146 [.ptr 1000002 0]),(7,.d (.int .i64 l.length)),(8,.d (.int .i64 i))] [(1000001,nC l),(1000002,HF x)]) (fun i=>l.length - i) 0 ⟨by simp,fun j hj=>by omega⟩ (by exact a7 [(1000001,1000001),(1000002,1000002)]) ?_;rintro i ⟨p1,p2⟩;have e1:=ek i;conv=>whnf
 repeat' ((first|(refine bP (NQ x (l.getD (i:Int).toNat cj)) [(1000002,1000002)] ?_)|refine aa ?_ ?_<;>intro hb<;>try simp only[am]at hb|omega|refine ao ?_|decide|assumption)<;>conv=>whnf)
 · refine .ret _ ?_;conv=>whnf
   refine⟨_,⟨?_,rfl⟩,rr,rr,trivial⟩;conv=>lhs;whnf
   congr 2
   exact(d5 (by omega) p2 hb).symm
 · exact⟨i+1,⟨by omega,aV p2 hb⟩,by omega,(by exact a7 [(1000001,1000001),(1000002,1000002)])⟩
 · refine .ret _ ?_;conv=>whnf
   refine⟨_,⟨?_,rfl⟩,rr,rr,trivial⟩;conv=>lhs;whnf
   congr 2
   have:i=l.length:=by omega
   subst this;exact(dr p2).symm
theorem Gw (l:List aS)(x:aS):decide (0≤gT (fun i=>nZ x (l.getD i cj)) l.length)=l.any (nZ x):=by
 have hb:=eB (p:=fun i=>nZ x (l.getD i cj)) (n:=l.length);rw[Bool.eq_iff_iff,decide_eq_true_iff,List.any_eq_true];constructor
 · intro h;exact⟨_,al (by omega),hb.2.2 h⟩
 · rintro⟨y,hy,e⟩;obtain⟨j,hj,rfl⟩:=bI (d:=cj) hy;exact jQ hj e
theorem Nu (l:List aS)(hl:l.length≤2^40)(x:aS):ae Tryz.prog 145 [.buf 1000001,.fn 146 [.ptr 1000002 0]] [(1000001,nC l),(1000002,HF x)] (fun u r=>u= .d (.bool (l.any (nZ x)))∧r= [(1000001,nC l),(1000002,HF x)]):=by
 refine aj hT Tryz.func145 Tryz.call145 ?_;conv=>whnf
 repeat' ((first|(refine bP (NC l hl x) [(1000001,1000001),(1000002,1000002)] ?_)|refine aa ?_ ?_<;>intro hb<;>try simp only[am]at hb|omega|refine ao ?_|decide|assumption)<;>conv=>whnf)
 refine .ret _ ?_;conv=>whnf
 refine⟨_,⟨?_,rfl⟩,rr,rr,trivial⟩;conv=>lhs;whnf
 rw[←Gw]
end Go.Proofs.YtafhoijegjmdcaaGreatDoor
namespace Go.Proofs
open Go Go.RowKit Go.Shelf
attribute [local go_sem] Oper.semAt_some
open Go.Proofs.YtafhoijegjmdcaaGreatDoor (gh ep)
def Gr (s:gh):Value:=.agg #[.int .i64 s.k,.string ⟨s.st.toArray⟩,.int .i64 s.sin]
def vE (zs:List gh)(k:Nat):List (Int×gh):=(List.range k).map fun j=>((zs.length:Int) - 1 - (j:Nat),zs[zs.length - 1 - j]?.getD ep)
theorem ny (zs:List gh)(k:Nat):vE zs (k+1)=vE zs k++ [((zs.length:Int) - 1 - (k:Nat),zs[zs.length - 1 - k]?.getD ep)]:=by simp[vE,List.range_succ]
theorem yV (zs:List gh)(k:Nat):(vE zs k).length=k:=by simp[vE]
set_option maxRecDepth 100000 in
theorem CC (F:Fence)(n:Nat)(hf:F.fn 258)(hro:F.round=none)(hn:1≤n)(l Bs n₀ b off cap:Nat)(zs:List gh)(hreach:zs.length*32≤140737488351232)(hb:b<n₀)(J Jx:List (Int×gh)→World→Prop)
 (hY:∀pre x W,J pre W→pre.length<zs.length→YieldAt F (n - 1) Tryz.prog l #[.int .i64 x.1,Gr x.2] W fun e W' =>
   (e= .returned (.bool true)∧J (pre++ [x]) W'∧Below n₀ W W')∨(e= .returned (.bool false)∧Jx (pre++ [x]) W'))
 (W:World)(hBs:W.cell? ⟨Bs,0,none⟩=some (.slice (some ⟨b,off,none⟩) zs.length cap))
 (hc:∀i,i<zs.length→W.cell? ⟨b,off+i*3,none⟩=some (.int .i64 (zs[i]?.getD ep).k)∧W.cell? ⟨b,off+i*3+1,none⟩=some (.string ⟨(zs[i]?.getD ep).st.toArray⟩)∧W.cell? ⟨b,off+i*3+2,none⟩=some (.int .i64 (zs[i]?.getD ep).sin))(h0:J [] W)(hBs0:Bs<n₀):
 CallsIn F n Tryz.prog 258 #[.func (.yield l) #[] #[],.pointer (some ⟨Bs,0,none⟩)] W fun e W' =>(∃v,e= .returned v)∧
  ((∃ys,ys=vE zs zs.length∧J ys W')∨(∃pre,(∃k,k≤zs.length∧pre=vE zs k)∧Jx pre W')):=by
 refine callsIn_of_wp Tryz.func258 rfl hf ?_ hro;simp only[Tryz.ntmps258,List.size_toArray,List.length_cons,List.length_nil,Nat.reduceAdd,Nat.reduceSub,Array.replicate_succ,Array.replicate_zero,List.push_toArray,List.append_toArray,List.nil_append,List.cons_append]
 gi_wp2
 gi_loopw [3] (fun i wr=>∃k:Nat,k≤zs.length∧i= .int .i64 ((zs.length:Int) - 1 - k)∧J (vE zs k) wr∧Below n₀ W wr)
  (fun i _=>(intOf i+1).toNat)
 case atStart=>
  exact⟨0,Nat.zero_le _,by simp,h0,Below.refl _ _⟩
 case round=>
  obtain⟨k,hk,rfl,hJs,hnx⟩:=hrel;have hbx:wr.cell? ⟨Bs,0,none⟩=some (.slice (some ⟨b,off,none⟩) zs.length cap):=(hnx.cell (p:=⟨Bs,0,none⟩) hBs0).trans hBs
  by_cases hlt:k<zs.length
  · obtain⟨fn,tmps,assign,body,hy,hR⟩:=hY _ ((zs.length:Int) - 1 - (k:Nat),zs[zs.length - 1 - k]?.getD ep) wr hJs (by rw[yV];exact hlt)
    dsimp only at hy
    obtain⟨hq0,hq1,hq2⟩:=hc (zs.length - 1 - k) (by omega);have hc0:=(hnx.cell (p:=⟨b,off+(zs.length - 1 - k)*3,none⟩) hb).trans hq0;have hc1:=(hnx.cell (p:=⟨b,off+(zs.length - 1 - k)*3+1,none⟩) hb).trans hq1;have hc2:=(hnx.cell (p:=⟨b,off+(zs.length - 1 - k)*3+2,none⟩) hb).trans hq2;clear hq0 hq1 hq2;unfold Gr at hy
    gi_wp2
    refine hR.mono ?_;rintro e W3 (⟨rfl,hJ3,hk3⟩|⟨rfl,hJx3⟩)
    · gi_wp2
      go_roundw
      case rel=>exact⟨k+1,by omega,by simp;omega,by rw[ny];exact hJ3,hnx.trans hk3⟩
      case measure=>simp[intOf];omega
    · gi_wp2
      refine bodyPost_ret (results_none rfl _ _ _) rfl ?_;exact⟨⟨_,rfl⟩,.inr ⟨_,⟨k+1,by omega,(ny _ _).symm⟩,hJx3⟩⟩
  · obtain rfl:k=zs.length:=by omega
    gi_wp2
    go_end0
    exact⟨⟨_,rfl⟩,.inl ⟨_,rfl,hJs⟩⟩
theorem FY (F:Fence)(n:Nat)(hf:F.fn 202)(hro:F.round=none)(a:Option Addr)(len cap:Nat)(w:World):
 CallsIn F n Tryz.prog 202 #[.slice a len cap] w fun e w' =>e= .returned (.func (.func 258) #[] #[.pointer (some ⟨w.heap.size,0,none⟩)])∧w' =w.alloc (.cells #[.slice a len cap] 274):=by
 refine callsIn_of_wp Tryz.func202 rfl hf ?_ hro;simp only[Tryz.ntmps202,List.size_toArray,List.length_cons,List.length_nil,Nat.reduceAdd,Nat.reduceSub,Array.replicate_succ,Array.replicate_zero,List.push_toArray,List.append_toArray,List.nil_append,List.cons_append]
 gi_wp2
 go_ret
 exact⟨rfl,rfl⟩
def oC (n₀:Nat)(W:World)(b off:Nat)(zs:List gh):Prop:=
 b<n₀∧∀i,i<zs.length→W.cell? ⟨b,off+i*3,none⟩=some (.int .i64 (zs[i]?.getD ep).k)∧W.cell? ⟨b,off+i*3+1,none⟩=some (.string ⟨(zs[i]?.getD ep).st.toArray⟩)∧W.cell? ⟨b,off+i*3+2,none⟩=some (.int .i64 (zs[i]?.getD ep).sin)
theorem oC.below {n₀:Nat}{A B:World}(h:Below n₀ A B){b off:Nat}{zs:List gh}(hs:oC n₀ A b off zs):oC n₀ B b off zs:=
 ⟨hs.1,fun i hi=>⟨(h.cell (p:=⟨b,off+i*3,none⟩) hs.1).trans (hs.2 i hi).1,(h.cell (p:=⟨b,off+i*3+1,none⟩) hs.1).trans (hs.2 i hi).2.1,(h.cell (p:=⟨b,off+i*3+2,none⟩) hs.1).trans (hs.2 i hi).2.2⟩⟩
theorem yA (F:Fence)(n:Nat)(hf:F.fn 258)(hro:F.round=none)(hn:1≤n)(Bs n₀ b off cap:Nat)(zs:List gh)(hreach:zs.length*32≤140737488351232)(w:World)(hBs:Bs<w.heap.size)(hn₀:n₀≤w.heap.size)(hB0:Bs<n₀)
 (hc:w.cell? ⟨Bs,0,none⟩=some (.slice (some ⟨b,off,none⟩) zs.length cap))(hs:oC n₀ w b off zs):
 SeqStopsK F n Tryz.prog 258 #[.pointer (some ⟨Bs,0,none⟩)] (fun x:Int×gh=>#[Value.int .i64 x.1,Gr x.2]) (Below n₀) (fun ys=>ys=vE zs zs.length) (fun pre=>∃k,k≤zs.length∧pre=vE zs k) zs.length w:=fun l J Jx W hW _ _ hY h0=>by
 have hs':=hs.below (hW.mono hn₀);exact CC F n hf hro hn l Bs n₀ b off cap zs hreach hs'.1 J Jx hY W ((hW.cell (p:=⟨Bs,0,none⟩) hBs).trans hc) hs'.2 h0 hB0
end Go.Proofs
