/- TopHousesTell is proved: for every input the law returns true, and its argument reads afterwards as it read before. Conditions: those of the given row alone. -/
import Derived.Test.YtkokpbpililcdaaGreatDoorThConQua
import Derived.Test.YtkokpbpililcdaaGreatDoorThConTri
import Derived.Test.YtkokpbpililcdaaGreatDoorThConTwo
import Derived.Test.YtkokpbpililcdaaGreatDoorThConOne
import Derived.Test.YtkokpbpililcdaaGreatDoorThEngTwo
set_option linter.unusedVariables false
set_option linter.unusedSimpArgs false
set_option maxRecDepth 20000
namespace Go.Proofs.YtkokpbpililcdaaGreatDoor
open Go Go.Eng
def od:OL:= [(0,[]),(1,[]),(2,[0,1]),(3,[0,1,2]),(4,[0,1]),(5,[]),(6,[])]
def zn:OL:= [(0,[]),(1,[]),(2,[0,1]),(3,[0,1,2]),(4,rg 4),(5,[0,1,2]),(6,[0,1]),(7,[0,1]),(8,[]),(9,[]),(10,[])]
def yF:OL:= [(0,[]),(1,[0]),(3,[0,1]),(2,[0,3]),(4,[0]),(5,[]),(6,[])]
theorem mT {α:Type}{m:List α}{x d:α}{j:Nat}(h:j<m.length):(m++ [x]).getD j d=m.getD j d:=by
 rw[List.getD_eq_getElem?_getD,List.getElem?_append_left h,List.getD_eq_getElem?_getD]
theorem na {α:Type}{m:List α}{x d:α}:(m++ [x]).getD m.length d=x:=by
 rw[List.getD_eq_getElem?_getD,List.getElem?_append_right (Nat.le_refl _),Nat.sub_self];rfl
structure qf (i:Nat)(f:Int)(m:List fg):Prop where
 ok:∀j,j<m.length→ll m j=0
 la:m.length=0∨∃k,k≤i∧k<3∧(m.getD (m.length - 1) aV).cls=c3.getD k []∧(k=i→(m.getD (m.length - 1) aV).to≤f)
theorem KG:∀i,i<3→aE (c3.getD i [])=true:=by decide+kernel
theorem Ir:∀i,i<3→∀k,k<3→k<i→Op.bytesLess (c3.getD i []) (c3.getD k [])=false∧c3.getD k []≠c3.getD i []:=by decide+kernel
theorem Ll:∀i,i<3→Op.bytesLess (c3.getD i []) (c3.getD i [])=false:=by decide+kernel
theorem Jb {i j:Nat}{f g:Int}{m:List fg}(h:qf i f m)(hij:i<j):qf j g m:=⟨h.ok,by
 rcases h.la with h|⟨k,h1,h2,h3,h4⟩
 · exact .inl h
 · exact .inr ⟨k,by omega,h2,h3,fun e=>by omega⟩⟩
theorem Dp {i:Nat}{f g:Int}{m:List fg}(h:qf i f m)(hfg:f≤g):qf i g m:=⟨h.ok,by
 rcases h.la with h|⟨k,h1,h2,h3,h4⟩
 · exact .inl h
 · exact .inr ⟨k,h1,h2,h3,fun e=>by have:=h4 e;omega⟩⟩
theorem Ew {i :Nat}{f:Int}{m:List fg}(h:qf i f m)(hi:i<3){x:fg}(h1:x.cls=c3.getD i [])(h2:x.frm=f)(h3:0≤f)(h4:f<x.to)(h5:x.to≤4001)(h6:nums x){g:Int}(hg:x.to≤g):qf i g (m++ [x]):=by
 refine⟨fun j hj=> ?_,.inr ⟨i,Nat.le_refl _,hi,?_,fun _=> ?_⟩⟩
 · rw [List.length_append,List.length_singleton]at hj;rcases Nat.lt_or_ge j m.length with q|q
   · have:=h.ok j q;unfold ll at this ⊢;rw[mT q,mT (show j - 1<m.length by omega)];exact this
   · have hjm:j=m.length:=by omega
     subst hjm;unfold ll;rw[na]
     dsimp only
     rw[h1,KG i hi,if_neg (by simp),if_neg (fun c=>c ⟨by omega,by omega,h5,h6⟩)];rcases h.la with q0|⟨k,k1,k2,k3,k4⟩
     · rw[if_neg (fun c=>by omega),if_neg (fun c=>by omega)]
     · rcases Nat.eq_zero_or_pos m.length with q0|q0
       · rw[if_neg (fun c=>by omega),if_neg (fun c=>by omega)]
       rw[mT (show m.length - 1<m.length by omega),k3];have hq:=h.ok (m.length - 1) (by omega)
       have hft:(m.getD (m.length - 1) aV).frm<(m.getD (m.length - 1) aV).to:=by
        unfold ll at hq
        dsimp only at hq
        by_cases c:0≤(m.getD (m.length - 1) aV).frm∧(m.getD (m.length - 1) aV).frm<(m.getD (m.length - 1) aV).to∧(m.getD (m.length - 1) aV).to≤4001∧nums (m.getD (m.length - 1) aV)
        · exact c.2.1
        · exfalso;split at hq
          · exact absurd hq (by decide)
          · first
            |exact absurd hq (by decide)
            |(rw[if_pos c]at hq;exact absurd hq (by decide))
       rcases Nat.lt_or_ge k i with r|r
       · obtain⟨u1,u2⟩:=Ir i hi k k2 r;rw[if_neg (fun c=>by rcases c.2 with d|d;(rw[u1]at d;cases d);exact u2 d.1),if_neg (fun c=>u2 c.2.1)]
       · have hki:k=i:=by omega
         subst hki;have:=k4 rfl;rw[if_neg (fun c=>by rcases c.2 with d|d;(rw[Ll k hi]at d;cases d);(have:=d.2;omega)),if_neg (fun c=>by have:=c.2.2;omega)]
 · rw[List.length_append,List.length_singleton,Nat.add_sub_cancel,na];exact h1
 · rw[List.length_append,List.length_singleton,Nat.add_sub_cancel,na];exact hg
set_option maxHeartbeats 4000000 in
theorem Lv (n:Nat)(L:Nat→Int)(hL:sJ n L)(a:Int)(h0:0≤a)(ha:a≤2^36):
 ai Tryz.prog 76 [.ptr 1000000 0] [(1000000,bp n L a)] (fun y r=>∃l:List fg,∃b,(dP rz 9 l∧cR l=0)∧(a≤b∧b≤a+100)∧y= .buf 3∧r= [(3,aL 168 7 ft aV l),(1000000,bp n L b)]):=by
 refine ae hT (C:= []) Tryz.func76 rfl Tryz.call76 rfl rfl rfl ?_;conv=>whnf
 refine ah hT (C:= []) (ι:=Int×List fg×Nat) (fun(b,l,i)=>(a≤b∧b≤a+30*i∧i≤3)∧dP rz (3*i) l∧(i=0∧l= []∨1≤i∧qf (i - 1) 6000 l))
  (fun(b,l,i)=>aI [(0,.ptr 1000000 0),(3,.buf 3),(8,.d (eE c3)),(9,.d (.int .i64 3)),(10,.d (.int .i64 i))] [(1000000,bp n L b),(3,aL 168 7 ft aV l)])
  (fun(_,_,i)=>3 - i) (a,[],0) ⟨⟨by simp,by simp,by simp⟩,⟨by simp,by simp⟩,.inl ⟨rfl,rfl⟩⟩ ?_ ?_
 · refine(dc.nil 3 3 168 7 (aW ft aV []) rfl rfl (by decide)).trans (af [(1000000,1000000),(3,3)] rfl rfl ⟨lr,lr,aj rfl rfl,lr,lr,trivial⟩ ⟨rr,rr,trivial⟩)
 rintro⟨b,l,i⟩ ⟨⟨p1,p2,p3⟩,p4,p5⟩;have p5:i=0∧l= []∨1≤i∧qf (i - 1) 6000 l:=p5;have p1:a≤b:=p1;have p2:b≤a+30*i:=p2;have p3:i≤3:=p3;have e1:(i:Int).toNat=i:=Int.toNat_natCast i;have p4:dP rz (3*i) l:=p4;have hc3:c3.length=3:=rfl;have hl1:l.length≤3*i:=p4.1;rcases Nat.lt_or_ge i 3 with hi|hi
 · have p6:∀f,qf i f l:=fun f=>by
    rcases p5 with⟨e1,e2⟩|⟨e1,e2⟩
    · rw[e2];exact⟨fun j hj=>absurd hj (by simp),.inl rfl⟩
    · exact Jb e2 (by omega)
   conv=>whnf
   repeat' (first|(refine dQ.of (kD n L hL _ ?_ ?_ [0,0,0,3] ?_ ?_) [(1000000,1000000)] rfl ⟨lr,aj rfl rfl,trivial⟩ ⟨rr,trivial⟩ rfl rfl ?_;rotate_right;rintro x rout ⟨⟨u1,hu1,rfl⟩,⟨c,c1,c2,rfl⟩⟩;have hw1:=On hu1 (by decide);refine⟨rfl,?_⟩;conv=>whnf)|(refine dQ.of (kD n L hL _ ?_ ?_ [0,1,1,2,3] ?_ ?_) [(1000000,1000000)] rfl ⟨lr,aj rfl rfl,trivial⟩ ⟨rr,trivial⟩ rfl rfl ?_;rotate_right;rintro x rout ⟨⟨u2,hu2,rfl⟩,⟨c,c1,c2,rfl⟩⟩;refine⟨rfl,?_⟩;conv=>whnf)|((first|(refine aa ?_ ?_<;>intro hb<;>try simp only[az]at hb)|refine aq hT 12 od ?_|omega|refine aA ?_|decide|assumption)<;>conv=>whnf))
   all_goals try(exfalso;omega)
   have hw2:0≤u2∧u2≤3:=by simp only[List.mem_cons,List.not_mem_nil,or_false]at hu2;omega
   have hw3:u1≤5000:=by omega
   have hkk:(c3.getD (i:Int).toNat []).length≤8:=bO (ao (by omega)) rfl;obtain⟨cc,hcc⟩:∃cc:Int,cc=c:=⟨_,rfl⟩;obtain⟨ky,hky⟩:∃ky,ky=c3.getD (i:Int).toNat []:=⟨_,rfl⟩
   refine ah hT (C:= []) (ι:=Int×List fg×Int×Nat) (fun(d,m,f,k)=>(cc≤d∧d≤cc+6*k∧(k:Int)≤u2)∧dP rz (3*i+k) m∧0≤f∧f≤5000∧qf i f m)
    (fun(d,m,f,k)=>aI [(0,.ptr 1000000 0),(3,.buf 3),(5,.d (.str ky)),(6,.d (.int .i64 f)),(8,.d (eE c3)),(9,.d (.int .i64 3)),(10,.d (.int .i64 i)),(19,.d (.int .i64 u2)),(20,.d (.int .i64 k))] [(1000000,bp n L d),(3,aL 168 7 ft aV m)])
    (fun(_,_,_,k)=>u2.toNat - k) (cc,l,u1,0) ⟨⟨by simp,by simp,by show((0:Nat):Int)≤u2;omega⟩,p4,by show 0≤u1;omega,by show u1≤5000;omega,p6 u1⟩ (by subst hcc hky;exact(by exact be [(1000000,1000000),(3,3)])) ?_
   rintro⟨d,m,f,k⟩ ⟨⟨q1,q2,q3⟩,q4,q5,q6,q7⟩;have q7:qf i f m:=q7;have q1:cc≤d:=q1;have q2:d≤cc+6*k:=q2;have q3:(k:Int)≤u2:=q3;have q4:dP rz (3*i+k) m:=q4;have q5:0≤f:=q5;have q6:f≤5000:=q6;have hm1:m.length≤3*i+k:=q4.1;conv=>whnf
   repeat' (first|(refine dQ.of (kD n L hL _ ?_ ?_ [1,5,20,4000] ?_ ?_) [(1000000,1000000)] rfl ⟨lr,aj rfl rfl,trivial⟩ ⟨rr,trivial⟩ rfl rfl ?_;rotate_right;rintro x rout ⟨⟨u3,hu3,rfl⟩,⟨c,c1,c2,rfl⟩⟩;have hw4:0≤u3∧u3≤4000:=(by simp only[List.mem_cons,List.not_mem_nil,or_false]at hu3;omega);refine⟨rfl,?_⟩;conv=>whnf)|(refine dQ.of (kD n L hL _ ?_ ?_ [-1,5,10,10,0] ?_ ?_) [(1000000,1000000)] rfl ⟨lr,aj rfl rfl,trivial⟩ ⟨rr,trivial⟩ rfl rfl ?_;rotate_right;rintro x rout ⟨⟨u4,hu4,rfl⟩,⟨c,c1,c2,rfl⟩⟩;refine⟨rfl,?_⟩;conv=>whnf)|(refine dQ.of (kD n L hL _ ?_ ?_ [-1,50,50,70,40] ?_ ?_) [(1000000,1000000)] rfl ⟨lr,aj rfl rfl,trivial⟩ ⟨rr,trivial⟩ rfl rfl ?_;rotate_right;rintro x rout ⟨⟨u5,hu5,rfl⟩,⟨c,c1,c2,rfl⟩⟩;refine⟨rfl,?_⟩;conv=>whnf)|(refine dQ.of (kD n L hL _ ?_ ?_ [-1,70,90,100] ?_ ?_) [(1000000,1000000)] rfl ⟨lr,aj rfl rfl,trivial⟩ ⟨rr,trivial⟩ rfl rfl ?_;rotate_right;rintro x rout ⟨⟨u6,hu6,rfl⟩,⟨c,c1,c2,rfl⟩⟩;refine⟨rfl,?_⟩;conv=>whnf)|(refine dQ.of (kD n L hL _ ?_ ?_ [-1,200,250,300] ?_ ?_) [(1000000,1000000)] rfl ⟨lr,aj rfl rfl,trivial⟩ ⟨rr,trivial⟩ rfl rfl ?_;rotate_right;rintro x rout ⟨⟨u7,hu7,rfl⟩,⟨c,c1,c2,rfl⟩⟩;refine⟨rfl,?_⟩;conv=>whnf)|(refine dQ.of (kD n L hL _ ?_ ?_ [0,0,0,2] ?_ ?_) [(1000000,1000000)] rfl ⟨lr,aj rfl rfl,trivial⟩ ⟨rr,trivial⟩ rfl rfl ?_;rotate_right;rintro x rout ⟨⟨u8,hu8,rfl⟩,⟨c,c1,c2,rfl⟩⟩;have hw8:0≤u8∧u8≤2:=(by simp only[List.mem_cons,List.not_mem_nil,or_false]at hu8;omega);refine⟨rfl,?_⟩;conv=>whnf)|((first|(refine And.intro (by show aS (min (f+u3) 4001+u8);unfold aS;omega) ?_)|(refine aa ?_ ?_<;>intro hb<;>try simp only[az]at hb)|refine aq hT 12 od ?_|omega|refine aA ?_|decide|assumption)<;>conv=>whnf))
   · exact⟨(c,m,i+1),⟨⟨by omega,by show _≤a+30*((i+1:Nat):Int);omega,by omega⟩,dF q4 (by omega),.inr ⟨by omega,by show qf (i+1 - 1) 6000 m;rw[Nat.add_sub_cancel];exact Dp q7 (by omega)⟩⟩,by show 3 - (i+1)<3 - i;omega,(by exact be [(1000000,1000000),(3,3)])⟩
   · have hnm:nums ⟨ky,f,min (f+u3) 4001,u4,u5,u6,u7⟩:=by
      simp only[List.mem_cons,List.not_mem_nil,or_false]at hu4 hu5 hu6 hu7;refine⟨?_,?_,?_,?_⟩<;>unfold rp<;>dsimp only<;>omega
     exact⟨(_,m++ [⟨ky,f,min (f+u3) 4001,u4,u5,u6,u7⟩],min (f+u3) 4001+u8,k+1),⟨⟨by omega,by show _≤cc+6*((k+1:Nat):Int);omega,by show((k+1:Nat):Int)≤u2;omega⟩,e6 q4 (by omega) (by show ky.length≤8;rw[hky];exact hkk),by show 0≤min (f+u3) 4001+u8;omega,by show min (f+u3) 4001+u8≤5000;omega,Ew (x:=⟨ky,f,min (f+u3) 4001,u4,u5,u6,u7⟩) q7 hi (by rw[hky,e1]) rfl q5 (by show f<min (f+u3) 4001;simp only[cond_false]at*;omega) (by show min (f+u3) 4001≤4001;omega) hnm (by show min (f+u3) 4001≤min (f+u3) 4001+u8;omega)⟩,by show u2.toNat - (k+1)<u2.toNat - k;omega,
      af [(1000000,1000000),(3,54)] rfl rfl ⟨lr,lr,lr,lr,lr,lr,lr,lr,lr,trivial⟩ ⟨rr,aG rfl,trivial⟩⟩
   · exact⟨(d,m,i+1),⟨⟨by omega,by show _≤a+30*((i+1:Nat):Int);omega,by omega⟩,dF q4 (by omega),.inr ⟨by omega,by show qf (i+1 - 1) 6000 m;rw[Nat.add_sub_cancel];exact Dp q7 (by omega)⟩⟩,by show 3 - (i+1)<3 - i;omega,(by exact be [(1000000,1000000),(3,3)])⟩
 · conv=>whnf
   repeat' (first|((first|(refine aa ?_ ?_<;>intro hb<;>try simp only[az]at hb)|refine aq hT 12 od ?_|omega|refine aA ?_|decide|assumption)<;>conv=>whnf))
   all_goals try(exfalso;omega)
   have hle:cR l=0:=by
    unfold cR;rw[if_neg (by omega)];rcases p5 with⟨e1,e2⟩|⟨e1,e2⟩
    · omega
    · exact aF e2.ok
   refine .ret _ ?_;conv=>whnf
   exact⟨[(3,aL 168 7 ft aV l),(1000000,bp n L _)],⟨l,b,⟨dF p4 (by omega),hle⟩,⟨by omega,by omega⟩,rfl,rfl⟩,rr,rr,trivial⟩
def mz (i:Nat)(l:List fB):Prop:=l.length=4∧∀j,j<4→(l.getD j bB).key=(nv.getD j bB).key∧((l.getD j bB).up= []∨j<i∧∃k,k<j∧(l.getD j bB).up=(nv.getD k bB).key)
theorem xm {i:Nat}{l:List fB}(h:mz i l):∀x ∈ l,BB x:=fun x hx=>by
 obtain⟨j,hj,rfl⟩:=a8 (d:=bB) hx;obtain⟨h1,h2⟩:=h.2 j (by have:=h.1;omega);have hk:∀k,k<4→(nv.getD k bB).key.length≤8:=by decide
 have hj4:j<4:=by have:=h.1;omega
 refine⟨by rw[h1];exact hk j hj4,?_⟩;rcases h2 with e|⟨_,k,hk1,e⟩
 · rw[e];simp
 · rw[e];exact hk k (by omega)
theorem Kx {i:Nat}{l:List fB}(h:mz i l):gz l=0:=by
 obtain⟨h1,h2⟩:=h
 match l,h1 with
 | [a, b,c,d],_=>
   obtain⟨a1,a2⟩:=h2 0 (by omega);obtain⟨b1,b2⟩:=h2 1 (by omega);obtain⟨c1,c2⟩:=h2 2 (by omega);obtain⟨d1,d2⟩:=h2 3 (by omega);obtain⟨ak,au⟩:=a;obtain⟨bk,bu⟩:=b;obtain⟨ck,cu⟩:=c;obtain⟨dk,du⟩:=d;simp only[List.getD_cons_zero,List.getD_cons_succ]at a1 a2 b1 b2 c1 c2 d1 d2;have ha:au= []:=by rcases a2 with e|⟨_,k,hk,_⟩;exact e;omega
   have hb:bu= []∨bu=(nv.getD 0 bB).key:=by
    rcases b2 with e|⟨_,k,hk,e⟩
    · exact .inl e
    · have:k=0:=by omega
      subst this;exact .inr e
   have hc:cu= []∨cu=(nv.getD 0 bB).key∨cu=(nv.getD 1 bB).key:=by
    rcases c2 with e|⟨_,k,hk,e⟩
    · exact .inl e
    · rcases(show k=0∨k=1 by omega)with r|r<;>subst r
      · exact .inr (.inl e)
      · exact .inr (.inr e)
   have hd:du= []∨du=(nv.getD 0 bB).key∨du=(nv.getD 1 bB).key∨du=(nv.getD 2 bB).key:=by
    rcases d2 with e|⟨_,k,hk,e⟩
    · exact .inl e
    · rcases(show k=0∨k=1∨k=2 by omega)with r|r|r<;>subst r
      · exact .inr (.inl e)
      · exact .inr (.inr (.inl e))
      · exact .inr (.inr (.inr e))
   subst a1 b1 c1 d1 ha;rcases hb with e|e<;>subst e<;>rcases hc with e|e|e<;>subst e<;>rcases hd with e|e|e|e<;>subst e<;>decide+kernel
theorem Fz {i:Nat}{l:List fB}(h:mz i l)(hi:i<4){j:Nat}(hj:j<i):mz (i+1) (me l i bB fun y=>{y with up:=(l.getD j bB).key}):=by
 refine⟨by unfold me;rw[List.length_set];exact h.1,fun q hq=> ?_⟩;have hl:=h.1;unfold me;rw[List.getD_eq_getElem?_getD,List.getElem?_set]
 by_cases e:i=q
 · subst e;rw[if_pos rfl,if_pos (by omega)];exact⟨(h.2 i hi).1,.inr ⟨by omega,j,hj,(h.2 j (by omega)).1⟩⟩
 · rw[if_neg e,←List.getD_eq_getElem?_getD];obtain⟨h1,h2⟩:=h.2 q hq;exact⟨h1,h2.imp id fun h3=>⟨by omega,h3.2⟩⟩
theorem wh {i:Nat}{l:List fB}(h:mz i l):mz (i+1) l:=⟨h.1,fun q hq=>⟨(h.2 q hq).1,(h.2 q hq).2.imp id fun h3=>⟨by omega,h3.2⟩⟩⟩
set_option maxHeartbeats 4000000 in
theorem MU (n:Nat)(L:Nat→Int)(hL:sJ n L)(a:Int)(h0:0≤a)(ha:a≤2^38):
 ai Tryz.prog 26 [.ptr 1000000 0] [(1000000,bp n L a)] (fun y r=>∃l:List fB,∃b,mz 4 l∧(a≤b∧b≤a+8)∧y= .buf 9∧r= [(9,aL 160 2 rq bB l),(1000000,bp n L b)]):=by
 refine ae hT (C:= [9]) Tryz.func26 rfl Tryz.call26 rfl rfl rfl ?_;conv=>whnf
 refine ah hT (C:= []) (ι:=Int×List fB×Nat) (fun(b,l,i)=>(a≤b∧b≤a+2*i)∧i≤4∧mz i l)
  (fun(b,l,i)=>aI [(0,.ptr 1000000 0),(3,.buf 9),(11,.d (.int .i64 4)),(12,.d (.int .i64 i))] [(1000000,bp n L b),(9,aL 160 2 rq bB l)])
  (fun(_,_,i)=>4 - i) (a,nv,0) ⟨⟨by simp,by simp⟩,by simp,rfl,by decide⟩ ?_ ?_
 · exact af [(1000000,1000000),(9,9)] rfl rfl ⟨lr,lr,lr,lr,trivial⟩ ⟨rr,Bf rfl rfl,trivial⟩
 rintro⟨b,l,i⟩ ⟨⟨p1,p2⟩,p3,p45⟩;have p45:mz i l:=p45;have p1:a≤b:=p1;have p2:b≤a+2*i:=p2;have p3:i≤4:=p3;have p4:l.length=4:=p45.1;have e1:(i:Int).toNat=i:=Int.toNat_natCast i;conv=>whnf
 repeat' (first|(refine dQ.of (Cf n L hL _ ?_ ?_ 3 ?_) [(1000000,1000000)] rfl ⟨lr,lr,trivial⟩ ⟨rr,trivial⟩ rfl rfl ?_;rotate_right;rintro x rout ⟨⟨w,rfl⟩,⟨c,c1,c2,rfl⟩⟩;refine⟨rfl,?_⟩;conv=>whnf)|(refine dQ.of (EQ n L hL _ ?_ ?_ _ ?_) [(1000000,1000000)] rfl ⟨lr,lr,trivial⟩ ⟨rr,trivial⟩ rfl rfl ?_;rotate_right;rintro x rout ⟨⟨j,hj1,hj2,hj3,rfl⟩,⟨c,c1,c2,rfl⟩⟩;refine⟨rfl,?_⟩;conv=>whnf)|((first|(refine aa ?_ ?_<;>intro hb<;>try simp only[az]at hb)|omega|refine aA ?_|decide|assumption)<;>conv=>whnf))
 · have p5:=xm p45;have hu:BB (l.getD j.toNat bB):=p5 _ (ao (by omega))
   refine⟨(c+1,me l i bB (fun y=>{y with up:=(l.getD j.toNat bB).key}),i+1),⟨⟨by omega,by show _≤a+2*((i+1:Nat):Int);omega⟩,by omega,Fz p45 (by omega) (by omega)⟩,by show 4 - (i+1)<4 - i;omega,
    af [(1000000,1000000),(9,9)] rfl rfl ⟨lr,lr,lr,lr,trivial⟩ ⟨rr,?_,trivial⟩⟩
   exact Bq (fun y:fB=>{y with up:=(l.getD j.toNat bB).key}) (fun _=>rfl)
 · exact⟨(c,l,i+1),⟨⟨by omega,by show _≤a+2*((i+1:Nat):Int);omega⟩,by omega,wh p45⟩,by show 4 - (i+1)<4 - i;omega,(by exact be [(1000000,1000000),(9,9)])⟩
 · exact⟨(b,l,i+1),⟨⟨p1,by show _≤a+2*((i+1:Nat):Int);omega⟩,by omega,wh p45⟩,by show 4 - (i+1)<4 - i;omega,(by exact be [(1000000,1000000),(9,9)])⟩
 · refine .ret _ ?_;conv=>whnf
   exact⟨[(9,aL 160 2 rq bB l),(1000000,bp n L _)],⟨l,b,by rw[show(4:Nat)=i by omega];exact p45,⟨by omega,by omega⟩,rfl,rfl⟩,rr,rr,trivial⟩
set_option maxHeartbeats 4000000 in
theorem G3 (n:Nat)(L:Nat→Int)(hL:sJ n L)(a:Int)(h0:0≤a)(ha:a≤2^33):
 ai Tryz.prog 28 [.ptr 1000000 0] [(1000000,bp n L a)] (fun y r=>(∃t:rG,(I4 t∧rv t=0)∧y=tar t)∧gZ n L a 2200 r):=by
 refine ae hT (C:= []) Tryz.func28 rfl Tryz.call28 rfl rfl rfl ?_;conv=>whnf
 refine ah hT (C:= []) (ι:=Int×Nat) (fun(b,i)=>a≤b∧b≤a+250*i∧i≤8)
  (fun(b,i)=>aI [(0,.ptr 1000000 0),(2,.ptr 2 0),(4,.d (.int .i64 i))] [(1000000,bp n L b),(2,.cells 38 [.d .nilsl,.d .nilsl,.d .nilsl,.d .nilsl,.d .nilsl])])
  (fun(_,i)=>8 - i) (a,0) ⟨by simp,by simp,by simp⟩ (by exact be [(1000000,1000000),(2,2)]) ?_
 rintro⟨b,i⟩ ⟨p1,p2,p3⟩;have p1:a≤b:=p1;have p2:b≤a+250*i:=p2;have p3:i≤8:=p3;conv=>whnf
 repeat' (first|(refine dQ.of (Io n L hL _ ?_ ?_) [(1000000,1000000)] rfl ⟨lr,trivial⟩ ⟨rr,trivial⟩ rfl rfl ?_;rotate_right;rintro x rout ⟨⟨t,ht,rfl⟩,⟨c,c1,c2,rfl⟩⟩;refine⟨rfl,?_⟩;conv=>whnf)|(refine aw (Q8 _ ht.ok) ⟨lr,trivial⟩ rfl ?_;conv=>whnf)|(refine dQ.of (Lv n L hL _ ?_ ?_) [(1000000,1000000),(3,14)] rfl ⟨lr,trivial⟩ ⟨rr,trivial⟩ rfl rfl ?_;rotate_right;rintro x rout ⟨l,c,⟨hl,hlE⟩,⟨c1,c2⟩,rfl,rfl⟩;refine⟨rfl,?_⟩;conv=>whnf)|((first|(refine aa ?_ ?_<;>intro hb<;>try simp only[az]at hb)|omega|refine aA ?_|decide|assumption)<;>conv=>whnf))
 all_goals try omega
 · refine .ret _ ?_;conv=>whnf
   exact⟨[(1000000,bp n L _)],⟨⟨t,⟨ht,by simpa using hb⟩,rfl⟩,_,by omega,by omega,rfl⟩,rr,trivial⟩
 · exact⟨(c,i+1),⟨by omega,by show _≤a+250*((i+1:Nat):Int);omega,by omega⟩,by show 8 - (i+1)<8 - i;omega,(by exact be [(1000000,1000000),(2,2)])⟩
 · refine .freeze _ 14 168 7 _ _ rfl (.ent _ _ (cy 2 14 7 _ 0 _ rfl rfl rfl) (.weak _ ?_));conv=>whnf
   exact⟨tar ⟨l,[],[],[],[]⟩,[(1000000,bp n L _)],cM ⟨lr,aO,aO,aO,aO,trivial⟩,⟨⟨⟨l,[],[],[],[]⟩,⟨⟨dF hl (by omega),⟨by simp,by simp⟩,⟨by simp,by simp⟩,⟨by simp,by simp⟩,⟨by simp,by simp⟩⟩,by unfold rv;rw[hlE];rfl⟩,rfl⟩,_,by omega,by omega,rfl⟩,rr,trivial⟩
def qc (i:Nat)(l:List mF):Prop:=l.length=i∧∀j,j<i→(l.getD j bD).key=Cq.getD j []∧((l.getD j bD).cls= [109,105,110,105]∨(l.getD j bD).cls= [109,105,100,105])
theorem EJ {i:Nat}{l:List mF}(h:qc i l){k c:List UInt8}(hk:k=Cq.getD i [])(hc:c ∈ [[109,105,110,105],[109,105,110,105],[109,105,100,105]]):qc (i+1) (l++ [⟨k,c⟩]):=by
 refine⟨by rw[List.length_append,h.1];rfl,fun j hj=> ?_⟩;have hl:=h.1;rcases Nat.lt_or_ge j l.length with q|q
 · rw[mT q];exact h.2 j (by omega)
 · have:j=l.length:=by omega
   subst this;rw[na];refine⟨by rw[hl];exact hk,?_⟩;simp only[List.mem_cons,List.not_mem_nil,or_false]at hc;show c=_∨c=_;rcases hc with e|e|e
   · exact .inl e
   · exact .inl e
   · exact .inr e
theorem Ge {cl:List fB}(h:mz 4 cl){c:List UInt8}(hc:c= [109,105,110,105]∨c= [109,105,100,105]):¬fY cl c<0:=by
 have h3:=(h.2 3 (by omega)).1;have h2:=(h.2 2 (by omega)).1;have hl:=h.1;unfold fY;rcases hc with e|e
 · have:=nj (p:=fun i=>(cl.getD i bB).key==c) (n:=cl.length) (k:=3) (by omega) (by rw[h3,e];decide);omega
 · have:=nj (p:=fun i=>(cl.getD i bB).key==c) (n:=cl.length) (k:=2) (by omega) (by rw[h2,e];decide);omega
theorem An {cl:List fB}{l:List mF}{t:rG}{d:uk}(hc:mz 4 cl)(hv:qc 3 l)(ht:rv t=0)(hd:rN d=0):tI ⟨⟨nF,cl,l,[]⟩,t,d⟩=0:=by
 have h1:nJ ⟨nF,cl,l,[]⟩=0:=by
  unfold nJ
  dsimp only
  rw[Kx hc,show lJ nF=0 by decide+kernel,if_neg (by have:=hv.1;omega)];rfl
 have h2:bf (jB ⟨nF,cl,l,[]⟩) l.length=0:=by
  refine aF fun j hj=> ?_
  have hl:=hv.1;obtain⟨k1,k2⟩:=hv.2 j (by omega);have hk:∀j,j<3→aE (Cq.getD j [])=true∧(0<j→dI (Cq.getD j []) (Cq.getD (j - 1) [])=false):=by decide+kernel
  obtain⟨q1,q2⟩:=hk j (by omega);unfold jB
  dsimp only
  rw[k1,q1,if_neg (by simp),if_neg (fun c=>by
   rw[(hv.2 (j - 1) (by omega)).1,q2 c.1]at c;exact absurd c.2 (by simp)),if_neg (Ge hc k2)]
 have h3:lN ⟨nF,cl,l,[]⟩=0:=by
  unfold lN;rw[h1,if_neg (fun c=>c rfl)]
  dsimp only
  rw[h2,if_neg (fun c=>c rfl)];rfl
 unfold tI
 dsimp only
 rw[h3,ht,hd];rfl
structure Kw (f:lR):Prop where
 sta:f.sta=nF
 cls:mz 4 f.cls
 veh:qc 3 f.veh
 plt:f.plt= []
set_option maxHeartbeats 4000000 in
theorem HU (n:Nat)(L:Nat→Int)(hL:sJ n L)(a:Int)(h0:0≤a)(ha:a≤2^32):
 ai Tryz.prog 5 [.ptr 1000000 0] [(1000000,bp n L a)] (fun y r=>(∃h:eH,(((Kz h∧tI h=0)∧Kw h.flt)∧A9 h.dea)∧y=hou h)∧gZ n L a 2400 r):=by
 refine ae hT (C:= []) Tryz.func5 rfl Tryz.call5 rfl rfl rfl ?_;conv=>whnf
 repeat' (first|(refine dQ.of (MU n L hL _ ?_ ?_) [(1000000,1000000),(9,10)] rfl ⟨lr,trivial⟩ ⟨rr,trivial⟩ rfl rfl ?_;rotate_right;rintro x rout ⟨cl,c,hcl,⟨c1,c2⟩,rfl,rfl⟩;refine⟨rfl,?_⟩;conv=>whnf)|((first|(refine aa ?_ ?_<;>intro hb<;>try simp only[az]at hb)|refine aq hT 5 zn ?_|refine aq hT 7 yF ?_|omega|refine aA ?_|decide|assumption)<;>conv=>whnf))
 all_goals try omega
 obtain⟨cc,hcc⟩:∃cc:Int,cc=c:=⟨_,rfl⟩;have hclb:Nn cl:=⟨by have:=hcl.1;omega,xm hcl⟩
 refine ah hT (C:= []) (ι:=Int×List mF×Nat) (fun(b,l,i)=>(cc≤b∧b≤cc+i∧i≤3)∧dP yi i l∧qc i l)
  (fun(b,l,i)=>aI [(0,.ptr 1000000 0),(2,.ptr 2 0),(3,.ptr 3 0),(12,.d (eE Cq)),(13,.d (.int .i64 3)),(14,.d (.int .i64 i))] [(1000000,bp n L b),(3,.cells 31 [.d (jN nF),.buf 10,.buf 20,.d .nilsl]),(10,aL 160 2 rq bB cl),(20,aL 65 2 wy bD l),(2,.cells 42 ([.d .nilsl,.d .nilsl,.d .nilsl,.d .nilsl,.d .nilsl,.d .nilsl,.d .nilsl,.d .nilsl,.d .nilsl]++(wY KP).map .d))])
  (fun(_,_,i)=>3 - i) (cc,[],0) ⟨⟨by simp,by simp,by simp⟩,⟨by simp,by simp⟩,rfl,by simp⟩ ?_ ?_
 · subst hcc
   exact(dg 3 20 65 2 2 (aW wy bD []) rfl rfl rfl (by decide) rfl).trans (af [(1000000,1000000),(3,3),(10,10),(20,20),(2,2)] rfl rfl ⟨lr,lr,lr,aj rfl rfl,lr,lr,trivial⟩ ⟨rr,pM rfl (by
    intro i x y hx hy
    match i with
    |0=>cases hx;cases hy;exact aj rfl rfl
    |1=>cases hx;cases hy;exact lr
    |2=>cases hx;cases hy;exact lr
    |3=>cases hx;cases hy;exact lr
    |i+4=>cases hx),rr,rr,rr,trivial⟩)
 rintro⟨b,l,i⟩ ⟨⟨p1,p2,p3⟩,p4,p5⟩;have p5:qc i l:=p5;have p1:cc≤b:=p1;have p2:b≤cc+i:=p2;have p3:i≤3:=p3;have p4:dP yi i l:=p4;have hc3:Cq.length=3:=rfl;have hl1:l.length≤i:=p4.1;have hkk:(i:Int)<3→(Cq.getD (i:Int).toNat []).length≤8:=fun h=>bO (ao (by omega)) rfl
 conv=>whnf
 repeat' (first|(refine dQ.of (tp n L hL _ ?_ ?_ [[109,105,110,105],[109,105,110,105],[109,105,100,105]] (by simp) (by simp)) [(1000000,1000000)] rfl ⟨lr,aj rfl rfl,trivial⟩ ⟨rr,trivial⟩ rfl rfl ?_;rotate_right;rintro x rout ⟨⟨v1,hv1,rfl⟩,⟨c,c1,c2,rfl⟩⟩;refine⟨rfl,?_⟩;conv=>whnf)|(refine dQ.of (G3 n L hL _ ?_ ?_) [(1000000,1000000)] rfl ⟨lr,trivial⟩ ⟨rr,trivial⟩ rfl rfl ?_;rotate_right;rintro x rout ⟨⟨t,⟨ht,htE⟩,rfl⟩,⟨c,c1,c2,rfl⟩⟩;refine⟨rfl,?_⟩;conv=>whnf)|(refine dQ.of (Lh n L hL _ ?_ ?_) [(1000000,1000000)] rfl ⟨lr,trivial⟩ ⟨rr,trivial⟩ rfl rfl ?_;rotate_right;rintro x rout ⟨⟨d,hd,rfl⟩,⟨c,c1,c2,rfl⟩⟩;refine⟨rfl,?_⟩;conv=>whnf)|((first|(refine aa ?_ ?_<;>intro hb<;>try simp only[az]at hb)|refine aq hT 5 zn ?_|refine aq hT 7 yF ?_|omega|refine aA ?_|decide|assumption)<;>conv=>whnf))
 all_goals try omega
 · exact⟨(c,l++ [⟨Cq.getD (i:Int).toNat [],v1⟩],i+1),⟨⟨by omega,by show _≤cc+((i+1:Nat):Int);omega,by omega⟩,e6 p4 (by omega) ⟨hkk (by omega),bO hv1 rfl⟩,EJ p5 (by rw[Int.toNat_natCast]) hv1⟩,by show 3 - (i+1)<3 - i;omega,
    af [(1000000,1000000),(3,3),(10,10),(20,26),(2,2)] rfl rfl ⟨lr,lr,lr,lr,lr,lr,trivial⟩ ⟨rr,rr,rr,aG rfl,rr,trivial⟩⟩
 · refine .freeze _ 10 160 2 _ _ rfl (.freeze _ 20 65 2 _ _ rfl (.ent _ _ (cy 2 10 2 _ 1 _ rfl rfl rfl) (.ent _ _ (cy 2 20 2 _ 2 _ rfl rfl rfl) (.weak _ ?_))));conv=>whnf
   exact⟨hou ⟨⟨nF,cl,l,[]⟩,t,d⟩,[(1000000,bp n L _)],cM ⟨lr,lr,lr,aO,lr,lr,lr,lr,lr,lr,lr,lr,lr,lr,lr,lr,trivial⟩,⟨⟨⟨⟨nF,cl,l,[]⟩,t,d⟩,⟨⟨⟨⟨⟨⟨by show nF.length≤4;decide,fun x hx=>by
    simp only[nF,List.mem_cons,List.not_mem_nil,or_false]at hx;rcases hx with rfl|rfl
    · show([115,49]:List UInt8).length≤8;decide
    · show([115,50]:List UInt8).length≤8;decide⟩,hclb,dF p4 (by omega),⟨by simp,by simp⟩⟩,ht⟩,An hcl (by rw[show(3:Nat)=i by omega];exact p5) htE hd.1⟩,⟨rfl,hcl,by show qc 3 l;rw[show(3:Nat)=i by omega];exact p5,rfl⟩⟩,hd.2⟩,rfl⟩,_,by omega,by omega,rfl⟩,rr,trivial⟩
def cO:OL:= [(0,[]),(1,[]),(2,[]),(3,[]),(7,rg 4),(8,rg 4),(9,rg 4),(10,rg 4),(4,[7,8,9,10]),(5,[7,8,9,10]),(6,[7,8,9,10]),(11,[5,6]),(12,[]),(13,[])]
def cP:OL:= [(0,[]),(1,[0]),(2,[0]),(3,[0]),(4,rg 4),(5,rg 4),(6,rg 4),(7,rg 4),(8,[]),(9,[]),(10,[]),(11,[])]
def zw (s:List UInt8):List UInt8:=bif decide (s= [])then [45]else s
theorem M6 (s:List UInt8):ai Tryz.prog 66 [.d (.str s)] [] (fun x r=>x= .d (.str (zw s))∧r= []):=by
 refine ae hT (C:= []) Tryz.func66 rfl Tryz.call66 rfl rfl rfl ?_;conv=>whnf
 repeat' (first|((first|(refine aa ?_ ?_<;>intro hb<;>try simp only[az]at hb)|omega|refine aA ?_|decide|assumption)<;>conv=>whnf))
 · refine .ret _ ?_;conv=>whnf
   refine⟨[],⟨?_,rfl⟩,trivial⟩;conv=>lhs;whnf
   unfold zw;rw[hb];rfl
 · refine .ret _ ?_;conv=>whnf
   refine⟨[],⟨?_,rfl⟩,trivial⟩;conv=>lhs;whnf
   unfold zw;rw[decide_eq_false hb];rfl
def PL:List UInt8:= [115,116,97,116,105,111,110,32]
def IB:List UInt8:= [32,48,45,48]
def jc (key:List UInt8)(i:Nat):List UInt8:=PL++key++(List.replicate i IB).flatten
theorem Dw (key:List UInt8)(i:Nat):jc key (i+1)=jc key i++IB:=by
 unfold jc;rw[List.replicate_succ',List.flatten_append];simp
theorem sN (key:List UInt8)(i:Nat):(jc key i).length=8+key.length+4*i:=by
 unfold jc;simp[PL,IB];omega
def ir (c:fB):List jO:= [.inr [99,108,97,115,115],.inr c.key,.inr (zw c.up)]
def jM (c:mF):List jO:= [.inr [118,101,104,105,99,108,101],.inr c.key,.inr c.cls]
theorem yN {s:List UInt8}(h:s.length≤8):(zw s).length≤8:=by
 unfold zw;cases decide (s= [])<;>simp[h]
theorem Dm {c:fB}(h:BB c):Ey (ir c):=by
 have h2:=yN h.2;have h1:=h.1;refine⟨by simp[ir],fun q hq=> ?_⟩;simp only[ir,List.mem_cons,List.not_mem_nil,or_false]at hq;rcases hq with rfl|rfl|rfl<;>simp only[bJ,List.length_cons,List.length_nil]<;>omega
theorem Ck {c:mF}(h:yi c):Ey (jM c):=by
 have h2:=h.2;have h1:=h.1;refine⟨by simp[jM],fun q hq=> ?_⟩;simp only[jM,List.mem_cons,List.not_mem_nil,or_false]at hq;rcases hq with rfl|rfl|rfl<;>simp only[bJ,List.length_cons,List.length_nil]<;>omega
theorem wD {c:fB}(h:BB c):(qB (ir c)).length≤100:=by
 have h2:=yN h.2;have h1:=h.1;simp only[qB,ir,List.map_cons,List.map_nil,bJ,gT,Lib.join_one,List.length_append,List.length_cons,List.length_nil];omega
theorem xB {c:mF}(h:yi c):(qB (jM c)).length≤100:=by
 have h2:=h.2;have h1:=h.1;simp only[qB,jM,List.map_cons,List.map_nil,bJ,gT,Lib.join_one,List.length_append,List.length_cons,List.length_nil];omega
theorem Fr {l:List mF}(h:qc 3 l):∀x ∈ l,yi x:=fun x hx=>by
 obtain⟨j,hj,rfl⟩:=a8 (d:=bD) hx;obtain⟨h1,h2⟩:=h.2 j (by have:=h.1;omega);have hk:∀k,k<3→(Cq.getD k []).length≤8:=by decide
 have hj4:j<3:=by have:=h.1;omega
 refine⟨by rw[h1];exact hk j hj4,?_⟩;rcases h2 with e|e<;>rw[e]<;>decide
def rI:List UInt8:=jc [115,49] 7++ [10]++(jc [115,50] 7++ [10])
def uT (f:lR):List UInt8:=rI++bV ir f.cls++bV jM f.veh
theorem xO:rI.length=78:=by
 unfold rI;simp only[List.length_append,sN,List.length_cons,List.length_nil]
theorem Kf:Lib.join ([(Sum.inl 0:jO)].map bJ) [32]= [48]:=by
 rw[List.map_cons,List.map_nil,Lib.join_one];show Lib.itoa 0= [48];unfold Lib.itoa;rw[if_neg (by decide),Lib.decDigits,dif_pos (by decide)];rfl
def Av (b:Bool)(t:List UInt8):List UInt8:=(bif b then jc [115,49] 7++ [10]else [])++t
theorem mU (b:Bool)(key:List UInt8)(hk:key.length≤2)(i:Nat)(hi:i≤7):(Av b (jc key i)).length≤200:=by
 unfold Av;cases b<;>simp[sN]<;>omega
theorem ze (b:Bool)(key:List UInt8)(i:Nat):Av b (jc key (i+1))=Av b (jc key i)++IB:=by
 unfold Av;rw[Dw key i,List.append_assoc]
theorem Nk:Av true (jc [115,50] 7)++ [10]=rI:=by unfold Av rI;simp
theorem Bw {σ:Nat→St}{s:St}{n i:Nat}(_:i≤n)(hi:i<n)(h:dc s (σ (i+1))):∃j,j≤n∧n - j<n - i∧dc s (σ j):=⟨i+1,hi,by omega,h⟩
set_option maxHeartbeats 8000000 in
theorem QC (f:lR)(hR:Kw f)(hE:lN f=0)(hk:vn f):ai Tryz.prog 20 [flt f] kx (fun x r=>x= .tup [.d (.str (uT f)),.d (.int .i64 0)]∧r=kx):=by
 have hf:=Lc f hk;rw[hE]at hf;obtain⟨sta,cls,veh,plt⟩:=f;obtain⟨r1,r2,r3,r4⟩:=hR
 dsimp only at r1 r2 r3 r4
 subst r1 r4;have hz:=tJ [.inl 0] (by simp) (by simp[my]) (by rw[Kf];simp);rw[Kf]at hz;have hcK:=xm r2;have hvK:=Fr r3
 have hc0:∀i,BB (cls.getD i bB):=fun i=>by
  rcases Nat.lt_or_ge i cls.length with q|q
  · exact hcK _ (ao q)
  · rw[List.getD_eq_getElem?_getD,List.getElem?_eq_none q];simp[BB,bB]
 have hv0:∀i,yi (veh.getD i bD):=fun i=>by
  rcases Nat.lt_or_ge i veh.length with q|q
  · exact hvK _ (ao q)
  · rw[List.getD_eq_getElem?_getD,List.getElem?_eq_none q];simp[yi,bD]
 have hC:=fun i=>tJ (ir (cls.getD i bB)) (by simp[ir]) (by simp[ir,my]) (by have:=je (Dm (hc0 i));omega)
 have hV:=fun i=>tJ (jM (veh.getD i bD)) (by simp[jM]) (by simp[jM,my]) (by have:=je (Ck (hv0 i));omega)
 have hcl:=fun i=>wD (hc0 i)
 have hvl:=fun i=>xB (hv0 i)
 have hct:=fun i=>oy (pf:=ir) (cls.take i) (fun p hp=>wD (hcK p (List.mem_of_mem_take hp)))
 have hvt:=fun i=>oy (pf:=jM) (veh.take i) (fun p hp=>xB (hvK p (List.mem_of_mem_take hp)))
 have hc4:cls.length=4:=r2.1;have hv3:veh.length=3:=r3.1;have hsb:=xO;refine ae hT (C:= []) Tryz.func20 rfl Tryz.call20 rfl rfl rfl ?_;conv=>whnf
 repeat' (first|(refine ac (hf) rfl rfl ?_;rotate_right;conv=>whnf)|((first|(refine aa ?_ ?_<;>intro hb<;>try simp only[az]at hb)|refine aq hT 12 cO ?_|refine aq hT 19 cP ?_|omega|refine aA ?_|decide|assumption)<;>conv=>whnf))
 refine bU hT (C:= []) (fun _ _ h=>h) (fun _ h=>h) ?_;conv=>whnf
 repeat' (first|((first|(refine cd (KD (Av false (jc [115,49] 0)) (by have:=mU false [115,49] (by decide) 0 (by decide);omega)) [(1000001,5),(14,43)] ?_;rintro x rout ⟨rfl,rfl⟩;refine⟨rfl,?_⟩)|(refine aa ?_ ?_<;>intro hb<;>try simp only[az]at hb)|refine aq hT 12 cO ?_|refine aq hT 19 cP ?_|omega|refine aA ?_|decide|assumption)<;>conv=>whnf))
 refine ah hT (C:= []) (ι:=Nat) (fun i=>i≤7) (fun i=>aI [(1,.ptr 1 0),(5,.ptr 5 0),(22,.d (jN nF)),(23,.d (.int .i64 2)),(24,.d (.int .i64 0)),(33,.agg [.d (.int .i64 0),.d (.int .i64 0),.d (.int .i64 0),.d (.int .i64 0),.d (.int .i64 0),.d (.int .i64 0),.d (.int .i64 0),.d (.int .i64 0),.d (.int .i64 0),.d (.int .i64 0),.d (.int .i64 0),.d (.int .i64 0),.d (.int .i64 0),.d (.int .i64 0)]),(34,.d (.int .i64 i))] [(1000009,KX),(1,.cells 31 [.d (jN nF),.d (gP cls),.d (lY veh),.d (wG [])]),(5,.cells 144 [.ptr 5 0,.buf 40]),(40,mj (Av false (jc [115,49] i)))]) (fun i=>7 - i) 0 (Nat.zero_le _) (by exact be [(1000009,1000009),(1,1),(5,5),(40,43)]) ?_;intro i hi;have hw:=wt (Av false (jc [115,49] i)) IB (by have:=mU false [115,49] (by decide) i hi;simp[IB];omega);rcases(show i=0∨i=1∨i=2∨i=3∨i=4∨i=5∨i=6∨i=7 by omega)with rfl|rfl|rfl|rfl|rfl|rfl|rfl|rfl
 iterate 7
  · conv=>whnf
    repeat' (first|((first|refine dQ.look hz [(1000009,1000009)] rfl ⟨aj rfl rfl,trivial⟩ ⟨⟨_,rfl,rfl⟩,trivial⟩ rfl rfl rfl ?_|(refine cd hw JX ?_;rintro x rout ⟨rfl,rfl⟩;refine⟨rfl,?_⟩)|(refine aa ?_ ?_<;>intro hb<;>try simp only[az]at hb)|refine aq hT 12 cO ?_|refine aq hT 19 cP ?_|omega|refine aA ?_|decide|assumption)<;>conv=>whnf))
    refine Bw hi (by decide) ?_;rw[ze];exact(by exact be MY)
 clear hw;conv=>whnf
 repeat' (first|((first|(refine cd (wt (Av false (jc [115,49] 7)) [10] (by have:=mU false [115,49] (by decide) 7 (by decide);simp;omega)) JX ?_;rintro x rout ⟨rfl,rfl⟩;refine⟨rfl,?_⟩)|(refine aa ?_ ?_<;>intro hb<;>try simp only[az]at hb)|refine aq hT 12 cO ?_|refine aq hT 19 cP ?_|omega|refine aA ?_|decide|assumption)<;>conv=>whnf))
 refine bU hT (C:= []) (fun _ _ h=>h) (fun _ h=>h) ?_;conv=>whnf
 repeat' (first|((first|(refine cd (wt (Av false (jc [115,49] 7)++ [10]) (jc [115,50] 0) (by have:=mU false [115,49] (by decide) 7 (by decide);simp[sN];omega)) [(1000001,5),(1000002,41),(14,42)] ?_;rintro x rout ⟨rfl,rfl⟩;refine⟨rfl,?_⟩)|(refine aa ?_ ?_<;>intro hb<;>try simp only[az]at hb)|refine aq hT 12 cO ?_|refine aq hT 19 cP ?_|omega|refine aA ?_|decide|assumption)<;>conv=>whnf))
 refine ah hT (C:= []) (ι:=Nat) (fun i=>i≤7) (fun i=>aI [(1,.ptr 1 0),(5,.ptr 5 0),(22,.d (jN nF)),(23,.d (.int .i64 2)),(24,.d (.int .i64 1)),(33,.agg [.d (.int .i64 0),.d (.int .i64 0),.d (.int .i64 0),.d (.int .i64 0),.d (.int .i64 0),.d (.int .i64 0),.d (.int .i64 0),.d (.int .i64 0),.d (.int .i64 0),.d (.int .i64 0),.d (.int .i64 0),.d (.int .i64 0),.d (.int .i64 0),.d (.int .i64 0)]),(34,.d (.int .i64 i))] [(1000009,KX),(1,.cells 31 [.d (jN nF),.d (gP cls),.d (lY veh),.d (wG [])]),(5,.cells 144 [.ptr 5 0,.buf 40]),(40,mj (Av true (jc [115,50] i)))]) (fun i=>7 - i) 0 (Nat.zero_le _) (by exact be [(1000009,1000009),(1,1),(5,5),(40,42)]) ?_;intro i hi;have hw:=wt (Av true (jc [115,50] i)) IB (by have:=mU true [115,50] (by decide) i hi;simp[IB];omega);rcases(show i=0∨i=1∨i=2∨i=3∨i=4∨i=5∨i=6∨i=7 by omega)with rfl|rfl|rfl|rfl|rfl|rfl|rfl|rfl
 iterate 7
  · conv=>whnf
    repeat' (first|((first|refine dQ.look hz [(1000009,1000009)] rfl ⟨aj rfl rfl,trivial⟩ ⟨⟨_,rfl,rfl⟩,trivial⟩ rfl rfl rfl ?_|(refine cd hw JX ?_;rintro x rout ⟨rfl,rfl⟩;refine⟨rfl,?_⟩)|(refine aa ?_ ?_<;>intro hb<;>try simp only[az]at hb)|refine aq hT 12 cO ?_|refine aq hT 19 cP ?_|omega|refine aA ?_|decide|assumption)<;>conv=>whnf))
    refine Bw hi (by decide) ?_;rw[ze];exact(by exact be MY)
 clear hw;conv=>whnf
 repeat' (first|((first|(refine cd (wt (Av true (jc [115,50] 7)) [10] (by have:=mU true [115,50] (by decide) 7 (by decide);simp;omega)) JX ?_;rintro x rout ⟨rfl,rfl⟩;refine⟨rfl,?_⟩)|(refine aa ?_ ?_<;>intro hb<;>try simp only[az]at hb)|refine aq hT 12 cO ?_|refine aq hT 19 cP ?_|omega|refine aA ?_|decide|assumption)<;>conv=>whnf))
 rw[Nk];refine bU hT (C:= []) (fun _ _ h=>h) (fun _ h=>h) ?_;conv=>whnf
 repeat' (first|((first|(refine aa ?_ ?_<;>intro hb<;>try simp only[az]at hb)|refine aq hT 12 cO ?_|refine aq hT 19 cP ?_|omega|refine aA ?_|decide|assumption)<;>conv=>whnf))
 refine ah hT (C:= []) (ι:=Nat) (fun i=>i≤cls.length) (fun i=>aI [(1,.ptr 1 0),(5,.ptr 5 0),(55,.d (gP cls)),(56,.d (.int .i64 cls.length)),(57,.d (.int .i64 i))] [(1000009,KX),(1,.cells 31 [.d (jN nF),.d (gP cls),.d (lY veh),.d (wG [])]),(5,.cells 144 [.ptr 5 0,.buf 40]),(40,mj (rI++bV ir (cls.take i)))]) (fun i=>cls.length - i) 0 (Nat.zero_le _) ?_ ?_
 · rw[List.take_zero,show bV ir []= []from rfl,List.append_nil];exact(by exact be MY)
 intro i hi;rcases Nat.lt_or_ge i cls.length with hlt|hge
 · have hci:=hcl i;have hJi:=je (Dm (hc0 i));have hti:=hct i;have htl:(cls.take i).length=i:=by rw[List.length_take];omega
   rw[htl]at hti;conv=>whnf
   repeat' (first|(refine dQ.look (hC i) [(1000009,1000009)] rfl ⟨aj rfl rfl,trivial⟩ ⟨⟨_,rfl,rfl⟩,trivial⟩ rfl rfl rfl ?_;conv=>whnf)|(refine ac (M6 _) rfl rfl ?_;rotate_right;conv=>whnf)|((first|(refine cd (wt (rI++bV ir (cls.take i)) (qB (ir (cls.getD i bB))) (by simp only[List.length_append];omega)) JX ?_;rintro x rout ⟨rfl,rfl⟩;refine⟨rfl,?_⟩)|(refine aa ?_ ?_<;>intro hb<;>try simp only[az]at hb)|refine aq hT 12 cO ?_|refine aq hT 19 cP ?_|omega|refine aA ?_|decide|assumption)<;>conv=>whnf))
   refine⟨i+1,by omega,by omega,?_⟩;rw[kA (d:=bB) hlt,←List.append_assoc];exact(by exact be MY)
 have hi2:i=cls.length:=by omega
 subst hi2;rw[List.take_length];conv=>whnf
 repeat' (first|((first|(refine aa ?_ ?_<;>intro hb<;>try simp only[az]at hb)|refine aq hT 12 cO ?_|refine aq hT 19 cP ?_|omega|refine aA ?_|decide|assumption)<;>conv=>whnf))
 refine ah hT (C:= []) (ι:=Nat) (fun i=>i≤veh.length) (fun i=>aI [(1,.ptr 1 0),(5,.ptr 5 0),(75,.d (lY veh)),(76,.d (.int .i64 veh.length)),(77,.d (.int .i64 i))] [(1000009,KX),(1,.cells 31 [.d (jN nF),.d (gP cls),.d (lY veh),.d (wG [])]),(5,.cells 144 [.ptr 5 0,.buf 40]),(40,mj ((rI++bV ir cls)++bV jM (veh.take i)))]) (fun i=>veh.length - i) 0 (Nat.zero_le _) ?_ ?_
 · rw[List.take_zero,show bV jM []= []from rfl,List.append_nil];exact(by exact be [(1000009,1000009),(1,1),(5,5),(40,40)])
 intro i hi;rcases Nat.lt_or_ge i veh.length with hlt|hge
 · have hci:=hvl i;have hJi:=je (Ck (hv0 i));have hti:=hvt i;have htl:(veh.take i).length=i:=by rw[List.length_take];omega
   rw[htl]at hti;conv=>whnf
   repeat' (first|(refine dQ.look (hV i) [(1000009,1000009)] rfl ⟨aj rfl rfl,trivial⟩ ⟨⟨_,rfl,rfl⟩,trivial⟩ rfl rfl rfl ?_;conv=>whnf)|(refine ac (M6 _) rfl rfl ?_;rotate_right;conv=>whnf)|((first|(refine cd (wt ((rI++bV ir cls)++bV jM (veh.take i)) (qB (jM (veh.getD i bD))) (by simp only[List.length_append];have:=hct 4;rw[show cls.take 4=cls from List.take_of_length_le (by omega)]at this;omega)) JX ?_;rintro x rout ⟨rfl,rfl⟩;refine⟨rfl,?_⟩)|(refine aa ?_ ?_<;>intro hb<;>try simp only[az]at hb)|refine aq hT 12 cO ?_|refine aq hT 19 cP ?_|omega|refine aA ?_|decide|assumption)<;>conv=>whnf))
   refine⟨i+1,by omega,by omega,?_⟩;rw[kA (d:=bD) hlt,←List.append_assoc];exact(by exact be MY)
 have hi2:i=veh.length:=by omega
 subst hi2;rw[List.take_length];conv=>whnf
 repeat' (first|((first|(refine aa ?_ ?_<;>intro hb<;>try simp only[az]at hb)|refine aq hT 12 cO ?_|refine aq hT 19 cP ?_|omega|refine aA ?_|decide|assumption)<;>conv=>whnf))
 refine bU hT (C:= []) (fun _ _ h=>h) (fun _ h=>h) ?_;conv=>whnf
 have hlt:=hct 4;rw[show cls.take 4=cls from List.take_of_length_le (by omega)]at hlt;have hlv:=hvt 3;rw[show veh.take 3=veh from List.take_of_length_le (by omega)]at hlv;have hT0:(rI++bV ir cls++bV jM veh).length≤200000:=by simp only[List.length_append];omega
 repeat' (first|(refine cd (GM (rI++bV ir cls++bV jM veh) (.ptr 1000001 0)) [(1000001,5),(1000002,40)] ?_;rintro x rout ⟨rfl,rfl⟩;refine⟨rfl,?_⟩;conv=>whnf)|(refine ac (FB _ hT0) rfl rfl ?_;rotate_right;conv=>whnf)|((first|(refine aa ?_ ?_<;>intro hb<;>try simp only[az]at hb)|refine aq hT 12 cO ?_|refine aq hT 19 cP ?_|omega|refine aA ?_|decide|assumption)<;>conv=>whnf))
 refine .ret _ ?_;conv=>whnf
 refine⟨kx,⟨congrArg SV.tup ?_,rfl⟩,rr,trivial⟩;repeat' (refine aN ?_ ?_)
 all_goals (conv=>lhs;whnf)
 all_goals try(with_reducible rfl)
 all_goals rfl
def oF:OL:= [(0,[]),(1,[0]),(2,[0]),(3,[0]),(4,rg 4),(5,rg 4),(6,rg 4),(7,[0]),(8,rg 8),(9,[]),(10,[])]
def np:OL:= [(0,[]),(1,[0]),(2,[0]),(3,[0]),(4,[0]),(5,rg 5),(6,rg 5),(7,[0]),(8,[]),(9,[]),(10,[])]
def kJ:OL:= [(0,[]),(1,[]),(2,[]),(3,[0,1,2]),(4,[0,1,2]),(5,[0,1,2]),(6,[]),(7,rg 7),(8,[])]
def lk:OL:= [(0,[]),(1,[0]),(2,[0]),(3,[0]),(4,[0]),(5,rg 5),(6,rg 5),(7,[0]),(8,[]),(9,[]),(10,[])]
def lf:OL:= [(0,[]),(1,[0]),(2,[0]),(3,[0]),(4,[0]),(5,rg 5),(6,rg 5),(7,rg 5),(8,rg 8),(9,rg 8),(10,rg 8),(11,rg 5),(12,rg 5),(13,[0]),(14,[]),(15,[]),(16,[])]
def GU:List UInt8:= [48,45,48]
def PR:List UInt8:= [115,116,97,116,105,111,110]
def Ju:List UInt8:= [99,108,97,115,115]
def M9:List UInt8:= [118,101,104,105,99,108,101]
def oz (key:List UInt8):List (List UInt8):= [PR,key,GU,GU,GU,GU,GU,GU,GU]
theorem Qd:Lib.cut GU [45]=([48],[48],true):=by decide+kernel
theorem Ka:([[48],[48]]:List (List UInt8)).all dB=true∧([[48],[48]]:List (List UInt8)).map fd= [0,0]:=by
 have h0:Lib.itoa 0= [48]:=by
  unfold Lib.itoa;rw[if_neg (by decide),Lib.decDigits,dif_pos (by decide)];rfl
 have:=gk (n:=0) (by decide) (by decide);rw[h0]at this;simp[this.1,this.2]
set_option maxHeartbeats 4000000 in
theorem NN (key:List UInt8):ai Tryz.prog 127 [.d (.ro 1 9 (aW sF [] (oz key)))] kx (fun x r=>x= .tup [.agg ((sG ⟨key,fun _=>0⟩).map .d),.d (.bool true)]∧r=kx):=by
 have hC:=LV GU [45] (by decide);rw[Qd]at hC;have hN:=LW [[48],[48]] (by simp) (by simp);rw[Ka.1,Ka.2]at hN
 replace hN:ai Tryz.prog 64 [.d (eE [[48],[48]])] kx (fun x r=>x= .tup [.d (gr [0,0]),.d (.bool true)]∧r=kx):=hN
 refine ae hT (C:= []) Tryz.func127 rfl Tryz.call127 rfl rfl rfl ?_;conv=>whnf
 repeat' (first|((first|(refine aa ?_ ?_<;>intro hb<;>try simp only[az]at hb)|refine aq hT 9 oF ?_|omega|refine aA ?_|decide|assumption)<;>conv=>whnf))
 refine ah hT (C:= []) (ι:=Nat) (fun i=>i≤7) (fun i=>aI [(2,.ptr 2 0),(4,.ptr 4 0),(17,.d (.ro 1 7 fun j=>aW sF [] (oz key) (2+j))),(18,.d (.int .i64 7)),(19,.d (.int .i64 i))] [(1000009,KX),(2,.cells 99 [.d (.str []),.d (.int .i64 0),.d (.int .i64 0),.d (.int .i64 0),.d (.int .i64 0),.d (.int .i64 0),.d (.int .i64 0),.d (.int .i64 0),.d (.int .i64 0),.d (.int .i64 0),.d (.int .i64 0),.d (.int .i64 0),.d (.int .i64 0),.d (.int .i64 0),.d (.int .i64 0)]),(4,.cells 99 [.d (.str key),.d (.int .i64 0),.d (.int .i64 0),.d (.int .i64 0),.d (.int .i64 0),.d (.int .i64 0),.d (.int .i64 0),.d (.int .i64 0),.d (.int .i64 0),.d (.int .i64 0),.d (.int .i64 0),.d (.int .i64 0),.d (.int .i64 0),.d (.int .i64 0),.d (.int .i64 0)])]) (fun i=>7 - i) 0 (Nat.zero_le _) (by(refine af [(1000009,1000009),(2,2),(4,4)] rfl rfl ?_ ?_<;>repeat' (first|exact True.intro|exact lr|exact rr|(exact bZ (by omega) (fun _ _=>rfl))|exact ap (by omega)|exact a7 _|refine And.intro ?_ ?_));done) ?_;intro i hi;rcases(show i=0∨i=1∨i=2∨i=3∨i=4∨i=5∨i=6∨i=7 by omega)with rfl|rfl|rfl|rfl|rfl|rfl|rfl|rfl
 iterate 7
  · conv=>whnf
    repeat' (first|((first|refine dm hC rfl rfl rfl rfl ?_|refine dQ.look hN [(1000009,1000009)] rfl ⟨aj rfl rfl,trivial⟩ ⟨⟨_,rfl,rfl⟩,trivial⟩ rfl rfl rfl ?_|(refine aa ?_ ?_<;>intro hb<;>try simp only[az]at hb)|refine aq hT 9 oF ?_|omega|refine aA ?_|decide|assumption)<;>conv=>whnf))
    refine Bw hi (by decide) ?_;exact(by exact be [(1000009,1000009),(2,2),(4,4)])
 conv=>whnf
 repeat' (first|((first|(refine aa ?_ ?_<;>intro hb<;>try simp only[az]at hb)|refine aq hT 9 oF ?_|omega|refine aA ?_|decide|assumption)<;>conv=>whnf))
 refine .ret _ ?_;conv=>whnf
 refine⟨kx,⟨congrArg SV.tup ?_,rfl⟩,rr,trivial⟩;repeat' (refine aN ?_ ?_)
 all_goals (conv=>lhs;whnf)
 all_goals try(with_reducible rfl)
 all_goals rfl
abbrev fR (f:lR)(a b c d:Nat):List (Nat×aY):= [(1000009,KX),(1000005,.cells 31 [.buf a,.buf b,.buf c,.buf d]),(a,aL 99 15 sG o9 f.sta),(b,aL 160 2 rq bB f.cls),(c,aL 65 2 wy bD f.veh),(d,aL 163 3 BL dp f.plt)]
def tw (s:List UInt8):Prop:=(∀x ∈ s,45≤x.toNat)∧s≠ []∧s.length≤40
theorem FK {W:List (List UInt8)}(h:∀w ∈ W,tw w)(c:UInt8)(hc:c.toNat<45):∀w ∈ W,c ∉ w:=fun w hw=>xZ (h w hw).1 hc
theorem KQ {W:List (List UInt8)}(h:∀w ∈ W,tw w):gf W=true:=by
 unfold gf;simp only[Bool.not_eq_true',decide_eq_false_iff_not];exact fun q=>(h [] q).2.1 rfl
theorem wds {W:List (List UInt8)}(h:∀w ∈ W,tw w)(h0:W≠ [])(hl:W.length≤9):ai Tryz.prog 71 [.d (.str (Lib.join W [32]))] kx (fun x r=>x= .tup [.d (eE W),.d (.bool true)]∧r=kx):=by
 have hj:=z6 W [32] 40 (fun x hx=>(h x hx).2.2);have h2:W.length*(40+([32]:List UInt8).length)≤9*41:=by simp only[List.length_singleton];omega
 have:=NX (Lib.join W [32]) (by omega);rw[th h0 (FK h 32 (by decide)),KQ h]at this;exact this
theorem PE:tw PR:=by refine⟨?_,?_,?_⟩<;>decide
theorem Ox:tw Ju:=by refine⟨?_,?_,?_⟩<;>decide
theorem QV:tw M9:=by refine⟨?_,?_,?_⟩<;>decide
theorem OC:tw GU:=by refine⟨?_,?_,?_⟩<;>decide
set_option maxHeartbeats 4000000 in
theorem QZ (f:lR)(hl:f.sta.length≤2^20)(key:List UInt8)(hw:tw key):ai Tryz.prog 68 [.ptr 1000005 0,.d (.str (Lib.join (oz key) [32]))] (fR f 1000001 1000002 1000003 1000004) (fun x r=>x= .d (.int .i64 1)∧r=fR {f with sta:=f.sta++ [⟨key,fun _=>0⟩]} 501 502 503 504):=by
 have hW:=wds (W:=oz key) (by
  intro w h;simp only[oz,List.mem_cons,List.not_mem_nil,or_false]at h
  rcases h with rfl|rfl|rfl|rfl|rfl|rfl|rfl|rfl|rfl<;>first|exact PE|exact OC|exact hw) (by simp[oz]) (by simp[oz])
 replace hW:ai Tryz.prog 71 [.d (.str (Lib.join (oz key) [32]))] kx (fun x r=>x= .tup [.d (.ro 1 9 (aW sF [] (oz key))),.d (.bool true)]∧r=kx):=hW
 have hS:=NN key;refine ae hT (C:= []) Tryz.func68 rfl Tryz.call68 rfl rfl rfl ?_;conv=>whnf
 repeat' (first|((first|refine dQ.look hW [(1000009,1000009)] rfl ⟨lr,trivial⟩ ⟨⟨_,rfl,rfl⟩,trivial⟩ rfl rfl rfl ?_|refine dQ.look hS [(1000009,1000009)] rfl ⟨lr,trivial⟩ ⟨⟨_,rfl,rfl⟩,trivial⟩ rfl rfl rfl ?_|(refine aa ?_ ?_<;>intro hb<;>try simp only[az]at hb)|refine aq hT 8 np ?_|refine aq hT 11 kJ ?_|refine aq hT 14 lk ?_|refine aq hT 17 lf ?_|refine aq hT 23 oJZdA68_23 ?_|omega|refine aA ?_|decide|assumption)<;>conv=>whnf))
 refine .ent _ (aI [(4,.d (.int .i64 1))] (fR {f with sta:=f.sta++ [⟨key,fun _=>0⟩]} 501 502 503 504)) (by(refine af [(1000009,1000009),(1000005,1000005),(501,44),(502,1000002),(503,1000003),(504,1000004)] rfl rfl ?_ ?_<;>repeat' (first|exact True.intro|exact lr|exact rr|(exact aG rfl)|exact ap (by omega)|exact a7 _|refine And.intro ?_ ?_));done) ?_;refine .ret _ ?_;conv=>whnf
 exact⟨fR _ 501 502 503 504,⟨rfl,rfl⟩,rr,rr,rr,rr,rr,rr,trivial⟩
set_option maxHeartbeats 4000000 in
theorem Oi (f:lR)(hl:f.cls.length≤2^20)(c:fB)(hw:tw c.key)(hu:c.up= []∨tw c.up∧c.up≠ [45]):ai Tryz.prog 68 [.ptr 1000005 0,.d (.str (Lib.join ((ir c).map bJ) [32]))] (fR f 1000001 1000002 1000003 1000004) (fun x r=>x= .d (.int .i64 2)∧r=fR {f with cls:=f.cls++ [c]} 501 502 503 504):=by
 obtain⟨key,up⟩:=c
 dsimp only at hw hu
 rcases hu with rfl|⟨hu,hu2⟩
 · have hW:=wds (W:= [Ju,key,[45]]) (by
    intro w h;simp only[List.mem_cons,List.not_mem_nil,or_false]at h;rcases h with rfl|rfl|rfl
    · exact Ox
    · exact hw
    · refine⟨?_,?_,?_⟩<;>decide) (by simp) (by simp)
   replace hW:ai Tryz.prog 71 [.d (.str (Lib.join [Ju,key,[45]] [32]))] kx (fun x r=>x= .tup [.d (.ro 1 3 (aW sF [] [Ju,key,[45]])),.d (.bool true)]∧r=kx):=hW
   have e:(ir ⟨key,[]⟩).map bJ= [Ju,key,[45]]:=rfl;rw[e];refine ae hT (C:= []) Tryz.func68 rfl Tryz.call68 rfl rfl rfl ?_;conv=>whnf
   repeat' (first|((first|refine dQ.look hW [(1000009,1000009)] rfl ⟨lr,trivial⟩ ⟨⟨_,rfl,rfl⟩,trivial⟩ rfl rfl rfl ?_|(refine aa ?_ ?_<;>intro hb<;>try simp only[az]at hb)|refine aq hT 8 np ?_|refine aq hT 11 kJ ?_|refine aq hT 14 lk ?_|refine aq hT 17 lf ?_|refine aq hT 23 oJZdA68_23 ?_|omega|refine aA ?_|decide|assumption)<;>conv=>whnf))
   refine .ent _ (aI [(4,.d (.int .i64 2))] (fR {f with cls:=f.cls++ [⟨key,[]⟩]} 501 502 503 504)) (by(refine af [(1000009,1000009),(1000005,1000005),(501,1000001),(502,75),(503,1000003),(504,1000004)] rfl rfl ?_ ?_<;>repeat' (first|exact True.intro|exact lr|exact rr|(exact aG rfl)|exact ap (by omega)|exact a7 _|refine And.intro ?_ ?_));done) ?_;refine .ret _ ?_;conv=>whnf
   exact⟨fR _ 501 502 503 504,⟨rfl,rfl⟩,rr,rr,rr,rr,rr,rr,trivial⟩
 · have hW:=wds (W:= [Ju,key,up]) (by
    intro w h;simp only[List.mem_cons,List.not_mem_nil,or_false]at h;rcases h with rfl|rfl|rfl
    · exact Ox
    · exact hw
    · exact hu) (by simp) (by simp)
   replace hW:ai Tryz.prog 71 [.d (.str (Lib.join [Ju,key,up] [32]))] kx (fun x r=>x= .tup [.d (.ro 1 3 (aW sF [] [Ju,key,up])),.d (.bool true)]∧r=kx):=hW
   have e:(ir ⟨key,up⟩).map bJ= [Ju,key,up]:=by
    simp only[ir,List.map_cons,List.map_nil,bJ,zw];rw[decide_eq_false hu.2.1];rfl
   rw[e];have hb1:(up== [45])=false:=by simpa using hu2
   refine ae hT (C:= []) Tryz.func68 rfl Tryz.call68 rfl rfl rfl ?_;conv=>whnf
   repeat' (first|((first|refine dQ.look hW [(1000009,1000009)] rfl ⟨lr,trivial⟩ ⟨⟨_,rfl,rfl⟩,trivial⟩ rfl rfl rfl ?_|(refine aa ?_ ?_<;>intro hb<;>try simp only[az]at hb)|refine aq hT 8 np ?_|refine aq hT 11 kJ ?_|refine aq hT 14 lk ?_|refine aq hT 17 lf ?_|refine aq hT 23 oJZdA68_23 ?_|omega|refine aA ?_|decide|assumption)<;>conv=>whnf))
   all_goals try(exact absurd hb hu2)
   refine .ent _ (aI [(4,.d (.int .i64 2))] (fR {f with cls:=f.cls++ [⟨key,up⟩]} 501 502 503 504)) (by(refine af [(1000009,1000009),(1000005,1000005),(501,1000001),(502,75),(503,1000003),(504,1000004)] rfl rfl ?_ ?_<;>repeat' (first|exact True.intro|exact lr|exact rr|(exact aG rfl)|exact ap (by omega)|exact a7 _|refine And.intro ?_ ?_));done) ?_;refine .ret _ ?_;conv=>whnf
   exact⟨fR _ 501 502 503 504,⟨rfl,rfl⟩,rr,rr,rr,rr,rr,rr,trivial⟩
set_option maxHeartbeats 4000000 in
theorem Qc (f:lR)(hl:f.veh.length≤2^20)(v:mF)(hw:tw v.key)(hu:tw v.cls):ai Tryz.prog 68 [.ptr 1000005 0,.d (.str (Lib.join ((jM v).map bJ) [32]))] (fR f 1000001 1000002 1000003 1000004) (fun x r=>x= .d (.int .i64 3)∧r=fR {f with veh:=f.veh++ [v]} 501 502 503 504):=by
 obtain⟨key,cl⟩:=v
 dsimp only at hw hu
 have hW:=wds (W:= [M9,key,cl]) (by
  intro w h;simp only[List.mem_cons,List.not_mem_nil,or_false]at h;rcases h with rfl|rfl|rfl
  · exact QV
  · exact hw
  · exact hu) (by simp) (by simp)
 replace hW:ai Tryz.prog 71 [.d (.str (Lib.join [M9,key,cl] [32]))] kx (fun x r=>x= .tup [.d (.ro 1 3 (aW sF [] [M9,key,cl])),.d (.bool true)]∧r=kx):=hW
 have e:(jM ⟨key,cl⟩).map bJ= [M9,key,cl]:=rfl;rw[e];refine ae hT (C:= []) Tryz.func68 rfl Tryz.call68 rfl rfl rfl ?_;conv=>whnf
 repeat' (first|((first|refine dQ.look hW [(1000009,1000009)] rfl ⟨lr,trivial⟩ ⟨⟨_,rfl,rfl⟩,trivial⟩ rfl rfl rfl ?_|(refine aa ?_ ?_<;>intro hb<;>try simp only[az]at hb)|refine aq hT 8 np ?_|refine aq hT 11 kJ ?_|refine aq hT 14 lk ?_|refine aq hT 17 lf ?_|refine aq hT 23 oJZdA68_23 ?_|omega|refine aA ?_|decide|assumption)<;>conv=>whnf))
 refine .ent _ (aI [(4,.d (.int .i64 3))] (fR {f with veh:=f.veh++ [⟨key,cl⟩]} 501 502 503 504)) (by(refine af [(1000009,1000009),(1000005,1000005),(501,1000001),(502,1000002),(503,101),(504,1000004)] rfl rfl ?_ ?_<;>repeat' (first|exact True.intro|exact lr|exact rr|(exact aG rfl)|exact ap (by omega)|exact a7 _|refine And.intro ?_ ?_));done) ?_;refine .ret _ ?_;conv=>whnf
 exact⟨fR _ 501 502 503 504,⟨rfl,rfl⟩,rr,rr,rr,rr,rr,rr,trivial⟩
abbrev gR (s:lR×Int)(a b c d:Nat):List (Nat×aY):= [(1000009,KX),(1000005,.cells 31 [.buf a,.buf b,.buf c,.buf d]),(1000006,.cells 3 [.d (.int .i64 s.2)]),(a,aL 99 15 sG o9 s.1.sta),(b,aL 160 2 rq bB s.1.cls),(c,aL 65 2 wy bD s.1.veh),(d,aL 163 3 BL dp s.1.plt)]
theorem xH {line:List UInt8}{f f':lR}{k j:Int}(h:ai Tryz.prog 68 [.ptr 1000005 0,.d (.str line)] (fR f 1000001 1000002 1000003 1000004) (fun x r=>x= .d (.int .i64 k)∧r=fR f' 501 502 503 504))(hj:j≤k):
 ai Tryz.prog 67 [.d (.str line),.ptr 1000005 0,.ptr 1000006 0] (gR (f,j) 1000001 1000002 1000003 1000004) (fun x r=>x= .d (.bool true)∧r=gR (f',k) 501 502 503 504):=by
 refine ae hT (C:= []) Tryz.func67 rfl Tryz.call67 rfl rfl rfl ?_;conv=>whnf
 repeat' (first|((first|(refine cd h [(1000009,1000009),(1000005,1000005),(1000001,1000001),(1000002,1000002),(1000003,1000003),(1000004,1000004),(501,501),(502,502),(503,503),(504,504)] ?_;rintro x rout ⟨rfl,rfl⟩;refine⟨rfl,?_⟩)|(refine aa ?_ ?_<;>intro hb<;>try simp only[az]at hb)|omega|refine aA ?_|decide|assumption)<;>conv=>whnf))
 all_goals try(exfalso;omega)
 refine .ret _ ?_;conv=>whnf
 exact⟨gR (f',k) 501 502 503 504,⟨rfl,rfl⟩,rr,rr,rr,rr,rr,rr,rr,trivial⟩
def xa (l:List (List UInt8)):List UInt8:=(l.map (· ++ [10])).flatten
theorem zJ (x:List UInt8)(l:List (List UInt8)):xa (x::l)=x++10::xa l:=by simp[xa]
theorem Nc (ls:List (List UInt8))(hl:(xa ls).length≤2^20)(h10:∀x ∈ ls,(10:UInt8) ∉ x)(s:Nat→lR×Int)
 (hs:∀i,i<ls.length→ai Tryz.prog 67 [.d (.str (ls.getD i [])),.ptr 1000005 0,.ptr 1000006 0] (gR (s i) 1000001 1000002 1000003 1000004) (fun x r=>x= .d (.bool true)∧r=gR (s (i+1)) 501 502 503 504)):
 ai Tryz.prog 60 [.d (.str (xa ls)),.fn 67 [.ptr 1000005 0,.ptr 1000006 0]] (gR (s 0) 1000001 1000002 1000003 1000004) (fun x r=>x= .tup [.d (.int .i64 0),.d (.bool true)]∧r=gR (s ls.length) 601 602 603 604):=by
 have hdl:∀i,(xa (ls.drop i)).length≤2^20:=fun i=>by
  have e:xa ls=xa (ls.take i)++xa (ls.drop i):=by
   unfold xa;rw[←List.flatten_append,←List.map_append,List.take_append_drop]
  rw[e,List.length_append]at hl;omega
 have hn:ls.length≤2^20:=by
  have:∀l:List (List UInt8),l.length≤(xa l).length:=by
   intro l
   induction l with
   |nil=>simp
   |cons x r ih=>rw[zJ];simp only[List.length_append,List.length_cons];omega
  have:=this ls;omega
 refine ae hT (C:= []) Tryz.func60 rfl Tryz.call60 rfl rfl rfl ?_;conv=>whnf
 refine ah hT (C:= []) (ι:=Nat) (fun i=>i≤ls.length)
  (fun i=>aI [(0,.d (.str (xa (ls.drop i)))),(1,.fn 67 [.ptr 1000005 0,.ptr 1000006 0]),(6,.d (.int .i64 i))] (gR (s i) 601 602 603 604))
  (fun i=>ls.length - i) 0 (Nat.zero_le _) (by exact be [(1000009,1000009),(1000005,1000005),(1000006,1000006),(601,1000001),(602,1000002),(603,1000003),(604,1000004)]) ?_
 intro i hi;have hd:=hdl i;rcases Nat.lt_or_ge i ls.length with h|h
 · have e:xa (ls.drop i)=ls.getD i []++10::xa (ls.drop (i+1)):=by
    rw[List.drop_eq_getElem_cons h,zJ,List.getD_eq_getElem?_getD,List.getElem?_eq_getElem h];rfl
   have hc:=qq (b:=xa (ls.drop (i+1))) (h10 _ (ao (x:= []) h));have hC:=LV (ls.getD i []++10::xa (ls.drop (i+1))) [10] (by rw[←e];omega);rw[hc]at hC;have hS:=hs i h;have hne:decide (ls.getD i []++10::xa (ls.drop (i+1))= [])=false:=by simp
   rw[e];conv=>whnf
   repeat' (first|((first|refine dm hC rfl rfl rfl rfl ?_|(refine cd hS [(1000009,1000009),(1000005,1000005),(1000006,1000006),(1000001,601),(1000002,602),(1000003,603),(1000004,604),(501,701),(502,702),(503,703),(504,704)] ?_;rintro x rout ⟨rfl,rfl⟩;refine⟨rfl,?_⟩)|(refine aa ?_ ?_<;>intro hb<;>try simp only[az]at hb)|omega|refine aA ?_|decide|assumption)<;>conv=>whnf))
   all_goals try(exfalso;simp at hb;done)
   exact⟨i+1,by omega,by omega,(by exact be [(1000009,1000009),(1000005,1000005),(1000006,1000006),(601,701),(602,702),(603,703),(604,704)])⟩
 · have:i=ls.length:=by omega
   subst this;rw[List.drop_length];conv=>whnf
   repeat' (first|((first|(refine aa ?_ ?_<;>intro hb<;>try simp only[az]at hb)|omega|refine aA ?_|decide|assumption)<;>conv=>whnf))
   refine .ret _ ?_;conv=>whnf
   exact⟨gR (s ls.length) 601 602 603 604,⟨rfl,rfl⟩,rr,rr,rr,rr,rr,rr,rr,trivial⟩
theorem GT (key:List UInt8):Lib.join (oz key) [32]=jc key 7:=by
 unfold oz jc;simp only[gT,Lib.join_one];simp[PL,PR,GU,IB,List.replicate]
def pA (cls:List fB)(veh:List mF):List (List UInt8):= [Lib.join (oz [115,49]) [32],Lib.join (oz [115,50]) [32]]++cls.map (fun c=>Lib.join ((ir c).map bJ) [32])++veh.map fun c=>Lib.join ((jM c).map bJ) [32]
theorem Cd (cls:List fB)(veh:List mF):xa (pA cls veh)=uT ⟨nF,cls,veh,[]⟩:=by
 unfold pA uT xa rI bV;rw[GT,GT];simp only[List.map_append,List.flatten_append,List.map_map,List.map_cons,List.map_nil,List.flatten_cons,List.flatten_nil,List.append_nil];rfl
theorem C9 {i:Nat}(h:i<4):tw (nv.getD i bB).key∧(nv.getD i bB).key≠ [45]:=by
 have:∀i,i<4→((nv.getD i bB).key.all fun x=>decide (45≤x.toNat))=true∧(nv.getD i bB).key≠ []∧(nv.getD i bB).key.length≤40∧(nv.getD i bB).key≠ [45]:=by decide
 obtain⟨h1,h2,h3,h4⟩:=this i h;exact⟨⟨fun x hx=>by simpa using List.all_eq_true.1 h1 x hx,h2,h3⟩,h4⟩
theorem KZ {i:Nat}(h:i<3):tw (Cq.getD i []):=by
 have:∀i,i<3→((Cq.getD i []).all fun x=>decide (45≤x.toNat))=true∧(Cq.getD i [])≠ []∧(Cq.getD i []).length≤40:=by decide
 obtain⟨h1,h2,h3⟩:=this i h;exact⟨fun x hx=>by simpa using List.all_eq_true.1 h1 x hx,h2,h3⟩
theorem Fy {l:List fB}(h:mz 4 l){j:Nat}(hj:j<4):tw (l.getD j bB).key∧((l.getD j bB).up= []∨tw (l.getD j bB).up∧(l.getD j bB).up≠ [45]):=by
 obtain⟨h1,h2⟩:=h.2 j hj;refine⟨by rw[h1];exact(C9 hj).1,?_⟩;rcases h2 with e|⟨_,k,hk,e⟩
 · exact .inl e
 · rw[e];exact .inr (C9 (by omega))
theorem FO {l:List mF}(h:qc 3 l){j:Nat}(hj:j<3):tw (l.getD j bD).key∧tw (l.getD j bD).cls:=by
 obtain⟨h1,h2⟩:=h.2 j hj;refine⟨by rw[h1];exact KZ hj,?_⟩;rcases h2 with e|e<;>rw[e]<;>refine⟨?_,?_,?_⟩<;>decide
def ME (cls:List fB)(veh:List mF)(i:Nat):lR×Int:=(⟨nF.take i,cls.take (i - 2),veh.take (i - 6),[]⟩,if i≤2 then 1 else if i≤6 then 2 else 3)
theorem FJ {cls:List fB}{veh:List mF}(hc:mz 4 cls)(hv:qc 3 veh)(i:Nat)(hi:i<(pA cls veh).length):
 ai Tryz.prog 67 [.d (.str ((pA cls veh).getD i [])),.ptr 1000005 0,.ptr 1000006 0] (gR (ME cls veh i) 1000001 1000002 1000003 1000004) (fun x r=>x= .d (.bool true)∧r=gR (ME cls veh (i+1)) 501 502 503 504):=by
 have C:=fun j (hj:j<4)=>Fy hc hj
 have V:=fun j (hj:j<3)=>FO hv hj
 match cls,hc.1,veh,hv.1 with
 | [c0,c1,c2,c3],_,[v0,v1,v2],_=>
   have S1:tw [115,49]:=by refine⟨?_,?_,?_⟩<;>decide
   have S2:tw [115,50]:=by refine⟨?_,?_,?_⟩<;>decide
   have hi:i<9:=hi;rcases(show i=0∨i=1∨i=2∨i=3∨i=4∨i=5∨i=6∨i=7∨i=8 by omega)with rfl|rfl|rfl|rfl|rfl|rfl|rfl|rfl|rfl
   · exact xH (QZ ⟨[],[],[],[]⟩ (by simp) [115,49] S1) (by decide)
   · exact xH (QZ ⟨[⟨[115,49],fun _=>0⟩],[],[],[]⟩ (by simp) [115,50] S2) (by decide)
   · exact xH (Oi ⟨nF,[],[],[]⟩ (by simp) c0 (C 0 (by omega)).1 (C 0 (by omega)).2) (by decide)
   · exact xH (Oi ⟨nF,[c0],[],[]⟩ (by simp) c1 (C 1 (by omega)).1 (C 1 (by omega)).2) (by decide)
   · exact xH (Oi ⟨nF,[c0,c1],[],[]⟩ (by simp) c2 (C 2 (by omega)).1 (C 2 (by omega)).2) (by decide)
   · exact xH (Oi ⟨nF,[c0,c1,c2],[],[]⟩ (by simp) c3 (C 3 (by omega)).1 (C 3 (by omega)).2) (by decide)
   · exact xH (Qc ⟨nF,[c0,c1,c2,c3],[],[]⟩ (by simp) v0 (V 0 (by omega)).1 (V 0 (by omega)).2) (by decide)
   · exact xH (Qc ⟨nF,[c0,c1,c2,c3],[v0],[]⟩ (by simp) v1 (V 1 (by omega)).1 (V 1 (by omega)).2) (by decide)
   · exact xH (Qc ⟨nF,[c0,c1,c2,c3],[v0,v1],[]⟩ (by simp) v2 (V 2 (by omega)).1 (V 2 (by omega)).2) (by decide)
theorem zt {cls:List fB}{veh:List mF}(hc:mz 4 cls)(hv:qc 3 veh):(uT ⟨nF,cls,veh,[]⟩).length≤2000:=by
 have h1:=oy (pf:=ir) cls (fun p hp=>wD (xm hc p hp));have h2:=oy (pf:=jM) veh (fun p hp=>xB (Fr hv p hp));rw[hc.1]at h1;rw[hv.1]at h2;unfold uT;simp only[List.length_append,xO];omega
theorem G7 {cls:List fB}{veh:List mF}(hc:mz 4 cls)(hv:qc 3 veh):∀x ∈ pA cls veh,(10:UInt8) ∉ x:=fun x hx=>by
 have key:∀W:List (List UInt8),(∀w ∈ W,tw w)→(10:UInt8) ∉ Lib.join W [32]:=fun W hW=>rQ (by decide) (FK hW 10 (by decide))
 have S1:tw [115,49]:=by refine⟨?_,?_,?_⟩<;>decide
 have S2:tw [115,50]:=by refine⟨?_,?_,?_⟩<;>decide
 simp only[pA,List.mem_append,List.mem_cons,List.not_mem_nil,or_false,List.mem_map]at hx;rcases hx with((rfl|rfl)|⟨c,hm,rfl⟩)|⟨c,hm,rfl⟩
 · refine key _ fun w h=> ?_
   simp only[oz,List.mem_cons,List.not_mem_nil,or_false]at h;rcases h with rfl|rfl|rfl|rfl|rfl|rfl|rfl|rfl|rfl<;>first|exact PE|exact OC|exact S1
 · refine key _ fun w h=> ?_
   simp only[oz,List.mem_cons,List.not_mem_nil,or_false]at h;rcases h with rfl|rfl|rfl|rfl|rfl|rfl|rfl|rfl|rfl<;>first|exact PE|exact OC|exact S2
 · obtain⟨j,hj,rfl⟩:=a8 (d:=bB) hm;obtain⟨h1,h2⟩:=Fy hc (j:=j) (by have:=hc.1;omega);refine key _ fun w h=> ?_
   simp only[ir,List.map_cons,List.map_nil,bJ,List.mem_cons,List.not_mem_nil,or_false]at h;rcases h with rfl|rfl|rfl
   · exact Ox
   · exact h1
   · unfold zw;rcases h2 with e|e
     · rw[e];refine⟨?_,?_,?_⟩<;>decide
     · rw[decide_eq_false e.1.2.1];exact e.1
 · obtain⟨j,hj,rfl⟩:=a8 (d:=bD) hm;obtain⟨h1,h2⟩:=FO hv (j:=j) (by have:=hv.1;omega);refine key _ fun w h=> ?_
   simp only[jM,List.map_cons,List.map_nil,bJ,List.mem_cons,List.not_mem_nil,or_false]at h;rcases h with rfl|rfl|rfl
   · exact QV
   · exact h1
   · exact h2
theorem NM (cls:List fB)(veh:List mF)(hc:mz 4 cls)(hv:qc 3 veh):
 ai Tryz.prog 60 [.d (.str (uT ⟨nF,cls,veh,[]⟩)),.fn 67 [.ptr 1000005 0,.ptr 1000006 0]] [(1000005,.cells 31 [.d .nilsl,.d .nilsl,.d .nilsl,.d .nilsl]),(1000006,.cells 3 [.d (.int .i64 1)]),(1000009,KX)]
  (fun x r=>x= .tup [.d (.int .i64 0),.d (.bool true)]∧r=gR (ME cls veh 9) 601 602 603 604):=by
 have hlen:(pA cls veh).length=9:=by
  unfold pA;simp only[List.length_append,List.length_map,List.length_cons,List.length_nil,hc.1,hv.1]
 have h:=Nc (pA cls veh) (by rw[Cd];have:=zt hc hv;omega) (G7 hc hv) (ME cls veh) (FJ hc hv);rw[Cd,hlen]at h;have e0:gR (ME cls veh 0) 1000001 1000002 1000003 1000004= [(1000009,KX),(1000005,.cells 31 [.buf 1000001,.buf 1000002,.buf 1000003,.buf 1000004]),(1000006,.cells 3 [.d (.int .i64 1)]),(1000001,aL 99 15 sG o9 []),(1000002,aL 160 2 rq bB []),(1000003,aL 65 2 wy bD []),(1000004,aL 163 3 BL dp [])]:=rfl;rw[e0]at h
 have h4:ai Tryz.prog 60 [.d (.str (uT ⟨nF,cls,veh,[]⟩)),.fn 67 [.ptr 1000005 0,.ptr 1000006 0]] [(1000005,.cells 31 [.buf 1000001,.buf 1000002,.buf 1000003,.buf 1000004]),(1000004,aL 163 3 BL dp []),(1000003,aL 65 2 wy bD []),(1000002,aL 160 2 rq bB []),(1000001,aL 99 15 sG o9 []),(1000006,.cells 3 [.d (.int .i64 1)]),(1000009,KX)] _:=GS h (by
  funext d
  by_cases q0:d=1000009
  · subst q0;rfl
  by_cases q1:d=1000005
  · subst q1;rfl
  by_cases q2:d=1000006
  · subst q2;rfl
  by_cases q3:d=1000001
  · subst q3;rfl
  by_cases q4:d=1000002
  · subst q4;rfl
  by_cases q5:d=1000003
  · subst q5;rfl
  by_cases q6:d=1000004
  · subst q6;rfl
  simp[aC,ax q0,ax q1,ax q2,ax q3,ax q4,ax q5,ax q6])
 have h3:=ey (c:=1000005) (d:=1000004) (e:=163) (k:=3) (j:=3) (ce:=31) (l:= [.buf 1000001,.buf 1000002,.buf 1000003,.d .nilsl]) (g:=aW BL dp []) h4 (by decide) rfl rfl rfl;have h2:=ey (c:=1000005) (d:=1000003) (e:=65) (k:=2) (j:=2) (ce:=31) (l:= [.buf 1000001,.buf 1000002,.d .nilsl,.d .nilsl]) (g:=aW wy bD []) h3 (by decide) rfl rfl rfl;have h1:=ey (c:=1000005) (d:=1000002) (e:=160) (k:=2) (j:=1) (ce:=31) (l:= [.buf 1000001,.d .nilsl,.d .nilsl,.d .nilsl]) (g:=aW rq bB []) h2 (by decide) rfl rfl rfl;exact ey (c:=1000005) (d:=1000001) (e:=99) (k:=15) (j:=0) (ce:=31) (l:= [.d .nilsl,.d .nilsl,.d .nilsl,.d .nilsl]) (g:=aW sG o9 []) h1 (by decide) rfl rfl rfl
set_option maxHeartbeats 4000000 in
theorem OJ (f:lR)(hR:Kw f)(hE:lN f=0)(hk:vn f):ai Tryz.prog 21 [.d (.str (uT f))] kx (fun x r=>x= .tup [flt f,.d (.int .i64 0),.d (.int .i64 0)]∧r=kx):=by
 have hf:=Lc f hk;rw[hE]at hf;obtain⟨sta,cls,veh,plt⟩:=f;obtain⟨r1,r2,r3,r4⟩:=hR
 dsimp only at r1 r2 r3 r4
 subst r1 r4;have hL:=NM cls veh r2 r3;have hlen:=zt r2 r3
 have e9:ME cls veh 9=(⟨nF,cls,veh,[]⟩,3):=by
  have a1:cls.take 7=cls:=List.take_of_length_le (by have:=r2.1;omega);have a2:veh.take 3=veh:=List.take_of_length_le (by have:=r3.1;omega);show((⟨nF.take 9,cls.take 7,veh.take 3,[]⟩:lR),(3:Int))=_;rw[a1,a2];rfl
 rw[e9]at hL;generalize hT0:uT ⟨nF,cls,veh,[]⟩=T at hL hlen ⊢;have hb0:decide ((200000:Int)<T.length)=false:=by simp;omega
 refine ae hT (C:= []) Tryz.func21 rfl Tryz.call21 rfl rfl rfl ?_;conv=>whnf
 repeat' (first|((first|(refine cd hL [(1000005,5),(1000006,6),(1000009,1000009),(601,601),(602,602),(603,603),(604,604)] ?_;rintro x rout ⟨rfl,rfl⟩;refine⟨rfl,?_⟩)|(refine dQ.freeze _ _ _ _ 601 99 15 _ _ rfl rfl ?_;refine dQ.freeze _ _ _ _ 602 160 2 _ _ rfl rfl ?_;refine dQ.freeze _ _ _ _ 603 65 2 _ _ rfl rfl ?_;refine dQ.freeze _ _ _ _ 604 163 3 _ _ rfl rfl ?_;refine qJ hf ?_)|(refine aa ?_ ?_<;>intro hb<;>try simp only[az]at hb)|omega|refine aA ?_|decide|assumption)<;>conv=>whnf))
 refine .ent _ _ (cy 2 601 15 _ 0 _ rfl rfl rfl) (.ent _ _ (cy 2 602 2 _ 1 _ rfl rfl rfl) (.ent _ _ (cy 2 603 2 _ 2 _ rfl rfl rfl) (.ent _ _ (cy 2 604 3 _ 3 _ rfl rfl rfl) (.ret _ ?_))));conv=>whnf
 refine⟨kx,⟨congrArg SV.tup ?_,rfl⟩,rr,trivial⟩;repeat' (refine aN ?_ ?_)
 all_goals (conv=>lhs;whnf)
 all_goals rfl
def tB (l:List ip)(i:Nat):Int:=if ¬ (1≤(l.getD i kr).kind∧(l.getD i kr).kind≤6)then 4 else if aE (l.getD i kr).key=false then 5 else if ¬ (-1000000000≤(l.getD i kr).cents∧(l.getD i kr).cents≤1000000000)then 1 else 0
def eF (l:List ip):Int:=if 1000<l.length then 2 else bf (tB l) l.length
theorem QY (l:List ip)(hk:l.length≤2^40∧∀x ∈ l,x.key.length≤2^40):ai Tryz.prog 13 [.d (kV l)] [] (fun x r=>x= .d (.int .i64 (eF l))∧r= []):=by
 have hkl:=hk.1;refine ae hT (C:= []) Tryz.func13 rfl Tryz.call13 rfl rfl rfl ?_;conv=>whnf
 refine aa (fun h0=> ?_) (fun h0=> ?_)
 · simp at h0;conv=>whnf
   refine .ret _ ?_;conv=>whnf
   refine⟨[],⟨?_,rfl⟩,trivial⟩;conv=>lhs;whnf
   unfold eF;rw[if_pos (by omega)]
 simp at h0;conv=>whnf
 refine ah hT (C:= []) (ι:=Nat) (fun i=>i≤l.length∧∀j,j<i→tB l j=0) (fun i=>aI [(8,.d (kV l)),(9,.d (.int .i64 l.length)),(10,.d (.int .i64 i))] []) (fun i=>l.length - i) 0 ⟨by omega,by omega⟩ (by exact be []) ?_;rintro i ⟨p1,p2⟩;have hx:(i:Int)<l.length→(l.getD (i:Int).toNat kr).key.length≤2^40:=fun hi=>hk.2 _ (ao (by omega))
 have e1:(i:Int).toNat=i:=Int.toNat_natCast i
 have hbad:∀e:Int,i<l.length→e≠0→tB l i=e→eF l=e:=fun e h h1 h2=>by
  unfold eF;rw[if_neg (by omega)];exact aX h p2 h1 h2
 conv=>whnf
 repeat' (first|(refine ac (iR _ (hx (by omega))) rfl rfl ?_;rotate_right;conv=>whnf)|(refine ac (ix _ _ _) rfl rfl ?_;rotate_right;conv=>whnf)|((first|(refine aa ?_ ?_<;>intro hb<;>try simp only[az]at hb)|omega|refine aA ?_|decide|assumption)<;>conv=>whnf))
 all_goals first
  |(refine⟨i+1,⟨by omega,aU p2 (by clear p2 hbad hk hx;simp only[e1]at*;unfold tB;grind)⟩,by omega,(by exact be [])⟩)
  | (refine .ret _ ?_
     conv=>whnf
     refine⟨[],⟨?_,rfl⟩,trivial⟩;conv=>lhs;whnf
     congr 2
     first
      |exact(hbad _ (by omega) (by decide) (by clear p2 hbad hk hx;simp only[e1]at*;unfold tB;grind)).symm
      | (have:i=l.length:=by omega
         subst this
         unfold eF;rw[if_neg (by omega),aF p2]))
def dl (l:List ip):Int:=(l.map (·.cents)).sum
theorem DQ {l:List ip}{i:Nat}(h:i<l.length):dl (l.take (i+1))=dl (l.take i)+(l.getD i kr).cents:=by
 rw[fD (d:=kr) h];simp[dl]
theorem HL {M:Int}{l:List ip}(hl:∀c ∈ l,-M≤c.cents∧c.cents≤M): -(M*l.length)≤dl l∧dl l≤M*l.length:=by
 induction l with
 |nil=>simp[dl]
 | cons x l ih=>
   have h1:=hl x List.mem_cons_self;have h2:=ih (fun y hy=>hl y (List.mem_cons_of_mem _ hy));simp only[dl,List.map_cons,List.sum_cons,List.length_cons]at h2 ⊢;rw[show((l.length+1:Nat):Int)=(l.length:Int)+1 by push_cast;rfl,Int.mul_add,Int.mul_one];omega
theorem Ps (M:Int)(hM:0≤M∧M≤2^40)(l:List ip)(hn:l.length≤1000)(hl:∀c ∈ l,-M≤c.cents∧c.cents≤M):ai Tryz.prog 101 [.d (kV l)] [] (fun x r=>x= .d (.int .i64 (dl l))∧r= []):=by
 have hsm:∀i,i≤l.length→-2^51≤dl (l.take i)∧dl (l.take i)≤2^51:=fun i hi=>by
  have h1:=HL (l:=l.take i) (fun x hx=>hl x (List.mem_of_mem_take hx));rw[List.length_take,Nat.min_eq_left hi]at h1;have h2:M*i≤2^40*1000:=Int.mul_le_mul hM.2 (by omega) (by omega) (by omega);omega
 refine ae hT (C:= []) Tryz.func101 rfl Tryz.call101 rfl rfl rfl ?_;conv=>whnf
 repeat' (first|((first|(refine aa ?_ ?_<;>intro hb<;>try simp only[az]at hb)|omega|refine aA ?_|decide|assumption)<;>conv=>whnf))
 refine ah hT (C:= []) (ι:=Nat) (fun i=>i≤l.length) (fun i=>aI [(3,.d (.int .i64 (dl (l.take i)))),(6,.d (kV l)),(7,.d (.int .i64 l.length)),(8,.d (.int .i64 i))] []) (fun i=>l.length - i) 0 (by omega) (by exact be []) ?_;rintro i p1;have e1:(i:Int).toNat=i:=Int.toNat_natCast i;have nM:=hsm i p1;have hg:(i:Int)<l.length→-M≤(l.getD (i:Int).toNat kr).cents∧(l.getD (i:Int).toNat kr).cents≤M:=fun h=>hl _ (ao (by omega))
 conv=>whnf
 repeat' (first|((first|(refine aa ?_ ?_<;>intro hb<;>try simp only[az]at hb)|omega|refine aA ?_|decide|assumption)<;>conv=>whnf))
 · refine⟨i+1,by omega,by omega,af [] rfl rfl ⟨ap ?_,lr,lr,lr,trivial⟩ trivial⟩;rw[DQ (by omega),e1]
 · have:i=l.length:=by omega
   subst this;rw[List.take_length];refine .ret _ ?_;conv=>whnf
   refine⟨[],⟨?_,rfl⟩,trivial⟩;conv=>lhs;whnf
def dH (a i:Int):Int:=a+i*1440
def lL (a b i:Int):Int:=min (dH a (i+1)) b
def Qi (l:List fg)(c:List UInt8)(d:Int):Int:=jP (fun i=>(l.getD i aV).cls==c&&(decide ((l.getD i aV).frm≤d)&&decide (d≤(l.getD i aV).to - 1))) l.length
structure pR where
 rt:List fg
 a:Int
 b:Int
 se:List Int
def ju (l:List fg)(c:List UInt8)(a:Int)(n:Nat):List Int:=(List.range n).map fun i:Nat=>Qi l c ((dH a (i:Int)).tdiv 1440)
def ff (l:List fg)(c:List UInt8)(a b:Int):pR:=⟨l,a,b,ju l c a (da a b).toNat⟩
def Mz (t:Int):Int:=t - t.tmod 10080 - 4320+720
def ND (t:Int):Int:=t - t.tmod 10080+5760+720
def JV (t:Int):Int:=if Mz t≤t∧t≤Mz t+4320 - 1 then Mz t+4320 else if ND t≤t∧t≤ND t+4320 - 1 then ND t+4320 else -1
def nA (h:pR)(k f m:Int)(r:fg):Int×Bool:=
 let left:=(h.se.length:Int) - f
 if k=1 then(r.hr,decide (m=1)&&decide (left=1))
 else if k=2 then(r.dy,decide (m=1))
 else if k=3 then(r.we,decide (0≤JV (dH h.a f))&&decide (lL h.a h.b (f+m - 1)≤JV (dH h.a f)))
 else if k=4 then(r.wk,decide (m=min 7 left)&&((h.se.drop f.toNat).take m.toNat).all fun s=>decide (s=h.se.getD f.toNat 0))
 else(-1,decide (m=1))
def wQ (h:pR)(k f p:Int):Int:=if k=1 then p*(lL h.a h.b f - dH h.a f+59).tdiv 60 else p
def ow (h:pR)(k f m:Int):Int×Bool:=
 if m<1∨(h.se.length:Int) - f<m∨(-1:Int) ∈ (h.se.drop f.toNat).take m.toNat then(0,false)
 else
  let q:=nA h k f m (h.rt.getD (h.se.getD f.toNat 0).toNat aV)
  if q.2=false∨q.1<0 then(0,false)else(wQ h k f q.1,true)
structure qu where
 cost:Int
 pcs:Int
 kind:Int
 days:Int
 cents:Int
 fine:Bool
deriving DecidableEq
def Ph (d:qu):List DV:= [.int .i64 d.cost,.int .i64 d.pcs,.int .i64 d.kind,.int .i64 d.days,.int .i64 d.cents,.bool d.fine]
def eL:qu:=⟨0,0,0,0,0,false⟩
def Ns (h:pR)(i:Nat)(k m:Int)(B:List qu):List qu:=
 let q:=ow h k i m
 let r:=B.getD (i+m.toNat) eL
 if q.2=false∨r.fine=false then B
 else if(B.getD i eL).fine=false∨q.1+r.cost<(B.getD i eL).cost∨(q.1+r.cost=(B.getD i eL).cost∧1+r.pcs<(B.getD i eL).pcs)then B.set i ⟨q.1+r.cost,1+r.pcs,k,m,q.1,true⟩
 else B
def MD (h:pR)(i:Nat)(k:Int):Nat→List qu→List qu
 |0,B=>B
 |m+1,B=>Ns h i k ((m+1:Nat):Int) (MD h i k m B)
def LP (h:pR)(i:Nat):Nat:=min 7 (h.se.length - i)
def LB (h:pR)(i:Nat):Nat→List qu→List qu
 |0,B=>B
 |k+1,B=>MD h i ((k+1:Nat):Int) (LP h i) (LB h i k B)
def uw (n:Nat):List qu:=(List.replicate (n+1) eL).set n {eL with fine:=true}
def JL (h:pR):Nat→List qu
 |0=>uw h.se.length
 |j+1=>LB h (h.se.length - 1 - j) 4 (JL h j)
def ES (h:pR):List qu:=JL h h.se.length
structure HJ (h:pR)(B:List qu):Prop where
 len:B.length=h.se.length+1
 bd:∀j,j≤h.se.length→(0≤(B.getD j eL).cost∧(B.getD j eL).cost≤24000000*((h.se.length - j:Nat):Int))∧(0≤(B.getD j eL).pcs∧(B.getD j eL).pcs≤((h.se.length - j:Nat):Int))∧
  (0≤(B.getD j eL).cents∧(B.getD j eL).cents≤24000000)∧(0≤(B.getD j eL).kind∧(B.getD j eL).kind≤4)
 stp:∀j,j<h.se.length→(B.getD j eL).fine=true→1≤(B.getD j eL).kind∧1≤(B.getD j eL).days∧(j:Int)+(B.getD j eL).days≤h.se.length∧(B.getD (j+(B.getD j eL).days.toNat) eL).fine=true
theorem fj {α:Type}(l:List α)(i j:Nat)(x d:α)(hi:i<l.length):(l.set i x).getD j d=if j=i then x else l.getD j d:=by
 simp only[List.getD_eq_getElem?_getD,List.getElem?_set]
 by_cases e:i=j
 · subst e;simp[hi]
 · rw[if_neg e,if_neg (fun c=>e c.symm)]
theorem LD (h:pR):HJ h (uw h.se.length):=by
 have hg:∀j,(uw h.se.length).getD j eL=if j=h.se.length then{eL with fine:=true}else eL:=fun j=>by
  unfold uw;rw[fj _ _ _ _ _ (by simp)];split
  · rfl
  · simp only[List.getD_eq_getElem?_getD,List.getElem?_replicate];split<;>rfl
 refine⟨by simp[uw],fun j hj=> ?_,fun j hj hf=> ?_⟩
 · rw[hg];split<;>simp[eL]<;>omega
 · rw[hg,if_neg (by omega)]at hf;exact absurd hf (by simp[eL])
structure qR (h:pR):Prop where
 n:h.se.length≤120
 ab:0≤h.a∧h.a<h.b∧h.b≤5761439
 lst:h.a+((h.se.length:Int) - 1)*1440<h.b
 rt:∀x ∈ h.rt,nums x
 sx:∀s ∈ h.se,-1≤s∧s<h.rt.length
theorem Fv {x:Int}(h0:0≤x):x.tdiv 60=x/60:=Int.tdiv_eq_ediv_of_nonneg h0
theorem CF {h:pR}(ok:qR h){k f m:Int}(hf:0≤f):(0≤(ow h k f m).1∧(ow h k f m).1≤24000000)∧((ow h k f m).2=true→1≤m∧f+m≤h.se.length):=by
 unfold ow;split
 · exact⟨by simp,by simp⟩
 · rename_i c
   dsimp only
   split
   · exact⟨by simp,by simp⟩
   · rename_i c2;refine⟨?_,fun _=>by omega⟩;have hm:1≤m∧f+m≤h.se.length:=by omega
     have hlt:f.toNat<h.se.length:=by omega
     have hs:=ok.sx _ (ao (x:=(0:Int)) hlt)
     have hne:h.se.getD f.toNat 0≠-1:=fun q=>c (Or.inr (Or.inr (by
      rw[←q]
      have e:(h.se.drop f.toNat).take m.toNat=h.se.getD f.toNat 0::((h.se.drop (f.toNat+1)).take (m.toNat - 1)):=by
       rw[List.drop_eq_getElem_cons hlt];obtain⟨mm,hmm⟩:∃mm,m.toNat=mm+1:=⟨m.toNat - 1,by omega⟩;rw[hmm,List.take_succ_cons,List.getD_eq_getElem?_getD,List.getElem?_eq_getElem hlt];rfl
      rw[e];exact List.mem_cons_self)))
     have hr:=ok.rt _ (ao (x:=aV) (show(h.se.getD f.toNat 0).toNat<h.rt.length by omega));obtain⟨r1,r2,r3,r4⟩:=hr;generalize h.rt.getD (h.se.getD f.toNat 0).toNat aV=r at*
     have hp:(nA h k f m r).1≤1000000:=by
      unfold nA;unfold rp at r1 r2 r3 r4;repeat' split
      all_goals dsimp only
      all_goals omega
     have hq:0≤(nA h k f m r).1:=by
      have:=c2;omega
     generalize (nA h k f m r).1=p at hp hq;show 0≤wQ h k f p∧wQ h k f p≤24000000;unfold wQ;split
     · have hlast:=ok.lst;have hab:=ok.ab
       have h1:dH h.a f<h.b:=by
        unfold dH;have:f≤(h.se.length:Int) - 1:=by omega
        omega
       have h2:0≤lL h.a h.b f - dH h.a f∧lL h.a h.b f - dH h.a f≤1440:=by
        unfold lL;have:dH h.a (f+1)=dH h.a f+1440:=by unfold dH;omega
        omega
       rw[Fv (by omega)];have h3:0≤(lL h.a h.b f - dH h.a f+59)/60∧(lL h.a h.b f - dH h.a f+59)/60≤24:=by omega
       generalize (lL h.a h.b f - dH h.a f+59)/60=u at h3
       exact⟨Int.mul_nonneg hq h3.1,by
        have:=Int.mul_le_mul hp h3.2 h3.1 (by omega)
        omega⟩
     · omega
theorem NW {h:pR}(ok:qR h){i:Nat}(hi:i<h.se.length){k m:Int}(hk:1≤k∧k≤4){B:List qu}(hB:HJ h B):HJ h (Ns h i k m B):=by
 unfold Ns
 dsimp only
 split
 · exact hB
 · rename_i c;split
   · obtain⟨⟨p1,p2⟩,p3⟩:=CF ok (k:=k) (f:=(i:Int)) (m:=m) (by omega);have hq:(ow h k i m).2=true:=by cases e:(ow h k i m).2 with|true=>rfl|false=>exact absurd (Or.inl e) c
     have hr:(B.getD (i+m.toNat) eL).fine=true:=by cases e:(B.getD (i+m.toNat) eL).fine with|true=>rfl|false=>exact absurd (Or.inr e) c
     have p3:=p3 hq;have hl:=hB.len;obtain⟨⟨b1,b2⟩,⟨b3,b4⟩,_,_⟩:=hB.bd (i+m.toNat) (by omega);refine⟨by rw[List.length_set];exact hl,fun j hj=> ?_,fun j hj hf=> ?_⟩
     · rw[fj _ _ _ _ _ (by omega)];split
       · rename_i e;subst e;refine⟨⟨by show 0≤_+_;omega,?_⟩,⟨by show 0≤1+_;omega,by show 1+_≤_;omega⟩,⟨p1,p2⟩,by show 0≤k;omega,hk.2⟩;show(ow h k j m).1+(B.getD (j+m.toNat) eL).cost≤_;have:((h.se.length - (j+m.toNat):Nat):Int)+1≤((h.se.length - j:Nat):Int):=by omega
         omega
       · exact hB.bd j hj
     · rw[fj _ _ _ _ _ (by omega)]at hf ⊢
       by_cases e:j=i
       · subst e;rw[if_pos rfl]at hf ⊢;refine⟨hk.1,p3.1,p3.2,?_⟩;show((B.set j _).getD (j+m.toNat) eL).fine=true;rw[fj _ _ _ _ _ (by omega),if_neg (by omega)];exact hr
       · rw[if_neg e]at hf ⊢;obtain⟨s1,s2,s3,s4⟩:=hB.stp j hj hf;refine⟨s1,s2,s3,?_⟩;rw[fj _ _ _ _ _ (by omega)];split
         · rfl
         · exact s4
   · exact hB
theorem Hc {h:pR}(ok:qR h){i:Nat}(hi:i<h.se.length){k:Int}(hk:1≤k∧k≤4){B:List qu}(hB:HJ h B):∀m,HJ h (MD h i k m B)
 |0=>hB
 |m+1=>NW ok hi hk (Hc ok hi hk hB m)
theorem F3 {h:pR}(ok:qR h){i:Nat}(hi:i<h.se.length){B:List qu}(hB:HJ h B):∀k,k≤4→HJ h (LB h i k B)
 |0,_=>hB
 |k+1,hk=>Hc ok hi (by omega) (F3 ok hi hB k (by omega)) _
theorem CS {h:pR}(ok:qR h):∀j,j≤h.se.length→HJ h (JL h j)
 |0,_=>LD h
 |j+1,hj=>F3 ok (by omega) (CS ok j (by omega)) 4 (Nat.le_refl _)
def oT (B:List qu):Nat→Nat→List qu
 |0,_=> []
 |n+1,i=>if i<B.length - 1 then B.getD i eL::oT B n (i+(B.getD i eL).days.toNat)else []
theorem IH {h:pR}{B:List qu}(hB:HJ h B):∀n i,i≤h.se.length→(B.getD i eL).fine=true→(oT B n i).length≤h.se.length - i∧∀x ∈ oT B n i,(0≤x.cents∧x.cents≤24000000)∧1≤x.kind∧x.kind≤4:=by
 intro n
 induction n with
 |zero=>intro i _ _;exact⟨by simp[oT],by simp[oT]⟩
 | succ n ih=>
   intro i hi hf;unfold oT;split
   · rename_i c;have hl:=hB.len;obtain⟨s1,s2,s3,s4⟩:=hB.stp i (by omega) hf;obtain⟨h1,h2⟩:=ih (i+(B.getD i eL).days.toNat) (by omega) s4;obtain⟨_,_,b3,b4⟩:=hB.bd i hi;refine⟨by rw[List.length_cons];omega,fun x hx=> ?_⟩;rcases List.mem_cons.1 hx with q|q
     · subst q;exact⟨b3,s1,b4.2⟩
     · exact h2 x q
   · exact⟨by simp,by simp⟩
def HQ (k:Int):List UInt8:=if k=1 then [104,111,117,114,115]else if k=2 then [100,97,121]else if k=3 then [119,101,101,107,101,110,100]else if k=4 then [119,101,101,107]else []
def nX (d:qu):ip:=⟨1,HQ d.kind,d.cents⟩
def Ac (t:lH)(L:List ip):Int:=(L.map fun x=>if x.kind ∈ t.on then x.cents else 0).sum
def nB (n:Int):Int:=if(n+500).tmod 1000<0 then(n+500).tdiv 1000 - 1 else(n+500).tdiv 1000
def fX (l:List lH)(L:List ip):Nat→List ip
 |0=> []
 |k+1=>fX l L k++ [⟨5,(l.getD k cg).key,nB ((Ac (l.getD k cg) L+if(l.getD k cg).over=true then dl (fX l L k)else 0)*(l.getD k cg).per)⟩]
theorem l9 (l:List lH)(L:List ip):∀k,(fX l L k).length=k
 |0=>rfl
 |k+1=>by rw[fX,List.length_append,l9 l L k];rfl
theorem pt (a b:List ip):dl (a++b)=dl a+dl b:=by unfold dl;simp
theorem GV {n:Int}(h:0≤n):0≤nB n∧1000*nB n≤n+500:=by
 unfold nB;rw[Int.tdiv_eq_ediv_of_nonneg (by omega)];have:0≤(n+500).tmod 1000:=Int.tmod_nonneg _ (by omega);rw[if_neg (by omega)];omega
theorem lT (t:lH):∀ {L:List ip},(∀x ∈ L,0≤x.cents)→0≤Ac t L∧Ac t L≤dl L
 | [],_=>by simp[Ac,dl]
 | x::L,h=>by
   have h1:=h x List.mem_cons_self;have h2:=lT t (fun y hy=>h y (List.mem_cons_of_mem _ hy));simp only[Ac,dl,List.map_cons,List.sum_cons]at h2 ⊢;split<;>omega
theorem Jl {l:List lH}{L:List ip}{b:Int}(hb:dl L+1≤b)(hL:∀x ∈ L,0≤x.cents)(ht:∀x ∈ l,0≤x.per∧x.per≤1000):∀k,k≤l.length→(∀x ∈ fX l L k,0≤x.cents)∧0≤dl (fX l L k)∧dl (fX l L k)+b≤2 ^ k*b:=by
 intro k
 induction k with
 |zero=>intro _;exact⟨by simp[fX],by simp[fX,dl],by simp[fX,dl]⟩
 | succ k ih=>
   intro hk;obtain⟨h1,h2,h3⟩:=ih (by omega);have ho:=lT (l.getD k cg) hL;have hp:=ht _ (ao (x:=cg) (show k<l.length by omega));obtain⟨m,hm⟩:∃m,m=Ac (l.getD k cg) L+(if(l.getD k cg).over=true then dl (fX l L k)else 0):=⟨_,rfl⟩;have hm1:0≤m∧m≤dl L+dl (fX l L k):=by rw[hm];split<;>omega
   have hmp:0≤m*(l.getD k cg).per∧m*(l.getD k cg).per≤m*1000:=⟨Int.mul_nonneg hm1.1 hp.1,Int.mul_le_mul_of_nonneg_left hp.2 hm1.1⟩;have hn:=GV hmp.1;have e:fX l L (k+1)=fX l L k++ [⟨5,(l.getD k cg).key,nB (m*(l.getD k cg).per)⟩]:=by rw[fX,hm]
   rw[e];refine⟨fun x hx=> ?_,?_,?_⟩
   · rcases List.mem_append.1 hx with q|q
     · exact h1 x q
     · rw[List.mem_singleton]at q;subst q;exact hn.1
   · rw[pt];show 0≤_+dl [_];simp only[dl,List.map_cons,List.map_nil,List.sum_cons,List.sum_nil]at h2 ⊢;omega
   · rw[pt,Int.pow_succ];have:dl [(⟨5,(l.getD k cg).key,nB (m*(l.getD k cg).per)⟩:ip)]=nB (m*(l.getD k cg).per):=by simp[dl]
     rw[this];have:(2:Int) ^ k*2*b=2*(2 ^ k*b):=by rw[Int.mul_comm ((2:Int) ^ k) 2,Int.mul_assoc]
     rw[this];generalize (2:Int) ^ k*b=y at*;omega
def pH (l:List Fe)(a b:List UInt8):Int:=jP (fun i=>(l.getD i uC).a==a&&(l.getD i uC).b==b) l.length
def p9 (t:rG)(P:List qu)(A B:List UInt8):List ip:=P.map nX++(if A=B then []else [⟨4,[111,110,101,119,97,121],(t.fe.getD (pH t.fe A B).toNat uC).cents⟩])
def xq (t:rG)(c:List UInt8)(a b:Int):List qu:=oT (ES (ff t.rat c a b)) (da a b).toNat 0
def wv (t:rG)(c:List UInt8)(a b:Int)(A B:List UInt8):List ip×Int:=
 if((ES (ff t.rat c a b)).getD 0 eL).fine=false then([],8)
 else if 1000000000<dl ((xq t c a b).map nX)then([],1)
 else if A≠B∧pH t.fe A B<0 then([],8)
 else(p9 t (xq t c a b) A B++fX t.tax (p9 t (xq t c a b) A B) t.tax.length,0)
def Bm:OL:= [(0,[]),(1,[0]),(2,[0]),(4,[0,1,2]),(5,[0,1,2]),(6,[0,1,2]),(3,[4,5,6]),(7,[]),(8,[])]
def ot:OL:= [(0,[]),(1,[]),(2,[0,1]),(3,[0,1,2]),(4,rg 4),(5,rg 5),(6,rg 4),(7,rg 4),(8,[0,1]),(9,[0,1]),(10,[]),(11,[]),(12,[])]
theorem O7 (l:List Int)(hl:l.length≤2^40)(v:Int):ai Tryz.prog 217 [.d (gr l),.d (.int .i64 v)] [] (fun x r=>x= .d (.int .i64 (jP (fun i=>decide (v=l.getD i 0)) l.length))∧r= []):=by
 refine ae hT (C:= []) Tryz.func217 rfl Tryz.call217 rfl rfl rfl ?_;conv=>whnf
 refine ah hT (C:= []) (ι:=Nat) (fun i=>i≤l.length∧∀j,j<i→decide (v=l.getD j 0)=false) (fun i=>aI [(0,.d (gr l)),(1,.d (.int .i64 v)),(7,.d (.int .i64 l.length)),(8,.d (.int .i64 i))] []) (fun i=>l.length - i) 0 ⟨by omega,by omega⟩ (by exact be []) ?_;rintro i ⟨p1,p2⟩;have e1:(i:Int).toNat=i:=Int.toNat_natCast i;conv=>whnf
 repeat' (first|((first|(refine aa ?_ ?_<;>intro hb<;>try simp only[az]at hb)|omega|refine aA ?_|decide|assumption)<;>conv=>whnf))
 · refine .ret _ ?_;conv=>whnf
   refine⟨[],⟨?_,rfl⟩,trivial⟩;conv=>lhs;whnf
   congr 2
   exact(gd (by omega) p2 (by simpa using hb)).symm
 · exact⟨i+1,⟨by omega,bw p2 (by simpa using hb)⟩,by omega,(by exact be [])⟩
 · refine .ret _ ?_;conv=>whnf
   refine⟨[],⟨?_,rfl⟩,trivial⟩;conv=>lhs;whnf
   congr 2
   have:i=l.length:=by omega
   subst this;exact(ew p2).symm
theorem KS (l:List Int)(v:Int):decide (0≤jP (fun i=>decide (v=l.getD i 0)) l.length)=decide (v ∈ l):=by
 rw[decide_eq_decide];constructor
 · intro h;have hb:=eP (p:=fun i=>decide (v=l.getD i 0)) (n:=l.length);have h2:=of_decide_eq_true (hb.2.2 h);rw[h2];exact ao (by omega)
 · intro h;obtain⟨j,hj,e⟩:=a8 (d:=(0:Int)) h;exact nj hj (decide_eq_true e.symm)
theorem Nf (l:List Int)(hl:l.length≤2^40)(v:Int):ai Tryz.prog 166 [.d (gr l),.d (.int .i64 v)] [] (fun x r=>x= .d (.bool (decide (v ∈ l)))∧r= []):=by
 refine ae hT (C:= []) Tryz.func166 rfl Tryz.call166 rfl rfl rfl ?_;conv=>whnf
 repeat' (first|(refine ac (O7 l hl v) rfl rfl ?_;rotate_right;conv=>whnf)|((first|(refine aa ?_ ?_<;>intro hb<;>try simp only[az]at hb)|omega|refine aA ?_|decide|assumption)<;>conv=>whnf))
 refine .ret _ ?_;conv=>whnf
 refine⟨[],⟨?_,rfl⟩,trivial⟩;conv=>lhs;whnf
 exact congrArg SV.d (congrArg DV.bool (KS l v))
abbrev Kc (c:List UInt8):aY:=.cells 9 [.d (.str c)]
abbrev J8 (d:Int):aY:=.cells 3 [.d (.int .i64 d)]
def Om (c:List UInt8)(d:Int)(x:fg):Bool:=x.cls==c&&(decide (x.frm≤d)&&decide (d≤x.to - 1))
theorem OR (x:fg)(hx: -2^40≤x.to∧x.to≤2^40)(c:List UInt8)(d:Int):ai Tryz.prog 255 [.agg ((ft x).map .d),.ptr 1000001 0,.ptr 1000002 0] [(1000001,Kc c),(1000002,J8 d)] (fun y r=>y= .d (.bool (Om c d x))∧r= [(1000001,Kc c),(1000002,J8 d)]):=by
 refine ae hT (C:= []) Tryz.func255 rfl Tryz.call255 rfl rfl rfl ?_;conv=>whnf
 repeat' (first|(refine ac (ix _ _ _) rfl rfl ?_;rotate_right;conv=>whnf)|((first|(refine aa ?_ ?_<;>intro hb<;>try simp only[az]at hb)|omega|refine aA ?_|decide|assumption)<;>conv=>whnf))
 all_goals
  refine .ret _ ?_;conv=>whnf
  refine⟨[(1000001,Kc c),(1000002,J8 d)],⟨?_,rfl⟩,rr,rr,trivial⟩;conv=>lhs;whnf
  congr 2
  unfold Om;simp_all
theorem OB (l:List fg)(hl:l.length≤2^40)(hx:∀x ∈ l,-2^40≤x.to∧x.to≤2^40)(c:List UInt8)(d:Int):ai Tryz.prog 254 [.d (fG l),.fn 255 [.ptr 1000001 0,.ptr 1000002 0]] [(1000001,Kc c),(1000002,J8 d)] (fun y r=>y= .d (.int .i64 (jP (fun i=>Om c d (l.getD i aV)) l.length))∧r= [(1000001,Kc c),(1000002,J8 d)]):=by
 refine ae hT (C:= []) Tryz.func254 rfl Tryz.call254 rfl rfl rfl ?_;conv=>whnf
 refine ah hT (C:= []) (ι:=Nat) (fun i=>i≤l.length∧∀j,j<i→Om c d (l.getD j aV)=false) (fun i=>aI [(0,.d (fG l)),(1,.fn 255 [.ptr 1000001 0,.ptr 1000002 0]),(7,.d (.int .i64 l.length)),(8,.d (.int .i64 i))] [(1000001,Kc c),(1000002,J8 d)]) (fun i=>l.length - i) 0 ⟨by omega,by omega⟩ (by exact be Oj) ?_;rintro i ⟨p1,p2⟩;have e1:(i:Int).toNat=i:=Int.toNat_natCast i;conv=>whnf
 repeat' (first|((first|(refine dQ.of (OR (l.getD (i:Int).toNat aV) (hx _ (ao (by omega))) c d) Oj rfl ⟨lr,lr,lr,trivial⟩ ⟨rr,rr,trivial⟩ rfl rfl ?_;rintro x rout ⟨rfl,rfl⟩;refine⟨rfl,?_⟩)|(refine aa ?_ ?_<;>intro hb<;>try simp only[az]at hb)|omega|refine aA ?_|decide|assumption)<;>conv=>whnf))
 · refine .ret _ ?_;conv=>whnf
   refine⟨[(1000001,Kc c),(1000002,J8 d)],⟨?_,rfl⟩,rr,rr,trivial⟩;conv=>lhs;whnf
   congr 2
   exact(gd (by omega) p2 (by simpa using hb)).symm
 · exact⟨i+1,⟨by omega,bw p2 (by simpa using hb)⟩,by omega,(by exact be Oj)⟩
 · refine .ret _ ?_;conv=>whnf
   refine⟨[(1000001,Kc c),(1000002,J8 d)],⟨?_,rfl⟩,rr,rr,trivial⟩;conv=>lhs;whnf
   congr 2
   have:i=l.length:=by omega
   subst this;exact(ew p2).symm
theorem Qh (l:List fg)(hl:l.length≤2^40)(hx:∀x ∈ l,-2^40≤x.to∧x.to≤2^40)(c:List UInt8)(d:Int):ai Tryz.prog 212 [.d (fG l),.d (.str c),.d (.int .i64 d)] [] (fun y r=>y= .d (.int .i64 (Qi l c d))∧r= []):=by
 refine ae hT (C:= []) Tryz.func212 rfl Tryz.call212 rfl rfl rfl ?_;conv=>whnf
 repeat' (first|((first|(refine cd (OB l hl hx c d) [(1000001,4),(1000002,5)] ?_;rintro x rout ⟨rfl,rfl⟩;refine⟨rfl,?_⟩)|(refine aa ?_ ?_<;>intro hb<;>try simp only[az]at hb)|omega|refine aA ?_|decide|assumption)<;>conv=>whnf))
 refine .ret _ ?_;conv=>whnf
 refine⟨[],⟨?_,rfl⟩,trivial⟩;conv=>lhs;whnf
 rfl
theorem LC (l:List fg)(a b:Int)(se:List Int)(i:Int)(ha:0≤a∧a≤5761439)(hi: -1≤i∧i≤2^20):ai Tryz.prog 213 [.agg [.d (fG l),.d (.int .i64 a),.d (.int .i64 b),.d (gr se)],.d (.int .i64 i)] [] (fun y r=>y= .d (.int .i64 (dH a i))∧r= []):=by
 refine ae hT (C:= []) Tryz.func213 rfl Tryz.call213 rfl rfl rfl ?_;conv=>whnf
 repeat' (first|((first|(refine aa ?_ ?_<;>intro hb<;>try simp only[az]at hb)|omega|refine aA ?_|decide|assumption)<;>conv=>whnf))
 refine .ret _ ?_;conv=>whnf
 refine⟨[],⟨?_,rfl⟩,trivial⟩;conv=>lhs;whnf
 rfl
theorem NI (l:List fg)(a b:Int)(se:List Int)(i:Int)(ha:0≤a∧a≤5761439)(hi: -1≤i∧i≤2^20):ai Tryz.prog 213 [.agg [.d (fG l),.d (.int .i64 a),.d (.int .i64 b),.buf 1000003],.d (.int .i64 i)] [(1000003,aL 3 1 iF 0 se)] (fun y r=>y= .d (.int .i64 (dH a i))∧r= [(1000003,aL 3 1 iF 0 se)]):=by
 have h1:=nQ (args:= [.agg [.d (fG l),.d (.int .i64 a),.d (.int .i64 b),.buf 1000003],.d (.int .i64 i)]) 1000003 3 1 se.length (aW iF 0 se) (LC l a b se i ha hi) rfl (fun c r q=>nomatch q) rfl
  (fun x r h=>by obtain⟨rfl,rfl⟩:=h;exact⟨rfl,fun c q e=>(nomatch e),rfl⟩)
 exact h1.mono (fun x r h=>by obtain⟨r0,⟨q,rfl⟩,rfl⟩:=h;exact⟨q,rfl⟩)
theorem N6 (l:List fg)(a b:Int)(se:List Int)(i:Int)(ha:0≤a∧a≤5761439)(hi: -1≤i∧i<2^20):ai Tryz.prog 257 [.agg [.d (fG l),.d (.int .i64 a),.d (.int .i64 b),.d (gr se)],.d (.int .i64 i)] [] (fun y r=>y= .d (.int .i64 (lL a b i))∧r= []):=by
 have hb1: -2^40≤dH a (i+1)∧dH a (i+1)≤2^40:=by unfold dH;omega
 refine ae hT (C:= []) Tryz.func257 rfl Tryz.call257 rfl rfl rfl ?_;conv=>whnf
 repeat' (first|(refine ac (LC l a b se (i+1) ha ⟨by omega,by omega⟩) rfl rfl ?_;rotate_right;conv=>whnf)|((first|(refine aa ?_ ?_<;>intro hb<;>try simp only[az]at hb)|refine aq hT 1 Bm ?_|omega|refine aA ?_|decide|assumption)<;>conv=>whnf))
 refine .ret _ ?_;conv=>whnf
 refine⟨[],⟨?_,rfl⟩,trivial⟩;conv=>lhs;whnf
 rfl
theorem Rj (t:Int)(ht:0≤t∧t≤2^30):0≤t.tmod 10080∧t.tmod 10080≤t:=⟨Int.tmod_nonneg _ ht.1,by rw[Int.tmod_eq_emod_of_nonneg ht.1];omega⟩
set_option maxHeartbeats 4000000 in
theorem O2 (t:Int)(ht:0≤t∧t≤2^30):ai Tryz.prog 256 [.d (.int .i64 t)] [] (fun y r=>y= .d (.int .i64 (JV t))∧r= []):=by
 have hm:=Rj t ht;have hmi:aS (t.tmod 10080):=by unfold aS;omega
 refine ae hT (C:= []) Tryz.func256 rfl Tryz.call256 rfl rfl rfl ?_;conv=>whnf
 repeat' (first|((first|refine And.intro hmi ?_|(refine aa ?_ ?_<;>intro hb<;>try simp only[az]at hb)|omega|refine aA ?_|decide|assumption)<;>conv=>whnf))
 refine bU hT (C:= []) (fun _ _ h=>h) (fun _ h=>h) ?_;conv=>whnf
 repeat' (first|(refine ac (ix _ _ _) rfl rfl ?_;rotate_right;conv=>whnf)|((first|(refine aa ?_ ?_<;>intro hb<;>try simp only[az]at hb)|omega|refine aA ?_|decide|assumption)<;>conv=>whnf))
 · refine .ret _ ?_;conv=>whnf
   refine⟨[],⟨?_,rfl⟩,trivial⟩;conv=>lhs;whnf
   unfold JV Mz;rw[if_pos (by omega)]
 refine bU hT (C:= []) (fun _ _ h=>h) (fun _ h=>h) ?_;conv=>whnf
 repeat' (first|(refine ac (ix _ _ _) rfl rfl ?_;rotate_right;conv=>whnf)|((first|(refine aa ?_ ?_<;>intro hb<;>try simp only[az]at hb)|omega|refine aA ?_|decide|assumption)<;>conv=>whnf))
 · refine .ret _ ?_;conv=>whnf
   refine⟨[],⟨?_,rfl⟩,trivial⟩;conv=>lhs;whnf
   unfold JV Mz ND;rw[if_neg (by omega),if_pos (by omega)]
 refine bU hT (C:= []) (fun _ _ h=>h) (fun _ h=>h) ?_;conv=>whnf
 repeat' (first|((first|(refine aa ?_ ?_<;>intro hb<;>try simp only[az]at hb)|omega|refine aA ?_|decide|assumption)<;>conv=>whnf))
 refine .ret _ ?_;conv=>whnf
 refine⟨[],⟨?_,rfl⟩,trivial⟩;conv=>lhs;whnf
 unfold JV Mz ND;rw[if_neg (by omega),if_neg (by omega)]
set_option maxHeartbeats 4000000 in
theorem PX (l:List fg)(hl:l.length≤2^40)(hx:∀x ∈ l,-2^40≤x.to∧x.to≤2^40)(c:List UInt8)(a b:Int)(hab:0≤a∧a<b∧b≤5761439)(hn:da a b≤120):
 ai Tryz.prog 162 [.d (fG l),.d (.str c),.agg [.d (.int .i64 a),.d (.int .i64 b)]] [] (fun y r=>y= .agg [.d (fG l),.d (.int .i64 a),.d (.int .i64 b),.d (gr (ju l c a (da a b).toNat))]∧r= []):=by
 have hd:1≤da a b:=by unfold da;rw[Int.tdiv_eq_ediv_of_nonneg (by omega)];omega
 have hdn:((da a b).toNat:Int)=da a b:=Int.toNat_of_nonneg (by omega);have c52:=K1 a b hab;rw[←hdn]at c52;obtain⟨n,hn2⟩:∃n,n=(da a b).toNat:=⟨_,rfl⟩;have hnb:n≤120:=by omega
 rw[←hn2]at c52 ⊢;refine ae hT (C:= []) Tryz.func162 rfl Tryz.call162 rfl rfl rfl ?_;conv=>whnf
 repeat' (first|(refine ac (c52) rfl rfl ?_;rotate_right;conv=>whnf)|((first|(refine aa ?_ ?_<;>intro hb<;>try simp only[az]at hb)|refine aq hT 5 ot ?_|omega|refine aA ?_|decide|assumption)<;>conv=>whnf))
 refine ah hT (C:= []) (ι:=Nat) (fun i=>i≤n) (fun i=>aI [(0,.d (fG l)),(1,.d (.str c)),(6,.ptr 6 0),(7,.ptr 7 0),(13,.d (.int .i64 n)),(14,.d (.int .i64 i))] [(6,.cells 260 [.d .nilsl,.d (.int .i64 0),.d (.int .i64 0),.d .nilsl]),(7,.cells 260 [.d (fG l),.d (.int .i64 a),.d (.int .i64 b),.buf 50]),(50,aL 3 1 iF 0 (ju l c a i))]) (fun i=>n - i) 0 (Nat.zero_le _) ?_ ?_
 · refine(dg 7 50 3 1 3 (aW iF 0 []) rfl rfl rfl (by decide) rfl).trans ?_;exact af [(6,6),(7,7),(50,50)] rfl rfl ⟨lr,lr,lr,lr,lr,lr,trivial⟩ ⟨rr,rr,rr,trivial⟩
 intro i pi;have e1:(i:Int).toNat=i:=Int.toNat_natCast i;have hbg:0≤dH a i∧dH a i≤2^40:=by unfold dH;omega
 have hbd:aS ((dH a i).tdiv 1440):=by unfold aS;rw[Int.tdiv_eq_ediv_of_nonneg hbg.1];omega
 have hrl:(ju l c a i).length=i:=by simp[ju]
 rcases Nat.lt_or_ge i n with hi|hi
 · have cb:=NI l a b (ju l c a i) i (by omega) (by omega);have cr:=Qh l hl hx c ((dH a i).tdiv 1440);conv=>whnf
   repeat' (first|(refine dQ.look cb [(1000003,50)] rfl ⟨lr,lr,trivial⟩ ⟨⟨_,rfl,rfl⟩,trivial⟩ rfl rfl rfl ?_;conv=>whnf)|(refine ac (cr) rfl rfl ?_;rotate_right;conv=>whnf)|((first|refine And.intro hbd ?_|(refine aa ?_ ?_<;>intro hb<;>try simp only[az]at hb)|refine aq hT 5 ot ?_|omega|refine aA ?_|decide|assumption)<;>conv=>whnf))
   all_goals try(exfalso;omega)
   have hs:ju l c a (i+1)=ju l c a i++ [Qi l c ((dH a i).tdiv 1440)]:=by simp[ju,List.range_succ]
   refine⟨i+1,by omega,by omega,af [(6,6),(7,7),(50,27)] rfl rfl ⟨lr,lr,lr,lr,lr,ap (by omega),trivial⟩ ⟨rr,rr,?_,trivial⟩⟩;rw[hs];exact aG rfl
 · have hin:i=n:=by omega
   rw[hin];conv=>whnf
   repeat' (first|((first|(refine aa ?_ ?_<;>intro hb<;>try simp only[az]at hb)|refine aq hT 5 ot ?_|omega|refine aA ?_|decide|assumption)<;>conv=>whnf))
   all_goals try(exfalso;omega)
   refine .freeze _ 50 3 1 _ _ rfl (.ent _ _ (cy 6 50 1 _ 3 _ rfl rfl rfl) (.weak _ ?_));conv=>whnf
   exact⟨.agg [.d (fG l),.d (.int .i64 a),.d (.int .i64 b),.d (gr (ju l c a n))],[],cM ⟨lr,lr,lr,lr,trivial⟩,⟨rfl,rfl⟩,trivial⟩
def fy:OL:= [(0,[]),(1,[]),(2,[0,1]),(3,[0,1]),(4,rg 4),(5,[0,1]),(6,[0,1]),(7,[]),(8,[]),(9,rg 9),(10,[])]
def eQ:OL:= [(0,[]),(1,[]),(2,[0,1]),(3,[0,1]),(4,[0,1]),(5,[0,1]),(6,[0,1,5]),(7,[0,1,5,6]),(8,[0,1,5]),(9,[0,1,5]),(11,[0,1,5,6,7,8,9]),(10,[0,1,11]),(12,[0,1]),(13,[0,1]),(14,[11,12,13]),(15,[])]
def eV:OL:= [(0,[]),(1,[0]),(2,[0,1]),(4,[0,1,2]),(5,[0,1,2,4]),(3,[0,4,5]),(6,[0]),(7,[0]),(8,[0]),(9,[0]),(10,[]),(11,[])]
abbrev GK (h:pR):List SV:= [.d (fG h.rt),.d (.int .i64 h.a),.d (.int .i64 h.b),.d (gr h.se)]
abbrev LA (h:pR):SV:=.agg (GK h)
def nz (h:pR)(f m:Nat):List Int:=(h.se.drop f).take m
theorem yr {h:pR}{f m:Nat}(hm:f+m≤h.se.length):(nz h f m).length=m:=by unfold nz;simp;omega
theorem zD {h:pR}{f m j:Nat}(hm:f+m≤h.se.length)(hj:j<m):(nz h f m).getD j 0=h.se.getD (f+j) 0:=by
 unfold nz;simp only[List.getD_eq_getElem?_getD,List.getElem?_take,List.getElem?_drop,if_pos hj]
theorem oO {h:pR}{f m:Nat}(hm:f+m≤h.se.length):SV.le (.d (.ro 1 ((f:Int)+(m:Int) - (f:Int)).toNat fun j=>aW iF 0 h.se ((f:Int).toNat+j))) (.d (gr (nz h f m))):=
 bZ (by rw[yr hm];omega) (fun j hj=>by
  rw[Int.toNat_natCast];show iF (h.se.getD (f+j) 0)=iF ((nz h f m).getD j 0)
  rw[zD hm (by omega)])
theorem IK {h:pR}{k:Int}{f m:Nat}(h1:1≤m)(hm:f+m≤h.se.length):ow h k f m=if(-1:Int) ∈ nz h f m then(0,false)else
 if(nA h k f m (h.rt.getD (h.se.getD f 0).toNat aV)).2=false∨(nA h k f m (h.rt.getD (h.se.getD f 0).toNat aV)).1<0 then(0,false)else(wQ h k f (nA h k f m (h.rt.getD (h.se.getD f 0).toNat aV)).1,true):=by
 unfold ow nz;simp only[Int.toNat_natCast]
 by_cases q:(-1:Int) ∈ (h.se.drop f).take m
 · rw[if_pos (Or.inr (Or.inr q)),if_pos q]
 · rw[if_neg (by rintro(c|c|c);omega;omega;exact q c),if_neg q]
theorem Ce {a b:Bool}(h:a=b):SV.le (.d (.bool a)) (.d (.bool b)):=h ▸ lr
set_option maxHeartbeats 4000000 in
theorem Pv (h : pR) (ok : qR h) (hl : h.rt.length≤2^20)(k:Int)(hk:1≤k∧k≤4)(f m:Nat)(h1:1≤m)(hm:f+m≤h.se.length):
 ai Tryz.prog 214 [LA h,.d (.int .i64 k),.d (.int .i64 f),.d (.int .i64 m)] [] (fun y r=>y= .tup [.d (.int .i64 (ow h k f m).1),.d (.bool (ow h k f m).2)]∧r= []):=by
 obtain⟨o1,⟨o2,o3,o4⟩,o5,o6,o7⟩:=ok;have hsl:=yr hm;have c166:=Nf (nz h f m) (by omega) (-1);have e1:(f:Int).toNat=f:=Int.toNat_natCast f;rw[IK h1 hm]
 by_cases q:(-1:Int) ∈ nz h f m
 · rw[if_pos q];rw[decide_eq_true q]at c166;refine ae hT (C:= []) Tryz.func214 rfl Tryz.call214 rfl rfl rfl ?_;conv=>whnf
   repeat' (first|((first|refine aw c166 ⟨oO hm,lr,trivial⟩ rfl ?_|(refine aa ?_ ?_<;>intro hb<;>try simp only[az]at hb)|refine aq hT 4 fy ?_|refine aq hT 13 eQ ?_|refine aq hT 24 eV ?_|omega|refine aA ?_|decide|assumption)<;>conv=>whnf))
   all_goals try(exfalso;omega)
   refine .ret _ ?_;conv=>whnf
   refine⟨[],⟨congrArg SV.tup ?_,rfl⟩,trivial⟩;repeat' (refine aN ?_ ?_)
   all_goals (conv=>lhs;whnf)
   all_goals try(with_reducible rfl)
 · rw [if_neg q];rw[decide_eq_false q]at c166;have nM:h.se.getD (f:Int).toNat 0 ∈ h.se:=ao (by omega);have hs1:=o7 _ nM
   have hs2:h.se.getD (f:Int).toNat 0≠-1:=fun z=>q (by
    have:=zD (h:=h) hm (show 0<m by omega);rw[Nat.add_zero,←e1,z]at this
    rw[←this];exact ao (by omega))
   have hr:=o6 _ (ao (x:=aV) (show(h.se.getD (f:Int).toNat 0).toNat<h.rt.length by omega))
   have hb0:dH h.a f<h.b:=by
    unfold dH;have:(f:Int)≤(h.se.length:Int) - 1:=by omega
    omega
   have hbg:dH h.a f=h.a+f*1440:=rfl;have hr1:=hr;obtain⟨u1,u2,u3,u4⟩:=hr1;unfold rp at u1 u2 u3 u4;have cb:=LC h.rt h.a h.b h.se f (by omega) (by omega);have ce:=N6 h.rt h.a h.b h.se f (by omega) (by omega);have ce2:=N6 h.rt h.a h.b h.se ((f:Int)+m - 1) (by omega) (by omega);have cw:=O2 (dH h.a f) (by omega)
   have hend:0≤lL h.a h.b f - dH h.a f∧lL h.a h.b f - dH h.a f≤1440:=by
    unfold lL;have:dH h.a ((f:Int)+1)=dH h.a f+1440:=by unfold dH;omega
    omega
   have hbgb:0≤dH h.a f∧dH h.a f≤2^30:=by omega
   have hdq:0≤(lL h.a h.b f - dH h.a f+59).tdiv 60∧(lL h.a h.b f - dH h.a f+59).tdiv 60≤24:=by rw[Fv (by omega)];omega
   have hdi:aS ((lL h.a h.b f - dH h.a f+59).tdiv 60):=by unfold aS;omega
   obtain⟨R,hR⟩:∃R,R=h.rt.getD (h.se.getD f 0).toNat aV:=⟨_,rfl⟩
   have hmu:aS ((h.rt.getD (h.se.getD (f:Int).toNat 0).toNat aV).hr*(lL h.a h.b f - dH h.a f+59).tdiv 60):=by
    generalize (h.rt.getD (h.se.getD (f:Int).toNat 0).toNat aV).hr=p at*;generalize (lL h.a h.b f - dH h.a f+59).tdiv 60=z at*;have z1:=Int.mul_nonneg (show 0≤p+1 by omega) hdq.1;have z2:=Int.mul_nonneg (show 0≤1000000 - p by omega) hdq.1;rw[Int.add_mul]at z1;rw[Int.sub_mul]at z2;unfold aS;omega
   have hk4:k=1∨k=2∨k=3∨k=4:=by omega
   rcases hk4 with rfl|rfl|rfl|rfl
   · have hP:∀R,nA h 1 f m R=(R.hr,decide ((m:Int)=1)&&decide ((h.se.length:Int) - f=1)):=fun R=>by unfold nA;rw[if_pos rfl]
     rw[hP];refine ae hT (C:= []) Tryz.func214 rfl Tryz.call214 rfl rfl rfl ?_;conv=>whnf
     repeat' (first|(refine aw c166 ⟨oO hm,lr,trivial⟩ rfl ?_;conv=>whnf)|(refine ac (cb) rfl rfl ?_;rotate_right;conv=>whnf)|(refine ac (ce) rfl rfl ?_;rotate_right;conv=>whnf)|(refine ac (ce2) rfl rfl ?_;rotate_right;conv=>whnf)|(refine ac (cw) rfl rfl ?_;rotate_right;conv=>whnf)|((first|refine And.intro hdi ?_|refine And.intro hmu ?_|(refine aa ?_ ?_<;>intro hb<;>try simp only[az]at hb)|refine aq hT 4 fy ?_|refine aq hT 13 eQ ?_|refine aq hT 24 eV ?_|omega|refine aA ?_|decide|assumption)<;>conv=>whnf))
     all_goals try(exfalso;omega)
     all_goals
      refine .ret _ ?_;conv=>whnf
      refine⟨[],⟨congrArg SV.tup ?_,rfl⟩,trivial⟩;repeat' (refine aN ?_ ?_)
      all_goals (conv=>lhs;whnf)
      all_goals try(with_reducible rfl)
      all_goals simp only[Int.toNat_natCast]
      all_goals first
       |rw[if_pos (by first|exact Or.inr (by assumption)|exact Or.inl (by simp;omega))]
       |(rw[if_neg (fun c=>c.elim (fun c=>by simp at c;omega) (fun c=>by omega))];done)
       |(rw[if_neg (fun c=>c.elim (fun c=>by simp at c;omega) (fun c=>by omega))];unfold wQ;rw[if_pos rfl])
   · have hP:∀R,nA h 2 f m R=(R.dy,decide ((m:Int)=1)):=fun R=>by unfold nA;rw[if_neg (by decide),if_pos rfl]
     rw[hP];refine ae hT (C:= []) Tryz.func214 rfl Tryz.call214 rfl rfl rfl ?_;conv=>whnf
     repeat' (first|(refine aw c166 ⟨oO hm,lr,trivial⟩ rfl ?_;conv=>whnf)|(refine ac (cb) rfl rfl ?_;rotate_right;conv=>whnf)|(refine ac (ce) rfl rfl ?_;rotate_right;conv=>whnf)|(refine ac (ce2) rfl rfl ?_;rotate_right;conv=>whnf)|(refine ac (cw) rfl rfl ?_;rotate_right;conv=>whnf)|((first|(refine aa ?_ ?_<;>intro hb<;>try simp only[az]at hb)|refine aq hT 4 fy ?_|refine aq hT 13 eQ ?_|refine aq hT 24 eV ?_|omega|refine aA ?_|decide|assumption)<;>conv=>whnf))
     all_goals try(exfalso;omega)
     all_goals
      refine .ret _ ?_;conv=>whnf
      refine⟨[],⟨congrArg SV.tup ?_,rfl⟩,trivial⟩;repeat' (refine aN ?_ ?_)
      all_goals (conv=>lhs;whnf)
      all_goals try(with_reducible rfl)
      all_goals simp only[Int.toNat_natCast]
      all_goals first
       |rw[if_pos (by first|exact Or.inr (by assumption)|exact Or.inl (by simp;omega))]
       |(rw[if_neg (fun c=>c.elim (fun c=>by simp at c;omega) (fun c=>by omega))];done)
       |(rw[if_neg (fun c=>c.elim (fun c=>by simp at c;omega) (fun c=>by omega))];unfold wQ;rw[if_neg (by decide)])
   · have hP:∀R,nA h 3 f m R=(R.we,decide (0≤JV (dH h.a f))&&decide (lL h.a h.b ((f:Int)+m - 1)≤JV (dH h.a f))):=fun R=>by unfold nA;rw[if_neg (by decide),if_neg (by decide),if_pos rfl]
     rw[hP];refine ae hT (C:= []) Tryz.func214 rfl Tryz.call214 rfl rfl rfl ?_;conv=>whnf
     repeat' (first|(refine aw c166 ⟨oO hm,lr,trivial⟩ rfl ?_;conv=>whnf)|(refine ac (cb) rfl rfl ?_;rotate_right;conv=>whnf)|(refine ac (ce2) rfl rfl ?_;rotate_right;conv=>whnf)|(refine ac (cw) rfl rfl ?_;rotate_right;conv=>whnf)|((first|(refine aa ?_ ?_<;>intro hb<;>try simp only[az]at hb)|refine aq hT 4 fy ?_|refine aq hT 13 eQ ?_|refine aq hT 24 eV ?_|omega|refine aA ?_|decide|assumption)<;>conv=>whnf))
     all_goals try(exfalso;omega)
     all_goals
      refine .ret _ ?_;conv=>whnf
      refine⟨[],⟨congrArg SV.tup ?_,rfl⟩,trivial⟩;repeat' (refine aN ?_ ?_)
      all_goals (conv=>lhs;whnf)
      all_goals try(with_reducible rfl)
      all_goals simp only[Int.toNat_natCast]
      all_goals first
       |rw[if_pos (by first|exact Or.inr (by assumption)|exact Or.inl (by simp;omega))]
       |(rw[if_neg (fun c=>c.elim (fun c=>by simp at c;omega) (fun c=>by omega))];done)
       |(rw[if_neg (fun c=>c.elim (fun c=>by simp at c;omega) (fun c=>by omega))];unfold wQ;rw[if_neg (by decide)])
   · have hP:∀R,nA h 4 f m R=(R.wk,decide ((m:Int)=min 7 ((h.se.length:Int) - f))&&((nz h f m).all fun s=>decide (s=h.se.getD f 0))):=fun R=>by
      unfold nA nz;rw[if_neg (by decide),if_neg (by decide),if_neg (by decide),if_pos rfl,Int.toNat_natCast,Int.toNat_natCast]
     rw[hP];obtain⟨W,hW⟩:∃W:Bool,W=decide ((m:Int)=min 7 ((h.se.length:Int) - f)):=⟨_,rfl⟩
     have hSs:∀i,i<m→((nz h f m).take (i+1)).all (fun s=>decide (s=h.se.getD f 0))=(((nz h f m).take i).all (fun s=>decide (s=h.se.getD f 0))&&decide ((nz h f m).getD i 0=h.se.getD f 0)):=fun i hi=>by
      rw[fD (d:=(0:Int)) (by omega),List.all_append];simp
     rw[←hW];obtain⟨S,hS⟩:∃S,S=nz h f m:=⟨_,rfl⟩;rw[←hS]at hSs hsl c166 ⊢;have hle:=oO (h:=h) hm;rw[←hS]at hle;refine ae hT (C:= []) Tryz.func214 rfl Tryz.call214 rfl rfl rfl ?_;conv=>whnf
     repeat' (first|((first|refine aw c166 ⟨hle,lr,trivial⟩ rfl ?_|(refine aa ?_ ?_<;>intro hb<;>try simp only[az]at hb)|refine aq hT 4 fy ?_|refine aq hT 13 eQ ?_|refine aq hT 24 eV ?_|omega|refine aA ?_|decide|assumption)<;>conv=>whnf))
     all_goals try(exfalso;omega)
     refine ah hT (C:= []) (ι:=Nat) (fun i=>i≤m) (fun i=>aI [(1,.d (.int .i64 4)),(2,.d (.int .i64 f)),(4,.ptr 4 0),(12,.d (.int .i64 (h.rt.getD (h.se.getD (f:Int).toNat 0).toNat aV).wk)),(13,.d (.bool ((S.take i).all (fun s=>decide (s=h.se.getD f 0))&&W))),(98,.d (gr S)),(99,.d (.int .i64 m)),(100,.d (.int .i64 i))] [(4,.cells 260 (GK h))]) (fun i=>m - i) 0 (Nat.zero_le _) ?_ ?_
     · subst hW;exact af [(4,4)] rfl rfl ⟨lr,lr,lr,lr,lr,hle,ap (by omega),lr,trivial⟩ ⟨rr,trivial⟩
     intro i pi;have e2:(i:Int).toNat=i:=Int.toNat_natCast i;rcases Nat.lt_or_ge i m with hi|hi
     · have hss:=hSs i hi;conv=>whnf
       repeat' (first|((first|(refine aa ?_ ?_<;>intro hb<;>try simp only[az]at hb)|refine aq hT 4 fy ?_|refine aq hT 13 eQ ?_|refine aq hT 24 eV ?_|omega|refine aA ?_|decide|assumption)<;>conv=>whnf))
       all_goals try(exfalso;omega)
       all_goals
        refine⟨i+1,by omega,by omega,af [(4,4)] rfl rfl ⟨lr,lr,lr,lr,?_,lr,lr,ap (by omega),trivial⟩ ⟨rr,trivial⟩⟩;rw[hss]
        first
         |exact Ce (by simp only[Bool.and_eq_true,e1,e2]at*;rw[hb.1,hb.2];simp)
         |exact Ce (by simp only[e1,e2]at*;grind)
     · have him:i=m:=by omega
       have hSt:S.take i=S:=by rw[List.take_of_length_le (by omega)]
       rw[hSt];clear hP hSs hSt hW;generalize (S.all fun s=>decide (s=h.se.getD f 0))=Z;cases Z<;>cases W
       all_goals
        conv=>whnf
       all_goals
        repeat' (first|((first|(refine aa ?_ ?_<;>intro hb<;>try simp only[az]at hb)|refine aq hT 4 fy ?_|refine aq hT 13 eQ ?_|refine aq hT 24 eV ?_|omega|refine aA ?_|decide|assumption)<;>conv=>whnf))
       all_goals try(exfalso;omega)
       all_goals
        refine .ret _ ?_;conv=>whnf
        refine⟨[],⟨congrArg SV.tup ?_,rfl⟩,trivial⟩;repeat' (refine aN ?_ ?_)
        all_goals (conv=>lhs;whnf)
        all_goals try(with_reducible rfl)
       all_goals try simp only[Int.toNat_natCast,Bool.false_and,Bool.and_false,Bool.and_self,reduceCtorEq,true_or,false_or,if_true]
       all_goals first
        |done
        |(rw[if_pos hb];done)
        |(rw[if_neg (Int.not_lt.2 hb)];done)
        |(rw[if_neg (Int.not_lt.2 hb)];unfold wQ;rw[if_neg (by decide)])
        |skip
def eU:OL:= [(0,[]),(1,[0]),(2,[]),(3,[]),(4,[]),(5,[]),(6,[]),(7,[]),(8,[]),(9,[7,8]),(10,[7,8,9]),(11,[7,8]),(12,[7,8]),(13,[7,8]),(15,[7,8,9,10,11,12,13]),(16,[7,8,9,10,11,12,13]),(17,[7,8,9,10,11,12,13,15,16]),(18,[7,8,9,10,11,12,13,15,16,17]),(19,[7,8,9,10,11,12,13,15,16]),(20,[7,8,9,10,11,12,13,15,16]),(21,[7,8,9,10,11,12,13,15,16]),(14,[15,16,17,18,19,20,21]),(22,[]),(23,[]),(24,[]),(25,[]),(26,[])]
abbrev ER (l:List qu):DV:=dC 6 Ph eL l
abbrev OY (l:List qu):aY:=aL 264 6 Ph eL l
theorem Fn (n j:Nat):(uw n).getD j eL=if j=n then{eL with fine:=true}else eL:=by
 unfold uw;rw[fj _ _ _ _ _ (by simp)];split
 · rfl
 · simp only[List.getD_eq_getElem?_getD,List.getElem?_replicate];split<;>rfl
theorem yz (a b c d:Int):(al [eO a b,eO c d]<0)↔(a<b∨(a=b∧c<d)):=by
 simp only[al];unfold eO;repeat' split
 all_goals omega
set_option maxHeartbeats 16000000 in
theorem P9 (h:pR)(ok:qR h)(hl:h.rt.length≤2^20):ai Tryz.prog 163 [LA h] [] (fun y r=>y= .d (ER (ES h))∧r= []):=by
 have hn:=ok.n;refine ae hT (C:= []) Tryz.func163 rfl Tryz.call163 rfl rfl rfl ?_;conv=>whnf
 repeat' (first|((first|(refine aa ?_ ?_<;>intro hb<;>try simp only[az]at hb)|refine aq hT 17 eU ?_|omega|refine aA ?_|decide|assumption)<;>conv=>whnf))
 refine ah hT (C:= []) (ι:=Nat) (fun j=>j≤h.se.length) (fun j=>aI [(1,.ptr 1 0),(3,.d (.int .i64 h.se.length)),(4,.buf 4),(5,.d (.int .i64 ((h.se.length:Int) - 1 - j)))] [(1,.cells 260 (GK h)),(4,OY (JL h j))]) (fun j=>h.se.length - j) 0 (Nat.zero_le _) ?_ ?_
 · refine af [(1,1),(4,17)] rfl rfl ⟨lr,lr,lr,ap (by omega),trivial⟩ ⟨rr,ek (by show _=(uw h.se.length).length;unfold uw;rw[List.length_set,List.length_replicate];omega) (fun j hj=> ?_),trivial⟩;show _=Ph ((uw h.se.length).getD j eL);rw[Fn]
   by_cases e:j=h.se.length
   · subst e;rw[if_pos rfl,Int.toNat_natCast,Nat.beq_refl,cond_true];rfl
   · rw[if_neg e,Int.toNat_natCast,ax e,cond_false];rfl
 intro j pj;rcases Nat.lt_or_ge j h.se.length with hj|hj
 · have hI :=CS ok j pj;obtain⟨i,hi⟩:∃i,i=h.se.length - 1 - j:=⟨_,rfl⟩;have hin:i<h.se.length:=by omega
   have hii:(h.se.length:Int) - 1 - j=i:=by omega
   have hL:LP h i=min 7 (h.se.length - i):=rfl;rw[hii];conv=>whnf
   repeat' (first|((first|(refine aa ?_ ?_<;>intro hb<;>try simp only[az]at hb)|refine aq hT 17 eU ?_|omega|refine aA ?_|decide|assumption)<;>conv=>whnf))
   refine ah hT (C:= []) (ι:=Nat) (fun k=>k≤4) (fun k=>aI [(1,.ptr 1 0),(3,.d (.int .i64 h.se.length)),(4,.buf 4),(5,.d (.int .i64 i)),(6,.d (.int .i64 ((k:Int)+1)))] [(1,.cells 260 (GK h)),(4,OY (LB h i k (JL h j)))]) (fun k=>4 - k) 0 (by omega) ?_ ?_
   · exact af [(1,1),(4,4)] rfl rfl ⟨lr,lr,lr,lr,lr,trivial⟩ ⟨rr,rr,trivial⟩
   intro k pk;have hK:=F3 ok hin hI k pk;rcases Nat.lt_or_ge k 4 with hk|hk
   · conv=>whnf
     repeat' (first|((first|(refine aa ?_ ?_<;>intro hb<;>try simp only[az]at hb)|refine aq hT 17 eU ?_|omega|refine aA ?_|decide|assumption)<;>conv=>whnf))
     refine ah hT (C:= []) (ι:=Nat) (fun m=>m≤LP h i) (fun m=>aI [(1,.ptr 1 0),(3,.d (.int .i64 h.se.length)),(4,.buf 4),(5,.d (.int .i64 i)),(6,.d (.int .i64 ((k:Int)+1))),(7,.d (.int .i64 ((m:Int)+1)))] [(1,.cells 260 (GK h)),(4,OY (MD h i ((k+1:Nat):Int) m (LB h i k (JL h j))))]) (fun m=>LP h i - m) 0 (Nat.zero_le _) ?_ ?_
     · exact af [(1,1),(4,4)] rfl rfl ⟨lr,lr,lr,lr,lr,lr,trivial⟩ ⟨rr,rr,trivial⟩
     intro m pm;have hM:=Hc ok hin (k:=((k+1:Nat):Int)) (by omega) hK m;obtain⟨B,hB⟩:∃B,B=MD h i ((k+1:Nat):Int) m (LB h i k (JL h j)):=⟨_,rfl⟩;have hBl:=hM.len;rw[←hB]at hM hBl;have hbf:(bif false then max 7 ((h.se.length:Int) - (i:Int))else min 7 ((h.se.length:Int) - (i:Int)))=((LP h i:Nat):Int):=by show min 7 ((h.se.length:Int) - (i:Int))=_;rw[hL];omega
     rcases Nat.lt_or_ge m (LP h i)with hm|hm
     · have him:i+(m+1)≤h.se.length:=by omega
       have c214:=Pv h ok hl ((k:Int)+1) (by omega) i (m+1) (by omega) him;have c214':ai Tryz.prog 214 [LA h,.d (.int .i64 ((k:Int)+1)),.d (.int .i64 i),.d (.int .i64 ((m:Int)+1))] [] (fun y r=>y= .tup [.d (.int .i64 (ow h ((k:Int)+1) i ((m:Int)+1)).1),.d (.bool (ow h ((k:Int)+1) i ((m:Int)+1)).2)]∧r= []):=c214;have hpb:=CF ok (k:=(k:Int)+1) (f:=(i:Int)) (m:=(m:Int)+1) (by omega);obtain⟨q,hq⟩:∃q,q=ow h ((k:Int)+1) i ((m:Int)+1):=⟨_,rfl⟩;rw[←hq]at c214' hpb;have hB2:B.length≤2^20:=by omega
       have hbi:=hM.bd i (by omega);have hbm:=hM.bd (i+(m+1)) him;have im:((i:Int)+((m:Int)+1)).toNat=i+(m+1):=by omega
       have ii:(i:Int).toNat=i:=Int.toNat_natCast i;rw[←im]at hbm;have hS:MD h i ((k+1:Nat):Int) (m+1) (LB h i k (JL h j))=Ns h i ((k:Int)+1) ((m:Int)+1) B:=by rw[hB];rfl
       have hD:Ns h i ((k:Int)+1) ((m:Int)+1) B=if q.2=false∨(B.getD ((i:Int)+((m:Int)+1)).toNat eL).fine=false then B else if(B.getD i eL).fine=false∨q.1+(B.getD ((i:Int)+((m:Int)+1)).toNat eL).cost<(B.getD i eL).cost∨(q.1+(B.getD ((i:Int)+((m:Int)+1)).toNat eL).cost=(B.getD i eL).cost∧1+(B.getD ((i:Int)+((m:Int)+1)).toNat eL).pcs<(B.getD i eL).pcs)then B.set (i:Int).toNat ⟨q.1+(B.getD ((i:Int)+((m:Int)+1)).toNat eL).cost,1+(B.getD ((i:Int)+((m:Int)+1)).toNat eL).pcs,(k:Int)+1,(m:Int)+1,q.1,true⟩else B:=by
        rw[hq,im,ii];rfl
       have hBe:=hB.symm;clear hB hq;rw[hBe];conv=>whnf
       repeat' (first|(refine ac (c214') rfl rfl ?_;rotate_right;conv=>whnf)|(refine ac (E7 _ _) rfl rfl ?_;rotate_right;conv=>whnf)|((first|refine aw (DW [_,_] (by simp)) ⟨aj (by rfl) (by rfl),trivial⟩ rfl ?_|(refine aa ?_ ?_<;>intro hb<;>try simp only[az]at hb)|refine aq hT 17 eU ?_|omega|refine aA ?_|decide|assumption)<;>conv=>whnf))
       all_goals try(exfalso;omega)
       all_goals
        refine⟨m+1,by omega,by omega,af [(1,1),(4,4)] rfl rfl ⟨lr,lr,lr,lr,lr,ap (by omega),trivial⟩ ⟨rr,?_,trivial⟩⟩;rw[hS,hD];simp only[yz,Int.toNat_natCast]at*
        first
         |(rw[if_pos (Or.inl hb)];exact rr)
         |(rw[if_pos (Or.inr hb)];exact rr)
         |(rw[if_neg (by simp_all),if_pos (by first|exact Or.inl hb|exact Or.inr hb)];exact qM (fun y _=>rfl))
         |(rw[if_neg (by simp_all),if_neg (fun c=>c.elim (fun c=>by simp_all) (fun z=>absurd ((yz _ _ _ _).2 z) (Int.not_lt.2 hb)))];exact rr)
     · have hmL:m=LP h i:=by omega
       subst hmL;conv=>whnf
       repeat' (first|((first|(refine aa ?_ ?_<;>intro hb<;>try simp only[az]at hb)|refine aq hT 17 eU ?_|omega|refine aA ?_|decide|assumption)<;>conv=>whnf))
       all_goals try(exfalso;omega)
       exact⟨k+1,by omega,by omega,af [(1,1),(4,4)] rfl rfl ⟨lr,lr,lr,lr,ap (by omega),trivial⟩ ⟨rr,rr,trivial⟩⟩
   · have hk4:k=4:=by omega
     subst hk4;conv=>whnf
     repeat' (first|((first|(refine aa ?_ ?_<;>intro hb<;>try simp only[az]at hb)|refine aq hT 17 eU ?_|omega|refine aA ?_|decide|assumption)<;>conv=>whnf))
     all_goals try(exfalso;omega)
     refine⟨j+1,by omega,by omega,af [(1,1),(4,4)] rfl rfl ⟨lr,lr,lr,ap (by omega),trivial⟩ ⟨rr,?_,trivial⟩⟩;rw[hi];exact rr
 · have hjn:j=h.se.length:=by omega
   subst hjn;conv=>whnf
   repeat' (first|((first|(refine aa ?_ ?_<;>intro hb<;>try simp only[az]at hb)|refine aq hT 17 eU ?_|omega|refine aA ?_|decide|assumption)<;>conv=>whnf))
   all_goals try(exfalso;omega)
   refine .freeze _ 4 264 6 _ _ rfl (.weak _ ?_);conv=>whnf
   exact⟨_,[],lr,⟨rfl,rfl⟩,trivial⟩
end Go.Proofs.YtkokpbpililcdaaGreatDoor
