/- TopDamagePaid is proved: for every input the law returns true, and its argument reads afterwards as it read before. Conditions: those of the given row alone. -/
import Derived.Test.YtghhghijalcdfaaGreatDoorAdConSep
import Derived.Test.YtghhghijalcdfaaGreatDoorAdConTri
import Derived.Test.YtghhghijalcdfaaGreatDoorAdConTwo
import Derived.Test.YtghhghijalcdfaaGreatDoorAdConOne
import Derived.Test.YtghhghijalcdfaaGreatDoorAdConSex
set_option linter.unusedVariables false
set_option linter.unusedSimpArgs false
set_option maxHeartbeats 16000000
set_option maxRecDepth 20000
namespace Go.Proofs.YtghhghijalcdfaaGreatDoor
open Go Go.Eng
def oATnA38:TL:= [(12,[(0,[]),(1,[]),(2,[0,1]),(3,[0,1,2]),(4,[0,1]),(5,[]),(6,[])])]
def oATnA4:TL:= [(5,[(0,[]),(1,[]),(2,[0,1]),(3,[0,1,2]),(4,rg 4),(5,[0,1,2]),(6,[0,1]),(7,[0,1]),(8,[]),(9,[]),(10,[])]),(7,[(0,[]),(1,[0]),(3,[0,1]),(2,[0,3]),(4,[0]),(5,[]),(6,[])])]
theorem getD_left {α:Type}{m:List α}{x d:α}{j:Nat}(h:j<m.length):(m++ [x]).getD j d=m.getD j d:=by
 rw[List.getD_eq_getElem?_getD,List.getElem?_append_left h,List.getD_eq_getElem?_getD]
theorem getD_last {α:Type}{m:List α}{x d:α}:(m++ [x]).getD m.length d=x:=by
 rw[List.getD_eq_getElem?_getD,List.getElem?_append_right (Nat.le_refl _),Nat.sub_self];rfl
structure ratI (i:Nat)(f:Int)(m:List Rat):Prop where
 ok:∀j,j<m.length→ratE m j=0
 la:m.length=0∨∃k,k≤i∧k<3∧(m.getD (m.length - 1) rat0).cls=c3.getD k []∧(k=i→(m.getD (m.length - 1) rat0).to≤f)
theorem c3_key:∀i,i<3→isKeyB (c3.getD i [])=true:=by decide+kernel
theorem c3_less:∀i,i<3→∀k,k<3→k<i→Op.bytesLess (c3.getD i []) (c3.getD k [])=false∧c3.getD k []≠c3.getD i []:=by decide+kernel
theorem c3_irr:∀i,i<3→Op.bytesLess (c3.getD i []) (c3.getD i [])=false:=by decide+kernel
theorem ratI_up {i j:Nat}{f g:Int}{m:List Rat}(h:ratI i f m)(hij:i<j):ratI j g m:=⟨h.ok,by
 rcases h.la with h|⟨k,h1,h2,h3,h4⟩
 · exact .inl h
 · exact .inr ⟨k,by omega,h2,h3,fun e=>by omega⟩⟩
theorem ratI_to {i:Nat}{f g:Int}{m:List Rat}(h:ratI i f m)(hfg:f≤g):ratI i g m:=⟨h.ok,by
 rcases h.la with h|⟨k,h1,h2,h3,h4⟩
 · exact .inl h
 · exact .inr ⟨k,h1,h2,h3,fun e=>by have:=h4 e;omega⟩⟩
theorem ratI_snoc {i:Nat}{f:Int}{m:List Rat}(h:ratI i f m)(hi:i<3){x:Rat}(h1:x.cls=c3.getD i [])(h2:x.frm=f)(h3:0≤f)(h4:f<x.to)(h5:x.to≤4001)(h6:nums x){g:Int}(hg:x.to≤g):ratI i g (m++ [x]):=by
 refine⟨fun j hj=> ?_,.inr ⟨i,Nat.le_refl _,hi,?_,fun _=> ?_⟩⟩
 · rw [List.length_append,List.length_singleton]at hj;rcases Nat.lt_or_ge j m.length with q|q
   · have:=h.ok j q;unfold ratE at this ⊢;rw[getD_left q,getD_left (show j - 1<m.length by omega)];exact this
   · have hjm:j=m.length:=by omega
     subst hjm;unfold ratE;rw[getD_last]
     dsimp only
     rw[h1,c3_key i hi,if_neg (by simp),if_neg (fun c=>c ⟨by omega,by omega,h5,h6⟩)];rcases h.la with q0|⟨k,k1,k2,k3,k4⟩
     · rw[if_neg (fun c=>by omega),if_neg (fun c=>by omega)]
     · rcases Nat.eq_zero_or_pos m.length with q0|q0
       · rw[if_neg (fun c=>by omega),if_neg (fun c=>by omega)]
       rw[getD_left (show m.length - 1<m.length by omega),k3];have hq:=h.ok (m.length - 1) (by omega)
       have hft:(m.getD (m.length - 1) rat0).frm<(m.getD (m.length - 1) rat0).to:=by
        unfold ratE at hq
        dsimp only at hq
        by_cases c:0≤(m.getD (m.length - 1) rat0).frm∧(m.getD (m.length - 1) rat0).frm<(m.getD (m.length - 1) rat0).to∧(m.getD (m.length - 1) rat0).to≤4001∧nums (m.getD (m.length - 1) rat0)
        · exact c.2.1
        · exfalso;split at hq
          · exact absurd hq (by decide)
          · first
            |exact absurd hq (by decide)
            |(rw[if_pos c]at hq;exact absurd hq (by decide))
       rcases Nat.lt_or_ge k i with r|r
       · obtain⟨u1,u2⟩:=c3_less i hi k k2 r;rw[if_neg (fun c=>by rcases c.2 with d|d;(rw[u1]at d;cases d);exact u2 d.1),if_neg (fun c=>u2 c.2.1)]
       · have hki:k=i:=by omega
         subst hki;have:=k4 rfl;rw[if_neg (fun c=>by rcases c.2 with d|d;(rw[c3_irr k hi]at d;cases d);(have:=d.2;omega)),if_neg (fun c=>by have:=c.2.2;omega)]
 · rw[List.length_append,List.length_singleton,Nat.add_sub_cancel,getD_last];exact h1
 · rw[List.length_append,List.length_singleton,Nat.add_sub_cancel,getD_last];exact hg
theorem gRates (n:Nat)(L:Nat→Int)(hL:Rok n L)(a:Int)(h0:0≤a)(ha:a≤2^36):
 FSpec Tryz.prog 38 [.ptr 1000000 0] [(1000000,strm n L a)] (fun y r=>∃l:List Rat,∃b,(allK ratM 9 l∧ratsE l=0)∧(a≤b∧b≤a+100)∧y= .buf 3∧r= [(3,seqB 166 7 ratF rat0 l),(1000000,strm n L b)]):=by
 refine spAx hT Tryz.func38 Tryz.call38 ?_;conv=>whnf
 refine LoopX.rule hT (C:= []) (ι:=Int×List Rat×Nat) (fun(b,l,i)=>(a≤b∧b≤a+30*i∧i≤3)∧allK ratM (3*i) l∧(i=0∧l= []∨1≤i∧ratI (i - 1) 6000 l))
  (fun(b,l,i)=>mkSt [(0,.ptr 1000000 0),(3,.buf 3),(8,.d (strs c3)),(9,.d (.int .i64 3)),(10,.d (.int .i64 i))] [(1000000,strm n L b),(3,seqB 166 7 ratF rat0 l)])
  (fun(_,_,i)=>3 - i) (a,[],0) ⟨⟨by simp,by simp,by simp⟩,⟨by simp,by simp⟩,.inl ⟨rfl,rfl⟩⟩ ?_ ?_
 · refine(Entails.nil 3 3 166 7 (rowF ratF rat0 []) rfl rfl (by decide)).trans (Entails.mk' [(1000000,1000000),(3,3)] rfl rfl ⟨lr,lr,SV.le_lit rfl rfl,lr,lr,trivial⟩ ⟨rr,rr,trivial⟩)
 rintro⟨b,l,i⟩ ⟨⟨p1,p2,p3⟩,p4,p5⟩;have p5:i=0∧l= []∨1≤i∧ratI (i - 1) 6000 l:=p5;have p1:a≤b:=p1;have p2:b≤a+30*i:=p2;have p3:i≤3:=p3;have e1:=tnc i;have p4:allK ratM (3*i) l:=p4;have hc3:c3.length=3:=rfl;have hl1:l.length≤3*i:=p4.1;rcases Nat.lt_or_ge i 3 with hi|hi
 · have p6:∀f,ratI i f l:=fun f=>by
    rcases p5 with⟨e1,e2⟩|⟨e1,e2⟩
    · rw[e2];exact⟨fun j hj=>absurd hj (by simp),.inl rfl⟩
    · exact ratI_up e2 (by omega)
   conv=>whnf
   repeat' (first|(refine oLx (s33 n L hL _ ?_ ?_ [0,0,0,3] ?_ ?_) [(1000000,1000000)] ?_;rotate_right;rintro x rout ⟨⟨u1,hu1,rfl⟩,⟨c,c1,c2,rfl⟩⟩;have hw1:=pkD hu1 (by decide);refine⟨rfl,?_⟩;conv=>whnf)|(refine oLx (s33 n L hL _ ?_ ?_ [0,1,1,2,3] ?_ ?_) [(1000000,1000000)] ?_;rotate_right;rintro x rout ⟨⟨u2,hu2,rfl⟩,⟨c,c1,c2,rfl⟩⟩;refine⟨rfl,?_⟩;conv=>whnf)|((first|refine br_intro ?_ ?_<;>intro hb<;>try simp only[brs]at hb|refine tAx hT oATnA38 ?_|omega|refine sAx ?_|decide|assumption)<;>conv=>whnf))
   all_goals try(exfalso;omega)
   have hw2:0≤u2∧u2≤3:=by simp only[List.mem_cons,List.not_mem_nil,or_false]at hu2;omega
   have hw3:u1≤5000:=by omega
   have hkk:(c3.getD (i:Int).toNat []).length≤8:=mem_len (getD_mem (by omega)) rfl;obtain⟨cc,hcc⟩:∃cc:Int,cc=c:=⟨_,rfl⟩;obtain⟨ky,hky⟩:∃ky,ky=c3.getD (i:Int).toNat []:=⟨_,rfl⟩
   refine LoopX.rule hT (C:= []) (ι:=Int×List Rat×Int×Nat) (fun(d,m,f,k)=>(cc≤d∧d≤cc+6*k∧(k:Int)≤u2)∧allK ratM (3*i+k) m∧0≤f∧f≤5000∧ratI i f m)
    (fun(d,m,f,k)=>mkSt [(0,.ptr 1000000 0),(3,.buf 3),(5,.d (.str ky)),(6,.d (.int .i64 f)),(8,.d (strs c3)),(9,.d (.int .i64 3)),(10,.d (.int .i64 i)),(19,.d (.int .i64 u2)),(20,.d (.int .i64 k))] [(1000000,strm n L d),(3,seqB 166 7 ratF rat0 m)])
    (fun(_,_,_,k)=>u2.toNat - k) (cc,l,u1,0) ⟨⟨by simp,by simp,by show((0:Nat):Int)≤u2;omega⟩,p4,by show 0≤u1;omega,by show u1≤5000;omega,p6 u1⟩ (by subst hcc hky;exact(by exact eAx [(1000000,1000000),(3,3)])) ?_
   rintro⟨d,m,f,k⟩ ⟨⟨q1,q2,q3⟩,q4,q5,q6,q7⟩;have q7:ratI i f m:=q7;have q1:cc≤d:=q1;have q2:d≤cc+6*k:=q2;have q3:(k:Int)≤u2:=q3;have q4:allK ratM (3*i+k) m:=q4;have q5:0≤f:=q5;have q6:f≤5000:=q6;have hm1:m.length≤3*i+k:=q4.1;conv=>whnf
   repeat' (first|(refine oLx (s33 n L hL _ ?_ ?_ [1,5,20,4000] ?_ ?_) [(1000000,1000000)] ?_;rotate_right;rintro x rout ⟨⟨u3,hu3,rfl⟩,⟨c,c1,c2,rfl⟩⟩;have hw4:0≤u3∧u3≤4000:=(by simp only[List.mem_cons,List.not_mem_nil,or_false]at hu3;omega);refine⟨rfl,?_⟩;conv=>whnf)|(refine oLx (s33 n L hL _ ?_ ?_ [-1,5,10,10,0] ?_ ?_) [(1000000,1000000)] ?_;rotate_right;rintro x rout ⟨⟨u4,hu4,rfl⟩,⟨c,c1,c2,rfl⟩⟩;refine⟨rfl,?_⟩;conv=>whnf)|(refine oLx (s33 n L hL _ ?_ ?_ [-1,50,50,70,40] ?_ ?_) [(1000000,1000000)] ?_;rotate_right;rintro x rout ⟨⟨u5,hu5,rfl⟩,⟨c,c1,c2,rfl⟩⟩;refine⟨rfl,?_⟩;conv=>whnf)|(refine oLx (s33 n L hL _ ?_ ?_ [-1,70,90,100] ?_ ?_) [(1000000,1000000)] ?_;rotate_right;rintro x rout ⟨⟨u6,hu6,rfl⟩,⟨c,c1,c2,rfl⟩⟩;refine⟨rfl,?_⟩;conv=>whnf)|(refine oLx (s33 n L hL _ ?_ ?_ [-1,200,250,300] ?_ ?_) [(1000000,1000000)] ?_;rotate_right;rintro x rout ⟨⟨u7,hu7,rfl⟩,⟨c,c1,c2,rfl⟩⟩;refine⟨rfl,?_⟩;conv=>whnf)|(refine oLx (s33 n L hL _ ?_ ?_ [0,0,0,2] ?_ ?_) [(1000000,1000000)] ?_;rotate_right;rintro x rout ⟨⟨u8,hu8,rfl⟩,⟨c,c1,c2,rfl⟩⟩;have hw8:0≤u8∧u8≤2:=(by simp only[List.mem_cons,List.not_mem_nil,or_false]at hu8;omega);refine⟨rfl,?_⟩;conv=>whnf)|((first|(refine And.intro (by show inI64 (min (f+u3) 4001+u8);unfold inI64;omega) ?_)|refine br_intro ?_ ?_<;>intro hb<;>try simp only[brs]at hb|refine tAx hT oATnA38 ?_|omega|refine sAx ?_|decide|assumption)<;>conv=>whnf))
   · exact⟨(c,m,i+1),⟨⟨by omega,by show _≤a+30*((i+1:Nat):Int);omega,by omega⟩,allK_le q4 (by omega),.inr ⟨by omega,by show ratI (i+1 - 1) 6000 m;rw[Nat.add_sub_cancel];exact ratI_to q7 (by omega)⟩⟩,by show 3 - (i+1)<3 - i;omega,(by exact eAx [(1000000,1000000),(3,3)])⟩
   · have hnm:nums ⟨ky,f,min (f+u3) 4001,u4,u5,u6,u7⟩:=by
      simp only[List.mem_cons,List.not_mem_nil,or_false]at hu4 hu5 hu6 hu7;refine⟨?_,?_,?_,?_⟩<;>unfold numO<;>dsimp only<;>omega
     exact⟨(_,m++ [⟨ky,f,min (f+u3) 4001,u4,u5,u6,u7⟩],min (f+u3) 4001+u8,k+1),⟨⟨by omega,by show _≤cc+6*((k+1:Nat):Int);omega,by show((k+1:Nat):Int)≤u2;omega⟩,allK_snoc q4 (by omega) (by show ky.length≤8;rw[hky];exact hkk),by show 0≤min (f+u3) 4001+u8;omega,by show min (f+u3) 4001+u8≤5000;omega,ratI_snoc (x:=⟨ky,f,min (f+u3) 4001,u4,u5,u6,u7⟩) q7 hi (by rw[hky,e1]) rfl q5 (by show f<min (f+u3) 4001;simp only[cond_false]at*;omega) (by show min (f+u3) 4001≤4001;omega) hnm (by show min (f+u3) 4001≤min (f+u3) 4001+u8;omega)⟩,by show u2.toNat - (k+1)<u2.toNat - k;omega,
      Entails.mk' [(1000000,1000000),(3,54)] rfl rfl ⟨lr,lr,lr,lr,lr,lr,lr,lr,lr,trivial⟩ ⟨rr,Res.le_snocF rfl,trivial⟩⟩
   · exact⟨(d,m,i+1),⟨⟨by omega,by show _≤a+30*((i+1:Nat):Int);omega,by omega⟩,allK_le q4 (by omega),.inr ⟨by omega,by show ratI (i+1 - 1) 6000 m;rw[Nat.add_sub_cancel];exact ratI_to q7 (by omega)⟩⟩,by show 3 - (i+1)<3 - i;omega,(by exact eAx [(1000000,1000000),(3,3)])⟩
 · conv=>whnf
   repeat' ((first|refine br_intro ?_ ?_<;>intro hb<;>try simp only[brs]at hb|refine tAx hT oATnA38 ?_|omega|refine sAx ?_|decide|assumption)<;>conv=>whnf)
   all_goals try(exfalso;omega)
   have hle:ratsE l=0:=by
    unfold ratsE;rw[if_neg (by omega)];rcases p5 with⟨e1,e2⟩|⟨e1,e2⟩
    · omega
    · exact firstAt_zero e2.ok
   refine .ret _ ?_;conv=>whnf
   exact⟨[(3,seqB 166 7 ratF rat0 l),(1000000,strm n L _)],⟨l,b,⟨allK_le p4 (by omega),hle⟩,⟨by omega,by omega⟩,rfl,rfl⟩,rr,rr,trivial⟩
def clsI (i:Nat)(l:List Cls):Prop:=l.length=4∧∀j,j<4→(l.getD j cls0).key=(cls4.getD j cls0).key∧((l.getD j cls0).up= []∨j<i∧∃k,k<j∧(l.getD j cls0).up=(cls4.getD k cls0).key)
theorem clsI_K {i:Nat}{l:List Cls}(h:clsI i l):∀x ∈ l,clsK x:=fun x hx=>by
 obtain⟨j,hj,rfl⟩:=mem_getD (d:=cls0) hx;obtain⟨h1,h2⟩:=h.2 j (by have:=h.1;omega);have hk:∀k,k<4→(cls4.getD k cls0).key.length≤8:=by decide
 have hj4:j<4:=by have:=h.1;omega
 refine⟨by rw[h1];exact hk j hj4,?_⟩;rcases h2 with e|⟨_,k,hk1,e⟩
 · rw[e];simp
 · rw[e];exact hk k (by omega)
theorem clsI_E {i:Nat}{l:List Cls}(h:clsI i l):clssE l=0:=by
 obtain⟨h1,h2⟩:=h
 match l,h1 with
 | [a, b,c,d],_=>
   obtain⟨a1,a2⟩:=h2 0 (by omega);obtain⟨b1,b2⟩:=h2 1 (by omega);obtain⟨c1,c2⟩:=h2 2 (by omega);obtain⟨d1,d2⟩:=h2 3 (by omega);obtain⟨ak,au⟩:=a;obtain⟨bk,bu⟩:=b;obtain⟨ck,cu⟩:=c;obtain⟨dk,du⟩:=d;simp only[List.getD_cons_zero,List.getD_cons_succ]at a1 a2 b1 b2 c1 c2 d1 d2;have ha:au= []:=by rcases a2 with e|⟨_,k,hk,_⟩;exact e;omega
   have hb:bu= []∨bu=(cls4.getD 0 cls0).key:=by
    rcases b2 with e|⟨_,k,hk,e⟩
    · exact .inl e
    · have:k=0:=by omega
      subst this;exact .inr e
   have hc:cu= []∨cu=(cls4.getD 0 cls0).key∨cu=(cls4.getD 1 cls0).key:=by
    rcases c2 with e|⟨_,k,hk,e⟩
    · exact .inl e
    · rcases(show k=0∨k=1 by omega)with r|r<;>subst r
      · exact .inr (.inl e)
      · exact .inr (.inr e)
   have hd:du= []∨du=(cls4.getD 0 cls0).key∨du=(cls4.getD 1 cls0).key∨du=(cls4.getD 2 cls0).key:=by
    rcases d2 with e|⟨_,k,hk,e⟩
    · exact .inl e
    · rcases(show k=0∨k=1∨k=2 by omega)with r|r|r<;>subst r
      · exact .inr (.inl e)
      · exact .inr (.inr (.inl e))
      · exact .inr (.inr (.inr e))
   subst a1 b1 c1 d1 ha;rcases hb with e|e<;>subst e<;>rcases hc with e|e|e<;>subst e<;>rcases hd with e|e|e|e<;>subst e<;>decide+kernel
theorem clsI_upd {i:Nat}{l:List Cls}(h:clsI i l)(hi:i<4){j:Nat}(hj:j<i):clsI (i+1) (updL l i cls0 fun y=>{y with up:=(l.getD j cls0).key}):=by
 refine⟨by unfold updL;rw[List.length_set];exact h.1,fun q hq=> ?_⟩;have hl:=h.1;unfold updL;rw[List.getD_eq_getElem?_getD,List.getElem?_set]
 by_cases e:i=q
 · subst e;rw[if_pos rfl,if_pos (by omega)];exact⟨(h.2 i hi).1,.inr ⟨by omega,j,hj,(h.2 j (by omega)).1⟩⟩
 · rw[if_neg e,←List.getD_eq_getElem?_getD];obtain⟨h1,h2⟩:=h.2 q hq;exact⟨h1,h2.imp id fun h3=>⟨by omega,h3.2⟩⟩
theorem clsI_skip {i:Nat}{l:List Cls}(h:clsI i l):clsI (i+1) l:=⟨h.1,fun q hq=>⟨(h.2 q hq).1,(h.2 q hq).2.imp id fun h3=>⟨by omega,h3.2⟩⟩⟩
theorem gClss (n:Nat)(L:Nat→Int)(hL:Rok n L)(a:Int)(h0:0≤a)(ha:a≤2^38):
 FSpec Tryz.prog 12 [.ptr 1000000 0] [(1000000,strm n L a)] (fun y r=>∃l:List Cls,∃b,clsI 4 l∧(a≤b∧b≤a+8)∧y= .buf 9∧r= [(9,seqB 115 2 clsF cls0 l),(1000000,strm n L b)]):=by
 refine spec_of hT (C:= [9]) Tryz.func12 rfl Tryz.call12 rfl rfl rfl ?_;conv=>whnf
 refine LoopX.rule hT (C:= []) (ι:=Int×List Cls×Nat) (fun(b,l,i)=>(a≤b∧b≤a+2*i)∧i≤4∧clsI i l)
  (fun(b,l,i)=>mkSt [(0,.ptr 1000000 0),(3,.buf 9),(11,.d (.int .i64 4)),(12,.d (.int .i64 i))] [(1000000,strm n L b),(9,seqB 115 2 clsF cls0 l)])
  (fun(_,_,i)=>4 - i) (a,cls4,0) ⟨⟨by simp,by simp⟩,by simp,rfl,by decide⟩ ?_ ?_
 · exact Entails.mk' [(1000000,1000000),(9,9)] rfl rfl ⟨lr,lr,lr,lr,trivial⟩ ⟨rr,Res.le_lit rfl rfl,trivial⟩
 rintro⟨b,l,i⟩ ⟨⟨p1,p2⟩,p3,p45⟩;have p45:clsI i l:=p45;have p1:a≤b:=p1;have p2:b≤a+2*i:=p2;have p3:i≤4:=p3;have p4:l.length=4:=p45.1;have e1:=tnc i;conv=>whnf
 repeat' (first|(refine oAx (s84 n L hL _ ?_ ?_ 3 ?_) [(1000000,1000000)] ?_;rotate_right;rintro x rout ⟨⟨w,rfl⟩,⟨c,c1,c2,rfl⟩⟩;refine⟨rfl,?_⟩;conv=>whnf)|(refine oAx (s86 n L hL _ ?_ ?_ _ ?_) [(1000000,1000000)] ?_;rotate_right;rintro x rout ⟨⟨j,hj1,hj2,hj3,rfl⟩,⟨c,c1,c2,rfl⟩⟩;refine⟨rfl,?_⟩;conv=>whnf)|((first|refine br_intro ?_ ?_<;>intro hb<;>try simp only[brs]at hb|omega|refine sAx ?_|decide|assumption)<;>conv=>whnf))
 · have p5:=clsI_K p45;have hu:clsK (l.getD j.toNat cls0):=p5 _ (getD_mem (by omega))
   refine⟨(c+1,updL l i cls0 (fun y=>{y with up:=(l.getD j.toNat cls0).key}),i+1),⟨⟨by omega,by show _≤a+2*((i+1:Nat):Int);omega⟩,by omega,clsI_upd p45 (by omega) (by omega)⟩,by show 4 - (i+1)<4 - i;omega,
    Entails.mk' [(1000000,1000000),(9,9)] rfl rfl ⟨lr,lr,lr,lr,trivial⟩ ⟨rr,?_,trivial⟩⟩
   exact Res.le_upd (fun y:Cls=>{y with up:=(l.getD j.toNat cls0).key}) (fun _=>rfl)
 · exact⟨(c,l,i+1),⟨⟨by omega,by show _≤a+2*((i+1:Nat):Int);omega⟩,by omega,clsI_skip p45⟩,by show 4 - (i+1)<4 - i;omega,(by exact eAx [(1000000,1000000),(9,9)])⟩
 · exact⟨(b,l,i+1),⟨⟨p1,by show _≤a+2*((i+1:Nat):Int);omega⟩,by omega,clsI_skip p45⟩,by show 4 - (i+1)<4 - i;omega,(by exact eAx [(1000000,1000000),(9,9)])⟩
 · refine .ret _ ?_;conv=>whnf
   exact⟨[(9,seqB 115 2 clsF cls0 l),(1000000,strm n L _)],⟨l,b,by rw[show(4:Nat)=i by omega];exact p45,⟨by omega,by omega⟩,rfl,rfl⟩,rr,rr,trivial⟩
theorem gRTariff (n:Nat)(L:Nat→Int)(hL:Rok n L)(a:Int)(h0:0≤a)(ha:a≤2^33):
 FSpec Tryz.prog 14 [.ptr 1000000 0] [(1000000,strm n L a)] (fun y r=>(∃t:Tar,(tarM t∧tarE t=0)∧y=tar t)∧Moved n L a 2200 r):=by
 refine spAx hT Tryz.func14 Tryz.call14 ?_;conv=>whnf
 refine LoopX.rule hT (C:= []) (ι:=Int×Nat) (fun(b,i)=>a≤b∧b≤a+250*i∧i≤8)
  (fun(b,i)=>mkSt [(0,.ptr 1000000 0),(2,.ptr 2 0),(4,.d (.int .i64 i))] [(1000000,strm n L b),(2,.cells 38 [.d .nilsl,.d .nilsl,.d .nilsl,.d .nilsl,.d .nilsl])])
  (fun(_,i)=>8 - i) (a,0) ⟨by simp,by simp,by simp⟩ (by exact eAx [(1000000,1000000),(2,2)]) ?_
 rintro⟨b,i⟩ ⟨p1,p2,p3⟩;have p1:a≤b:=p1;have p2:b≤a+250*i:=p2;have p3:i≤8:=p3;conv=>whnf
 repeat' (first|(refine oAx (yTariff n L hL _ ?_ ?_) [(1000000,1000000)] ?_;rotate_right;rintro x rout ⟨⟨t,ht,rfl⟩,⟨c,c1,c2,rfl⟩⟩;refine⟨rfl,?_⟩;conv=>whnf)|(refine CallX.pure (y84 _ ht.ok) ⟨lr,trivial⟩ rfl ?_;conv=>whnf)|(refine oAx (gRates n L hL _ ?_ ?_) [(1000000,1000000),(3,14)] ?_;rotate_right;rintro x rout ⟨l,c,⟨hl,hlE⟩,⟨c1,c2⟩,rfl,rfl⟩;refine⟨rfl,?_⟩;conv=>whnf)|((first|refine br_intro ?_ ?_<;>intro hb<;>try simp only[brs]at hb|omega|refine sAx ?_|decide|assumption)<;>conv=>whnf))
 all_goals try omega
 · refine .ret _ ?_;conv=>whnf
   exact⟨[(1000000,strm n L _)],⟨⟨t,⟨ht,by simpa using hb⟩,rfl⟩,_,by omega,by omega,rfl⟩,rr,trivial⟩
 · exact⟨(c,i+1),⟨by omega,by show _≤a+250*((i+1:Nat):Int);omega,by omega⟩,by show 8 - (i+1)<8 - i;omega,(by exact eAx [(1000000,1000000),(2,2)])⟩
 · refine .freeze _ 14 166 7 _ _ rfl (.ent _ _ (Entails.froCell 2 14 7 _ 0 _ rfl rfl rfl) (.weak _ ?_));conv=>whnf
   exact⟨tar ⟨l,[],[],[],[]⟩,[(1000000,strm n L _)],SV.le_agg ⟨lr,SV.le_nilS,SV.le_nilS,SV.le_nilS,SV.le_nilS,trivial⟩,⟨⟨⟨l,[],[],[],[]⟩,⟨⟨allK_le hl (by omega),⟨by simp,by simp⟩,⟨by simp,by simp⟩,⟨by simp,by simp⟩,⟨by simp,by simp⟩⟩,by unfold tarE;rw[hlE];rfl⟩,rfl⟩,_,by omega,by omega,rfl⟩,rr,trivial⟩
def vehI (i:Nat)(l:List Veh):Prop:=l.length=i∧∀j,j<i→(l.getD j veh0).key=vk3.getD j []∧((l.getD j veh0).cls= [109,105,110,105]∨(l.getD j veh0).cls= [109,105,100,105])
theorem vehI_snoc {i:Nat}{l:List Veh}(h:vehI i l){k c:List UInt8}(hk:k=vk3.getD i [])(hc:c ∈ [[109,105,110,105],[109,105,110,105],[109,105,100,105]]):vehI (i+1) (l++ [⟨k,c⟩]):=by
 refine⟨by rw[List.length_append,h.1];rfl,fun j hj=> ?_⟩;have hl:=h.1;rcases Nat.lt_or_ge j l.length with q|q
 · rw[getD_left q];exact h.2 j (by omega)
 · have:j=l.length:=by omega
   subst this;rw[getD_last];refine⟨by rw[hl];exact hk,?_⟩;simp only[List.mem_cons,List.not_mem_nil,or_false]at hc;show c=_∨c=_;rcases hc with e|e|e
   · exact .inl e
   · exact .inl e
   · exact .inr e
theorem clIx_hit {cl:List Cls}(h:clsI 4 cl){c:List UInt8}(hc:c= [109,105,110,105]∨c= [109,105,100,105]):¬clIx cl c<0:=by
 have h3:=(h.2 3 (by omega)).1;have h2:=(h.2 2 (by omega)).1;have hl:=h.1;unfold clIx;rcases hc with e|e
 · have:=ixF_pos (p:=fun i=>(cl.getD i cls0).key==c) (n:=cl.length) (k:=3) (by omega) (by rw[h3,e];decide);omega
 · have:=ixF_pos (p:=fun i=>(cl.getD i cls0).key==c) (n:=cl.length) (k:=2) (by omega) (by rw[h2,e];decide);omega
theorem houE_right {cl:List Cls}{l:List Veh}{t:Tar}{d:Dea}(hc:clsI 4 cl)(hv:vehI 3 l)(ht:tarE t=0)(hd:deaE d=0):houE ⟨⟨st2,cl,l,[]⟩,t,d⟩=0:=by
 have h1:fltE0 ⟨st2,cl,l,[]⟩=0:=by
  unfold fltE0
  dsimp only
  rw[clsI_E hc,show stasE st2=0 by decide+kernel,if_neg (by have:=hv.1;omega)];rfl
 have h2:firstAt (vehE1 ⟨st2,cl,l,[]⟩) l.length=0:=by
  refine firstAt_zero fun j hj=> ?_
  have hl:=hv.1;obtain⟨k1,k2⟩:=hv.2 j (by omega);have hk:∀j,j<3→isKeyB (vk3.getD j [])=true∧(0<j→strLe (vk3.getD j []) (vk3.getD (j - 1) [])=false):=by decide+kernel
  obtain⟨q1,q2⟩:=hk j (by omega);unfold vehE1
  dsimp only
  rw[k1,q1,if_neg (by simp),if_neg (fun c=>by
   rw[(hv.2 (j - 1) (by omega)).1,q2 c.1]at c;exact absurd c.2 (by simp)),if_neg (clIx_hit hc k2)]
 have h3:fltE ⟨st2,cl,l,[]⟩=0:=by
  unfold fltE;rw[h1,if_neg (fun c=>c rfl)]
  dsimp only
  rw[h2,if_neg (fun c=>c rfl)];rfl
 unfold houE
 dsimp only
 rw[h3,ht,hd];rfl
theorem gRHouse (n:Nat)(L:Nat→Int)(hL:Rok n L)(a:Int)(h0:0≤a)(ha:a≤2^32):
 FSpec Tryz.prog 4 [.ptr 1000000 0] [(1000000,strm n L a)] (fun y r=>(∃h:Hou,((houM h∧houE h=0)∧vehI 3 h.flt.veh)∧y=hou h)∧Moved n L a 2400 r):=by
 refine spAx hT Tryz.func4 Tryz.call4 ?_;conv=>whnf
 repeat' (first|(refine oAx (gClss n L hL _ ?_ ?_) [(1000000,1000000),(9,10)] ?_;rotate_right;rintro x rout ⟨cl,c,hcl,⟨c1,c2⟩,rfl,rfl⟩;refine⟨rfl,?_⟩;conv=>whnf)|((first|refine br_intro ?_ ?_<;>intro hb<;>try simp only[brs]at hb|refine tAx hT oATnA4 ?_|omega|refine sAx ?_|decide|assumption)<;>conv=>whnf))
 all_goals try omega
 obtain⟨cc,hcc⟩:∃cc:Int,cc=c:=⟨_,rfl⟩;have hclb:clsB cl:=⟨by have:=hcl.1;omega,clsI_K hcl⟩
 refine LoopX.rule hT (C:= []) (ι:=Int×List Veh×Nat) (fun(b,l,i)=>(cc≤b∧b≤cc+i∧i≤3)∧allK vehK i l∧vehI i l)
  (fun(b,l,i)=>mkSt [(0,.ptr 1000000 0),(2,.ptr 2 0),(3,.ptr 3 0),(12,.d (strs vk3)),(13,.d (.int .i64 3)),(14,.d (.int .i64 i))] [(1000000,strm n L b),(3,.cells 31 [.d (stas st2),.buf 10,.buf 20,.d .nilsl]),(10,seqB 115 2 clsF cls0 cl),(20,seqB 74 2 vehF veh0 l),(2,.cells 42 ([.d .nilsl,.d .nilsl,.d .nilsl,.d .nilsl,.d .nilsl,.d .nilsl,.d .nilsl,.d .nilsl,.d .nilsl]++(deaF dea0).map .d))])
  (fun(_,_,i)=>3 - i) (cc,[],0) ⟨⟨by simp,by simp,by simp⟩,⟨by simp,by simp⟩,rfl,by simp⟩ ?_ ?_
 · subst hcc
   exact(Entails.nilCell 3 20 74 2 2 (rowF vehF veh0 []) rfl rfl rfl (by decide) rfl).trans (Entails.mk' [(1000000,1000000),(3,3),(10,10),(20,20),(2,2)] rfl rfl ⟨lr,lr,lr,SV.le_lit rfl rfl,lr,lr,trivial⟩ ⟨rr,Res.le_cells rfl (by
    intro i x y hx hy
    match i with
    |0=>cases hx;cases hy;exact SV.le_lit rfl rfl
    |1=>cases hx;cases hy;exact lr
    |2=>cases hx;cases hy;exact lr
    |3=>cases hx;cases hy;exact lr
    |i+4=>cases hx),rr,rr,rr,trivial⟩)
 rintro⟨b,l,i⟩ ⟨⟨p1,p2,p3⟩,p4,p5⟩;have p5:vehI i l:=p5;have p1:cc≤b:=p1;have p2:b≤cc+i:=p2;have p3:i≤3:=p3;have p4:allK vehK i l:=p4;have hc3:vk3.length=3:=rfl;have hl1:l.length≤i:=p4.1;have hkk:(i:Int)<3→(vk3.getD (i:Int).toNat []).length≤8:=fun h=>mem_len (getD_mem (by omega)) rfl
 conv=>whnf
 repeat' (first|(refine CallX.of (s15 n L hL _ ?_ ?_ [[109,105,110,105],[109,105,110,105],[109,105,100,105]] (by simp) (by simp)) [(1000000,1000000)] rfl ⟨lr,SV.le_lit rfl rfl,trivial⟩ ⟨rr,trivial⟩ rfl rfl ?_;rotate_right;rintro x rout ⟨⟨v1,hv1,rfl⟩,⟨c,c1,c2,rfl⟩⟩;refine⟨rfl,?_⟩;conv=>whnf)|(refine oAx (gRTariff n L hL _ ?_ ?_) [(1000000,1000000)] ?_;rotate_right;rintro x rout ⟨⟨t,⟨ht,htE⟩,rfl⟩,⟨c,c1,c2,rfl⟩⟩;refine⟨rfl,?_⟩;conv=>whnf)|(refine oAx (yRDeal n L hL _ ?_ ?_) [(1000000,1000000)] ?_;rotate_right;rintro x rout ⟨⟨d,hd,rfl⟩,⟨c,c1,c2,rfl⟩⟩;refine⟨rfl,?_⟩;conv=>whnf)|((first|refine br_intro ?_ ?_<;>intro hb<;>try simp only[brs]at hb|refine tAx hT oATnA4 ?_|omega|refine sAx ?_|decide|assumption)<;>conv=>whnf))
 all_goals try omega
 · exact⟨(c,l++ [⟨vk3.getD (i:Int).toNat [],v1⟩],i+1),⟨⟨by omega,by show _≤cc+((i+1:Nat):Int);omega,by omega⟩,allK_snoc p4 (by omega) ⟨hkk (by omega),mem_len hv1 rfl⟩,vehI_snoc p5 (by rw[Int.toNat_natCast]) hv1⟩,by show 3 - (i+1)<3 - i;omega,
    Entails.mk' [(1000000,1000000),(3,3),(10,10),(20,26),(2,2)] rfl rfl ⟨lr,lr,lr,lr,lr,lr,trivial⟩ ⟨rr,rr,rr,Res.le_snocF rfl,rr,trivial⟩⟩
 · refine .freeze _ 10 115 2 _ _ rfl (.freeze _ 20 74 2 _ _ rfl (.ent _ _ (Entails.froCell 2 10 2 _ 1 _ rfl rfl rfl) (.ent _ _ (Entails.froCell 2 20 2 _ 2 _ rfl rfl rfl) (.weak _ ?_))));conv=>whnf
   exact⟨hou ⟨⟨st2,cl,l,[]⟩,t,d⟩,[(1000000,strm n L _)],SV.le_agg ⟨lr,lr,lr,SV.le_nilS,lr,lr,lr,lr,lr,lr,lr,lr,lr,lr,lr,lr,trivial⟩,⟨⟨⟨⟨st2,cl,l,[]⟩,t,d⟩,⟨⟨⟨⟨⟨by show st2.length≤4;decide,fun x hx=>by
    simp only[st2,List.mem_cons,List.not_mem_nil,or_false]at hx;rcases hx with rfl|rfl
    · show([115,49]:List UInt8).length≤8;decide
    · show([115,50]:List UInt8).length≤8;decide⟩,hclb,allK_le p4 (by omega),⟨by simp,by simp⟩⟩,ht⟩,houE_right hcl (by rw[show(3:Nat)=i by omega];exact p5) htE hd⟩,by show vehI 3 l;rw[show(3:Nat)=i by omega];exact p5⟩,rfl⟩,_,by omega,by omega,rfl⟩,rr,trivial⟩
theorem gREnt (n:Nat)(L:Nat→Int)(hL:Rok n L)(a:Int)(h0:0≤a)(ha:a≤2^35)(m:Int)(hm1:0≤m)(hm2:m≤20):
 FSpec Tryz.prog 5 [.ptr 1000000 0,.d (.int .i64 m)] [(1000000,strm n L a),(1000009,KX)] (fun y r=>∃l:List Ent,∃b,(allK entG m.toNat l∧entsE l=0)∧(a≤b∧b≤a+5000)∧y= .d (ents l)∧r= [(1000000,strm n L b),(1000009,KX)]):=by
 refine spAx hT Tryz.func5 Tryz.call5 ?_;conv=>whnf
 refine LoopX.rule hT (C:= []) (ι:=Int×Nat) (fun(b,k)=>(a≤b∧b≤a+1000*k)∧k≤5)
  (fun(b,k)=>mkSt [(0,.ptr 1000000 0),(1,.d (.int .i64 m)),(6,.d (.int .i64 k))] [(1000000,strm n L b),(1000009,KX)]) (fun(_,k)=>5 - k) (a,0) ⟨⟨by simp,by simp⟩,by simp⟩ (by exact eAx [(1000000,1000000),(1000009,1000009)]) ?_
 rintro⟨b,k⟩ ⟨⟨p1,p2⟩,p3⟩;have p1:a≤b:=p1;have p2:b≤a+1000*k:=p2;have p3:k≤5:=p3;conv=>whnf
 repeat' ((first|(refine oAx (lz9 n L hL b (by omega) (by omega) m hm1 hm2) [(1000000,1000000),(1000009,1000009),(5,10)] ?_;rintro x rout ⟨l,c,hl,⟨c1,c2⟩,rfl,rfl⟩;refine⟨rfl,?_⟩)|(refine CallX.freeze _ _ _ _ 10 123 4 _ _ rfl rfl ?_;refine pAx (lz12 l (entG_ok hl (by omega))) ?_)|refine br_intro ?_ ?_<;>intro hb<;>try simp only[brs]at hb|omega|refine sAx ?_|decide|assumption)<;>conv=>whnf)
 · refine .ret _ ?_;conv=>whnf
   exact⟨[(1000000,strm n L c),(1000009,KX)],⟨l,c,⟨hl,hb⟩,⟨by omega,by omega⟩,rfl,rfl⟩,rr,rr,trivial⟩
 · exact⟨(c,k+1),⟨⟨by show a≤c;omega,by show c≤a+1000*((k+1:Nat):Int);omega⟩,by show k+1≤5;omega⟩,by show 5 - (k+1)<5 - k;omega,(by exact eAx [(1000000,1000000),(1000009,1000009)])⟩
 · refine .weak _ ?_;conv=>whnf
   exact⟨_,[(1000000,strm n L b),(1000009,KX)],SV.le_nilS,⟨[],b,⟨⟨by simp,by simp⟩,rfl⟩,⟨by omega,by omega⟩,rfl,rfl⟩,rr,rr,trivial⟩
def oATlD34:TL:= [(1,[(0,[]),(1,[0]),(2,[0]),(3,[]),(4,[])])]
def staL:Sta:=⟨[115],fun k=>if k=1 then 9 else 0⟩
theorem tl91:FSpec Tryz.prog 67 [.agg ((staF staL).map .d),.d (.int .i64 0)] [] (fun x r=>x= .d (.int .i64 0)∧r= []):=by
 have hok:stasOk [staL]:=⟨by decide,fun c hc=>by rw[List.mem_singleton]at hc;subst hc;decide⟩;have hE:stasE [staL]=0:=by decide+kernel
 have h1:=z174 [staL] hok;rw[hE]at h1;have h3:=s105 [0,0] (by simp);refine spAx hT Tryz.func67 Tryz.call67 ?_;conv=>whnf
 repeat' ((first|refine CallX.pure h1 ⟨SV.le_lit (by rfl) (by rfl),trivial⟩ rfl ?_|refine CallX.pure h3 ⟨SV.le_lit (by rfl) (by rfl),trivial⟩ rfl ?_|refine br_intro ?_ ?_<;>intro hb<;>try simp only[brs]at hb|omega|refine sAx ?_|decide|assumption)<;>conv=>whnf)
 refine .ret _ ?_;conv=>whnf
 refine⟨[],⟨?_,rfl⟩,trivial⟩;conv=>lhs;whnf
 rfl
theorem tl92:FSpec Tryz.prog 69 [.agg ((staF staL).map .d),.d (.int .i64 0)] [] (fun x r=>x= .agg [.d (.int .i64 0),.d (.int .i64 9)]∧r= []):=by
 refine spAx hT Tryz.func69 Tryz.call69 ?_;conv=>whnf
 repeat' ((first|refine br_intro ?_ ?_<;>intro hb<;>try simp only[brs]at hb|omega|refine sAx ?_|decide|assumption)<;>conv=>whnf)
 refine .ret _ ?_;conv=>whnf
 refine⟨[],⟨?_,rfl⟩,trivial⟩;conv=>lhs;whnf
 rfl
theorem tl51:FSpec Tryz.prog 34 [.agg ((staF staL).map .d),.d (.int .i64 8)] [] (fun x r=>x= .tup [.d (.bool true),.d (.int .i64 0)]∧r= []):=by
 refine spAx hT Tryz.func34 Tryz.call34 ?_;conv=>whnf
 repeat' (first|(refine CallX.exact (z220 8) rfl rfl ?_;rotate_right;conv=>whnf)|(refine CallX.exact (tl91) rfl rfl ?_;rotate_right;conv=>whnf)|(refine CallX.exact (tl92) rfl rfl ?_;rotate_right;conv=>whnf)|((first|refine br_intro ?_ ?_<;>intro hb<;>try simp only[brs]at hb|refine tAx hT oATlD34 ?_|omega|refine sAx ?_|decide|assumption)<;>conv=>whnf))
 refine .ret _ ?_;conv=>whnf
 refine⟨[],⟨congrArg SV.tup ?_,rfl⟩,trivial⟩;repeat' (refine cons_eq ?_ ?_)
 all_goals (conv=>lhs;whnf)
 all_goals try(with_reducible rfl)
 all_goals rfl
theorem tl11:FSpec Tryz.prog 11 [] [] (fun x r=>x= .d (.bool true)∧r= []):=by
 refine spAx hT Tryz.func11 Tryz.call11 ?_;conv=>whnf
 repeat' (first|(refine CallX.exact (tl51) rfl rfl ?_;rotate_right;conv=>whnf)|((first|refine br_intro ?_ ?_<;>intro hb<;>try simp only[brs]at hb|omega|refine sAx ?_|decide|assumption)<;>conv=>whnf))
 refine .ret _ ?_;conv=>whnf
 refine⟨[],⟨?_,rfl⟩,trivial⟩;conv=>lhs;whnf
theorem offH_of {h:Hou}{l:List Ent}{k:Nat}(hh:houM h)(hE:houE h=0)(hG:allK entG k l)(hk:k≤400)(hlE:entsE l=0):offH h l:=
 ⟨hh.ok,entG_ok hG (by omega),by have:=hG.1;omega,fun x hx=>by have:=(hG.2 x hx).1.2;omega,hE,hlE⟩
abbrev v1K:List UInt8:= [118,49]
theorem v1_in {l:List Veh}(h:vehI 3 l):v1K ∈ l.map (·.key):=
 List.mem_map.2 ⟨l.getD 0 veh0,getD_mem (by rw[h.1];decide),(h.2 0 (by decide)).1⟩
theorem paidF_snoc (S:List Pair)(p:Pair):paidF (S++ [p])=if p.1= []then p.2 else paidF S:=by
 unfold paidF;rw[List.foldl_append];rfl
theorem sumP_bd {S:List Pair}{c:Int}(h:∀p ∈ S,0≤p.2∧p.2≤c):∀i,i≤S.length→0≤((S.take i).map (·.2)).sum∧((S.take i).map (·.2)).sum≤c*i:=by
 intro i
 induction i with
 |zero=>intro _;simp
 | succ i ih=>
   intro hi;have h1:=ih (by omega);have h2:=h _ (getD_mem (x:=(([],0):Pair)) (show i<S.length by omega));have e:c*((i+1:Nat):Int)=c*i+c:=by rw[Int.natCast_add,Int.mul_add];simp
   rw[take_snocD (d:=(([],0):Pair)) (by omega),List.map_append,List.sum_append,e];simp only[List.map_cons,List.map_nil,List.sum_cons,List.sum_nil];omega
theorem damage (a b c t:Int)(hab:(0≤a∧a<b)∧b≤5000)(hc:0≤c∧c≤99999)(ht:0≤t∧t≤b - a):0≤c*(b - a - t)∧c*(b - a - t)≤99999*5000∧0≤(c*(b - a - t)).tdiv (b - a)∧(c*(b - a - t)).tdiv (b - a)≤99999*5000:=by
 have h0:0≤c*(b - a - t):=Int.mul_nonneg hc.1 (by omega);have h1:c*(b - a - t)≤99999*5000:=Int.le_trans (Int.mul_le_mul_of_nonneg_right hc.2 (by omega)) (Int.mul_le_mul_of_nonneg_left (by omega) (by decide));have h2:(c*(b - a - t)).tdiv (b - a)=c*(b - a - t)/(b - a):=Int.tdiv_eq_ediv_of_nonneg h0;have h3:0≤c*(b - a - t)/(b - a):=Int.ediv_nonneg h0 (by omega);have h4:c*(b - a - t)/(b - a)≤c*(b - a - t):=Int.ediv_le_self _ h0;rw[h2];omega
theorem z3 (n:Nat)(L:Nat→Int)(hn:n≤maxLen)(hL0:∀i,-2^63≤L i∧L i<2^63):
 FSpec Tryz.prog 3 [.d (.ro 1 n fun i=> [.int .i64 (L i)])] kx (fun x r=>x= .d (.bool true)∧r=kx):=by
 have hL:Rok n L:=⟨hn,hL0⟩;refine spAx hT Tryz.func3 Tryz.call3 ?_;conv=>whnf
 repeat' (first|(refine oAx (gRHouse n L hL _ ?_ ?_) [(1000000,23)] ?_;rotate_right;rintro x rout ⟨⟨h,⟨⟨hh,hE⟩,hv⟩,rfl⟩,⟨c,c1,c2,rfl⟩⟩;refine⟨rfl,?_⟩;conv=>whnf)|(refine CallX.of (s64 n L hL _ ?_ ?_ 4 20 (by omega) (by omega) (by omega) (by omega)) [(1000000,23)] rfl ⟨lr,lr,lr,trivial⟩ ⟨rr,trivial⟩ rfl rfl ?_;rotate_right;rintro x rout ⟨⟨m1,hm1,hm2,rfl⟩,⟨c,c1,c2,rfl⟩⟩;refine⟨rfl,?_⟩;conv=>whnf)|(refine CallX.of (gREnt n L hL _ ?_ ?_ m1 (by omega) (by omega)) [(1000000,23),(1000009,1000009)] rfl ⟨lr,lr,trivial⟩ ⟨rr,rr,trivial⟩ rfl rfl ?_;rotate_right;rintro x rout ⟨l,b,⟨hG,hlE⟩,⟨b1,b2⟩,rfl,rfl⟩;refine⟨rfl,?_⟩;conv=>whnf)|((first|refine br_intro ?_ ?_<;>intro hb<;>try simp only[brs]at hb|omega|refine sAx ?_|decide|assumption)<;>conv=>whnf))
 all_goals try omega
 have k:=offH_of hh hE hG (by omega) hlE;have hl20:l.length≤20:=by have:=hG.1;omega
 have cH:=wHires h l k;have cL:=wLog h l k;rw[show(keysS (offZ h l).his.has).map (hirG (offZ h l).his)=hirZ h l from rfl]at cH;obtain⟨r1,r2,r3,r4⟩:=hires_rightK k;have hfE:fltE h.flt=0:=houE_flt k.hE;obtain⟨g1,g2,g3⟩:=log_right k;have hI:offI (2*l.length) l.length (offZ h l):=offN_I h _ _ l l.length (Nat.le_refl _)
 have hll:(isort evCmp (offZ h l).log).length≤3000:=by
  rw[(isort_perm evCmp (offZ h l).log).length_eq];have:=hI.log;omega
 have cS:=fun a b hab=>wSpentIn h.flt k.hou.1 (fltE_parts hfE).2 hfE (isort evCmp (offZ h l).log) hll g1 g2 g3 v1K (v1_in hv) a b hab
 have cD:=fun(a b c:Int) hab hc=>dmg_all k hl20 (v:=v1K) (by decide) (a:=a) (b:=b) (c:=c) hab hc
 have hHl:(hirZ h l).length≤20:=by omega
 clear hI hll g1 g2 g3 r2 r4;generalize hirZ h l=H at cH r1 r3 cD hHl;generalize isort evCmp (offZ h l).log=lg at cL cS cD;repeat' (first|((first|(refine oEx cH [(1000009,1000009)] ?_)|(refine oEx cL [(1000009,1000009)] ?_))<;>conv=>whnf)|(refine CallX.of (s64 n L hL _ ?_ ?_ 0 400 (by omega) (by omega) (by omega) (by omega)) [(1000000,23)] rfl ⟨lr,lr,lr,trivial⟩ ⟨rr,trivial⟩ rfl rfl ?_;rotate_right;rintro x rout ⟨⟨a,ha1,ha2,rfl⟩,⟨c3,c4,c5,rfl⟩⟩;refine⟨rfl,?_⟩;conv=>whnf)|(refine CallX.of (s64 n L hL _ ?_ ?_ 401 5000 (by omega) (by omega) (by omega) (by omega)) [(1000000,23)] rfl ⟨lr,lr,lr,trivial⟩ ⟨rr,trivial⟩ rfl rfl ?_;rotate_right;rintro x rout ⟨⟨b2,hb1,hb2,rfl⟩,⟨c6,c7,c8,rfl⟩⟩;refine⟨rfl,?_⟩;conv=>whnf)|(refine CallX.of (s64 n L hL _ ?_ ?_ 0 99999 (by omega) (by omega) (by omega) (by omega)) [(1000000,23)] rfl ⟨lr,lr,lr,trivial⟩ ⟨rr,trivial⟩ rfl rfl ?_;rotate_right;rintro x rout ⟨⟨ce,hc1,hc2,rfl⟩,⟨c9,c10,c11,rfl⟩⟩;refine⟨rfl,?_⟩;conv=>whnf)|((first|refine br_intro ?_ ?_<;>intro hb<;>try simp only[brs]at hb|omega|refine sAx ?_|decide|assumption)<;>conv=>whnf))
 all_goals try omega
 obtain⟨d1,d2,S,d3,d4⟩:=cD a b2 ce ⟨by omega,by omega,by omega⟩ ⟨by omega,by omega⟩;have cS:=cS a b2 ⟨by omega,by omega,by omega⟩;have cB:=z33 v1K (by decide) a b2 H r1 hHl d2 d1 ce;rw[d3]at cB;unfold blPost at cB;obtain⟨K,hK⟩:∃K,K=fun k=>spK a b2 k (byV v1K lg):=⟨_,rfl⟩
 rw[←hK]at cS;have d4:dmgOk a b2 ce S (K 2):=by rw[hK];exact d4
 repeat' ((first|refine pAx cB ?_|refine pAx cS ?_|refine br_intro ?_ ?_<;>intro hb<;>try simp only[brs]at hb|omega|refine sAx ?_|decide|assumption)<;>conv=>whnf)
 all_goals try(exfalso;omega)
 have hbd:=d4.bd;have hsl:=d4.len;have hdm:=damage a b2 ce (K 2) ⟨⟨by omega,by omega⟩,by omega⟩ ⟨by omega,by omega⟩ d4.hired;have hS:((S.take S.length).map (·.2)).sum=ce:=by rw[List.take_length];exact d4.sum
 have hO:paidF (S.take S.length)=(ce*(b2 - a - K 2)).tdiv (b2 - a)∨paidF (S.take S.length)=(ce*(b2 - a - K 2)).tdiv (b2 - a)+1:=by rw[List.take_length];exact d4.off
 have hT2:=d4.hired;clear d4 cB cS
 refine LoopX.rule hT (C:= []) (ι:=Nat) (fun i=>i≤S.length) (fun i=>mkSt [(10,.ptr 10 0),(11,.d (.int .i64 ce)),(14,.ptr 14 0),(16,.d (.int .i64 ((S.take i).map (·.2)).sum)),(17,.d (.int .i64 (paidF (S.take i)))),(78,.d (pairs S)),(79,.d (.int .i64 S.length)),(80,.d (.int .i64 i))]
  [(1000009,KX),(10,.cells 55 [.d (.int .i64 a),.d (.int .i64 b2)]),(14,.cells 60 [.d (.int .i64 (K 0)),.d (.int .i64 (K 1)),.d (.int .i64 (K 2)),.d (.int .i64 (K 3)),.d (.int .i64 (K 4)),.d (.int .i64 (K 5))])]) (fun i=>S.length - i) 0 (Nat.zero_le _) ?_ ?_
 · exact Entails.mk' [(1000009,1000009),(10,10),(14,14)] rfl rfl ⟨lr,lr,lr,lr,lr,lr,lr,lr,trivial⟩ ⟨rr,rr,rr,trivial⟩
 intro i hi;have hi:i≤S.length:=hi;have e1:=tnc i;rcases Nat.lt_or_ge i S.length with hin|hin
 · obtain⟨y,hy⟩:∃y,y=S.getD (i:Int).toNat ([],0):=⟨_,rfl⟩;have hy':S.getD i ([],0)=y:=by rw[hy,e1]
   have hyb:=hbd y (by rw[←hy'];exact getD_mem hin);have hsb:=sumP_bd (S:=S) (c:=100000) (fun p hp=>by have:=hbd p hp;omega) i hi;have ht:S.take (i+1)=S.take i++ [y]:=by rw[←hy'];exact take_snocD (d:=(([],0):Pair)) hin
   have hsum:((S.take i).map (·.2)).sum+y.2=((S.take (i+1)).map (·.2)).sum:=by
    rw[ht,List.map_append,List.sum_append];simp
   have hpd:paidF (S.take (i+1))=if y.1= []then y.2 else paidF (S.take i):=by rw[ht,paidF_snoc]
   conv=>whnf
   repeat' (first|(rw[←hy];conv=>whnf)|((first|(refine And.intro (show inI64 (((S.take i).map (·.2)).sum+y.2)by unfold inI64;omega) ?_)|refine br_intro ?_ ?_<;>intro hb<;>try simp only[brs]at hb|omega|refine sAx ?_|decide|assumption)<;>conv=>whnf))
   all_goals try(exfalso;omega)
   · exact⟨i+1,by show i+1≤_;omega,by show S.length - (i+1)<S.length - i;omega,Entails.mk' [(1000009,1000009),(10,10),(14,14)] rfl rfl ⟨lr,lr,lr,SV.le_int hsum,SV.le_int (by rw[hpd,if_pos hb]),lr,lr,SV.le_int (by omega),trivial⟩ ⟨rr,rr,rr,trivial⟩⟩
   · exact⟨i+1,by show i+1≤_;omega,by show S.length - (i+1)<S.length - i;omega,Entails.mk' [(1000009,1000009),(10,10),(14,14)] rfl rfl ⟨lr,lr,lr,SV.le_int hsum,SV.le_int (by rw[hpd,if_neg hb]),lr,lr,SV.le_int (by omega),trivial⟩ ⟨rr,rr,rr,trivial⟩⟩
 · have hiS:i=S.length:=by omega
   subst hiS;conv=>whnf
   repeat' (first|(refine CallX.exact (tl11) rfl rfl ?_;rotate_right;conv=>whnf)|((first|(refine And.intro (show inI64 (ce*(b2 - a - K 2))by unfold inI64;omega) ?_)|(refine And.intro (show inI64 ((ce*(b2 - a - K 2)).tdiv (b2 - a))by unfold inI64;omega) ?_)|refine br_intro ?_ ?_<;>intro hb<;>try simp only[brs]at hb|omega|refine sAx ?_|decide|assumption)<;>conv=>whnf))
   all_goals try(exfalso;omega)
   all_goals
    refine .ret _ ?_;conv=>whnf
    exact⟨kx,⟨rfl,rfl⟩,rr,trivial⟩
end Go.Proofs.YtghhghijalcdfaaGreatDoor
