/- TopTollsOnce is proved: for every input the law returns true, and its argument reads afterwards as it read before. Conditions: those of the given row alone. -/
import Derived.Test.YtjibpcoeghlnoaaGreatDoorTtConTwo
import Derived.Test.YtjibpcoeghlnoaaGreatDoorTtConTri
import Derived.Test.YtjibpcoeghlnoaaGreatDoorTtConOne
import Derived.Test.YtjibpcoeghlnoaaGreatDoorTtEngOne
set_option linter.unusedVariables false
set_option linter.unusedSimpArgs false
set_option maxRecDepth 20000
namespace Go.Proofs.YtjibpcoeghlnoaaGreatDoor
open Go Go.Eng
theorem s63 (n:Nat)(L:Nat→Int)(hL:Rok n L)(a:Int)(h0:0≤a)(ha:a≤2^38)(m:Int)(hm1:0≤m)(hm2:m≤12):
 FSpec Tryz.prog 8 [.ptr 1000000 0,.d (.int .i64 m)] [(1000000,strm n L a)] (fun y r=>(∃l,pSh l m.toNat∧y= .d (pass l))∧Moved n L a 60 r):=by
 refine spec_of hT (C:= []) Tryz.func8 rfl Tryz.call8 rfl rfl rfl ?_;conv=>whnf
 refine LoopX.rule hT (C:= []) (ι:=Int×List Pas×Nat) (fun(b,l,k)=>(a≤b∧b≤a+4*k∧(k:Int)≤m)∧pSh l k)
  (fun(b,l,k)=>mkSt [(0,.ptr 1000000 0),(5,.buf 5),(7,.d (.int .i64 m)),(8,.d (.int .i64 k))] [(1000000,strm n L b),(5,seqB 70 4 paF pa0 l)])
  (fun(_,_,k)=>12 - k) (a,[],0) ⟨⟨by simp,by simp,by simpa using hm1⟩,⟨by simp,by simp⟩⟩ ?_ ?_
 · exact(Entails.nil 5 5 70 4 (rowF paF pa0 []) rfl rfl (by decide)).trans (by exact eAx [(1000000,1000000),(5,5)])
 rintro⟨b,l,k⟩ ⟨⟨p1,p2,p3⟩,q1⟩;have hl1:=q1.1;conv=>whnf
 repeat' (first|(refine CallX.of (s33 n L hL _ ?_ ?_ [5,10,60,62,66,72,100,105,150,300,1440,1500,1501] ?_ ?_) [(1000000,1000000)] rfl ⟨lr,SV.le_lit rfl rfl,trivial⟩ ⟨rr,trivial⟩ rfl rfl ?_;rotate_right;rintro x rout ⟨⟨u1,hu1,rfl⟩,⟨c,c1,c2,rfl⟩⟩;refine⟨rfl,?_⟩;conv=>whnf)|(refine CallX.of (s15 n L hL _ ?_ ?_ [[103,49],[103,49],[103,50],[103,51]] ?_ ?_) [(1000000,1000000)] rfl ⟨lr,SV.le_lit rfl rfl,trivial⟩ ⟨rr,trivial⟩ rfl rfl ?_;rotate_right;rintro x rout ⟨⟨u2,hu2,rfl⟩,⟨c,c1,c2,rfl⟩⟩;refine⟨rfl,?_⟩;conv=>whnf)|(refine CallX.of (s15 n L hL _ ?_ ?_ [[65,66,49],[65,66,49],[65,66,50],[90,90,57]] ?_ ?_) [(1000000,1000000)] rfl ⟨lr,SV.le_lit rfl rfl,trivial⟩ ⟨rr,trivial⟩ rfl rfl ?_;rotate_right;rintro x rout ⟨⟨u3,hu3,rfl⟩,⟨c,c1,c2,rfl⟩⟩;refine⟨rfl,?_⟩;conv=>whnf)|(refine CallX.of (s33 n L hL _ ?_ ?_ [0,30,30,80,500] ?_ ?_) [(1000000,1000000)] rfl ⟨lr,SV.le_lit rfl rfl,trivial⟩ ⟨rr,trivial⟩ rfl rfl ?_;rotate_right;rintro x rout ⟨⟨u4,hu4,rfl⟩,⟨c,c1,c2,rfl⟩⟩;refine⟨rfl,?_⟩;conv=>whnf)|((first|(refine br_intro ?_ ?_<;>intro hb<;>try simp only[brs]at hb)|omega|refine sAx ?_|decide|assumption)<;>conv=>whnf))
 · refine⟨(_,_,k+1),?_,?_,Entails.mk' [(1000000,1000000),(5,25)] rfl rfl ⟨lr,lr,lr,lr,trivial⟩ ⟨rr,Res.le_snocF (x:=⟨_,_,_,_⟩) rfl,trivial⟩⟩
   · exact⟨⟨by omega,by omega,by omega⟩,pSh_snoc q1 ⟨mem_len hu2 rfl,mem_len hu3 rfl,mem_bd hu1 rfl,mem_bd hu4 rfl⟩⟩
   · show 12 - (k+1)<12 - k;omega
 have hcmp:∀l':List Pas,(∀x ∈ l',x ∈ l)→∀p q,p ∈ l'→q ∈ l'→FSpec Tryz.prog 30 [.agg ((paF p).map .d),.agg ((paF q).map .d)] [] (fun y r=>y= .d (.int .i64 (pasCmp p q))∧r= []):=
  fun l' hs p q hp hq=>s127 p q (q1.2 p (hs p hp)).2.2.1 (q1.2 q (hs q hq)).2.2.1
 have heq:∀l':List Pas,(∀x ∈ l',x ∈ l)→∀p q,p ∈ l'→q ∈ l'→FSpec Tryz.prog 32 [.agg ((paF p).map .d),.agg ((paF q).map .d)] [] (fun y r=>y= .d (.bool (decide (pasCmp p q=0)))∧r= []):=
  fun l' hs p q hp hq=>s129 p q (q1.2 p (hs p hp)).2.2.1 (q1.2 q (hs q hq)).2.2.1
 refine CallX.of (s126 30 pasCmp l (by omega) (hcmp l fun _ h=>h)) [(1000001,5)] rfl ⟨lr,lr,trivial⟩ ⟨rr,trivial⟩ rfl rfl ?_;rintro x rout ⟨rfl,c,hc,rfl⟩;refine⟨rfl,?_⟩;conv=>whnf
 repeat' (first|((first|(refine br_intro ?_ ?_<;>intro hb<;>try simp only[brs]at hb)|omega|refine sAx ?_|decide|assumption)<;>conv=>whnf))
 refine oAx (s128 32 (fun p q=>decide (pasCmp p q=0)) c (by have:=hc.1;omega) (heq c hc.2)) [(1000001,5),(64,100)] ?_;rintro x rout ⟨e,he,d,hd,rfl,rfl⟩;have hsh:pSh e m.toNat:=⟨by have:=hc.1;have:=he.1;omega,fun p hp=>q1.2 p (hc.2 p (he.2 p hp))⟩;have hl2:=hsh.1;clear hcmp heq;rcases hd with rfl|rfl
 · refine⟨rfl,?_⟩;conv=>whnf
   repeat' (first|(refine CallX.of (s84 n L hL _ ?_ ?_ _ ?_) [(1000000,1000000)] rfl ⟨lr,lr,trivial⟩ ⟨rr,trivial⟩ rfl rfl ?_;rotate_right;rintro x rout ⟨⟨f,rfl⟩,⟨c,c1,c2,rfl⟩⟩;refine⟨rfl,?_⟩;conv=>whnf)|(refine CallX.of (s86 n L hL _ ?_ ?_ _ ?_) [(1000000,1000000)] rfl ⟨lr,lr,trivial⟩ ⟨rr,trivial⟩ rfl rfl ?_;rotate_right;rintro x rout ⟨⟨j,hj1,hj2,hj3,rfl⟩,⟨c,c1,c2,rfl⟩⟩;refine⟨rfl,?_⟩;conv=>whnf)|(refine CallX.of (s104 n L hL _ ?_ ?_ _ _ ?_ ?_ ?_) [(1000000,1000000)] rfl ⟨lr,lr,lr,trivial⟩ ⟨rr,trivial⟩ rfl rfl ?_;rotate_right;rintro x rout ⟨⟨u5,hk1,hk2,rfl⟩,⟨c,c1,c2,rfl⟩⟩;refine⟨rfl,?_⟩;conv=>whnf)|(refine CallX.of (s15 n L hL _ ?_ ?_ [[110,111,110,101],[],[65]] ?_ ?_) [(1000000,1000000)] rfl ⟨lr,SV.le_lit rfl rfl,trivial⟩ ⟨rr,trivial⟩ rfl rfl ?_;rotate_right;rintro x rout ⟨⟨u4,hu4,rfl⟩,⟨c,c1,c2,rfl⟩⟩;refine⟨rfl,?_⟩;conv=>whnf)|(refine CallX.of (s15 n L hL _ ?_ ?_ [[97],[],[97,98,49]] ?_ ?_) [(1000000,1000000)] rfl ⟨lr,SV.le_lit rfl rfl,trivial⟩ ⟨rr,trivial⟩ rfl rfl ?_;rotate_right;rintro x rout ⟨⟨u4,hu4,rfl⟩,⟨c,c1,c2,rfl⟩⟩;refine⟨rfl,?_⟩;conv=>whnf)|((first|(refine br_intro ?_ ?_<;>intro hb<;>try simp only[brs]at hb)|omega|refine sAx ?_|decide|assumption)<;>conv=>whnf))
   all_goals
    refine .freeze _ 5 70 4 _ _ rfl (.weak _ ?_)
    (conv=>whnf)
   · refine⟨_,[(1000000,strm n L _)],SV.le_upd (fun p=>⟨u5,p.gate,p.plate,p.cents⟩) (fun _=>rfl),⟨⟨_,?_,rfl⟩,_,by omega,by omega,rfl⟩,rr,trivial⟩;exact pSh_put hsh (Nat.le_refl _) (fun h=>⟨(hsh.2 _ (getD_mem h)).1,(hsh.2 _ (getD_mem h)).2.1,⟨hk1,hk2⟩,(hsh.2 _ (getD_mem h)).2.2.2⟩)
   · refine⟨_,[(1000000,strm n L _)],SV.le_upd (fun p=>⟨p.tm,u4,p.plate,p.cents⟩) (fun _=>rfl),⟨⟨_,?_,rfl⟩,_,by omega,by omega,rfl⟩,rr,trivial⟩;exact pSh_put hsh (Nat.le_refl _) (fun h=>⟨mem_len hu4 rfl,(hsh.2 _ (getD_mem h)).2⟩)
   · refine⟨_,[(1000000,strm n L _)],SV.le_upd (fun p=>⟨p.tm,p.gate,u4,p.cents⟩) (fun _=>rfl),⟨⟨_,?_,rfl⟩,_,by omega,by omega,rfl⟩,rr,trivial⟩;exact pSh_put hsh (Nat.le_refl _) (fun h=>⟨(hsh.2 _ (getD_mem h)).1,mem_len hu4 rfl,(hsh.2 _ (getD_mem h)).2.2⟩)
   · refine⟨_,[(1000000,strm n L _)],SV.le_upd (fun p=>⟨p.tm,p.gate,p.plate,u5⟩) (fun _=>rfl),⟨⟨_,?_,rfl⟩,_,by omega,by omega,rfl⟩,rr,trivial⟩;exact pSh_put hsh (Nat.le_refl _) (fun h=>⟨(hsh.2 _ (getD_mem h)).1,(hsh.2 _ (getD_mem h)).2.1,(hsh.2 _ (getD_mem h)).2.2.1,hk1,hk2⟩)
   all_goals exact⟨_,[(1000000,strm n L _)],lr,⟨⟨e,hsh,rfl⟩,_,by omega,by omega,rfl⟩,rr,trivial⟩
 · refine⟨rfl,?_⟩;conv=>whnf
   repeat' (first|(refine CallX.of (s84 n L hL _ ?_ ?_ _ ?_) [(1000000,1000000)] rfl ⟨lr,lr,trivial⟩ ⟨rr,trivial⟩ rfl rfl ?_;rotate_right;rintro x rout ⟨⟨f,rfl⟩,⟨c,c1,c2,rfl⟩⟩;refine⟨rfl,?_⟩;conv=>whnf)|(refine CallX.of (s86 n L hL _ ?_ ?_ _ ?_) [(1000000,1000000)] rfl ⟨lr,lr,trivial⟩ ⟨rr,trivial⟩ rfl rfl ?_;rotate_right;rintro x rout ⟨⟨j,hj1,hj2,hj3,rfl⟩,⟨c,c1,c2,rfl⟩⟩;refine⟨rfl,?_⟩;conv=>whnf)|(refine CallX.of (s104 n L hL _ ?_ ?_ _ _ ?_ ?_ ?_) [(1000000,1000000)] rfl ⟨lr,lr,lr,trivial⟩ ⟨rr,trivial⟩ rfl rfl ?_;rotate_right;rintro x rout ⟨⟨u5,hk1,hk2,rfl⟩,⟨c,c1,c2,rfl⟩⟩;refine⟨rfl,?_⟩;conv=>whnf)|(refine CallX.of (s15 n L hL _ ?_ ?_ [[110,111,110,101],[],[65]] ?_ ?_) [(1000000,1000000)] rfl ⟨lr,SV.le_lit rfl rfl,trivial⟩ ⟨rr,trivial⟩ rfl rfl ?_;rotate_right;rintro x rout ⟨⟨u4,hu4,rfl⟩,⟨c,c1,c2,rfl⟩⟩;refine⟨rfl,?_⟩;conv=>whnf)|(refine CallX.of (s15 n L hL _ ?_ ?_ [[97],[],[97,98,49]] ?_ ?_) [(1000000,1000000)] rfl ⟨lr,SV.le_lit rfl rfl,trivial⟩ ⟨rr,trivial⟩ rfl rfl ?_;rotate_right;rintro x rout ⟨⟨u4,hu4,rfl⟩,⟨c,c1,c2,rfl⟩⟩;refine⟨rfl,?_⟩;conv=>whnf)|((first|(refine br_intro ?_ ?_<;>intro hb<;>try simp only[brs]at hb)|omega|refine sAx ?_|decide|assumption)<;>conv=>whnf))
   all_goals
    refine .freeze _ 100 70 4 _ _ rfl (.weak _ ?_)
    (conv=>whnf)
   · refine⟨_,[(1000000,strm n L _)],SV.le_upd (fun p=>⟨u5,p.gate,p.plate,p.cents⟩) (fun _=>rfl),⟨⟨_,?_,rfl⟩,_,by omega,by omega,rfl⟩,rr,trivial⟩;exact pSh_put hsh (Nat.le_refl _) (fun h=>⟨(hsh.2 _ (getD_mem h)).1,(hsh.2 _ (getD_mem h)).2.1,⟨hk1,hk2⟩,(hsh.2 _ (getD_mem h)).2.2.2⟩)
   · refine⟨_,[(1000000,strm n L _)],SV.le_upd (fun p=>⟨p.tm,u4,p.plate,p.cents⟩) (fun _=>rfl),⟨⟨_,?_,rfl⟩,_,by omega,by omega,rfl⟩,rr,trivial⟩;exact pSh_put hsh (Nat.le_refl _) (fun h=>⟨mem_len hu4 rfl,(hsh.2 _ (getD_mem h)).2⟩)
   · refine⟨_,[(1000000,strm n L _)],SV.le_upd (fun p=>⟨p.tm,p.gate,u4,p.cents⟩) (fun _=>rfl),⟨⟨_,?_,rfl⟩,_,by omega,by omega,rfl⟩,rr,trivial⟩;exact pSh_put hsh (Nat.le_refl _) (fun h=>⟨(hsh.2 _ (getD_mem h)).1,mem_len hu4 rfl,(hsh.2 _ (getD_mem h)).2.2⟩)
   · refine⟨_,[(1000000,strm n L _)],SV.le_upd (fun p=>⟨p.tm,p.gate,p.plate,u5⟩) (fun _=>rfl),⟨⟨_,?_,rfl⟩,_,by omega,by omega,rfl⟩,rr,trivial⟩;exact pSh_put hsh (Nat.le_refl _) (fun h=>⟨(hsh.2 _ (getD_mem h)).1,(hsh.2 _ (getD_mem h)).2.1,(hsh.2 _ (getD_mem h)).2.2.1,hk1,hk2⟩)
   all_goals exact⟨_,[(1000000,strm n L _)],lr,⟨⟨e,hsh,rfl⟩,_,by omega,by omega,rfl⟩,rr,trivial⟩
theorem s130 (D C F:Int)(l:List Pas)(hl:l.length≤1000)(hp:∀p ∈ l,0≤p.tm∧p.tm≤5761439):
 FSpec Tryz.prog 39 [.agg [.d (.int .i64 D),.d (.int .i64 C),.d (.int .i64 F)],.d (pass l)] [] (fun x r=>x= .d (seqD 1 bF false (fillA false (dblB D l) l.length l.length))∧r= []):=by
 refine spec_of hT (C:= []) Tryz.func39 rfl Tryz.call39 rfl rfl rfl ?_;conv=>whnf
 repeat' (first|((first|(refine br_intro ?_ ?_<;>intro hb<;>try simp only[brs]at hb)|omega|refine sAx ?_|decide|assumption)<;>conv=>whnf))
 refine LoopX.rule hT (C:= []) (ι:=Nat) (fun i=>i≤l.length) (fun i=>mkSt [(2,.ptr 2 0),(5,.mp 5),(6,.buf 6),(16,.d (pass l)),(17,.d (.int .i64 l.length)),(18,.d (.int .i64 i))] [(2,.cells 62 [.d (.int .i64 D),.d (.int .i64 C),.d (.int .i64 F)]),(5,seenR (dblM D l i)),(6,seqB 4 1 bF false (fillA false (dblB D l) l.length i))]) (fun i=>l.length - i) 0 (by omega) ?_ ?_
 · refine Entails.mk' [(2,2),(5,12),(6,15)] rfl rfl ⟨lr,lr,lr,lr,lr,lr,trivial⟩ ⟨rr,Res.le_map (fun key hk=> ?_),Res.le_buf (by rw[fillA_length];rfl) (fun j hj=> ?_),trivial⟩
   · obtain⟨a,b,rfl⟩:=wk_ss hk;exact⟨rfl,rfl⟩
   · have hj:j<l.length:=hj;rw[rowF_lt (by rw[fillA_length];exact hj)];simp[fillA,bF];rfl
 rintro i p1;have e1:(i:Int).toNat=i:=Int.toNat_natCast i;have hpi:(i:Int)<l.length→0≤(l.getD (i:Int).toNat pa0).tm∧(l.getD (i:Int).toNat pa0).tm≤5761439:=fun hi=>hp _ (getD_mem (by omega))
 have hlen:(fillA false (dblB D l) l.length i).length=l.length:=fillA_length
 have hm:∀q,0≤(dblM D l i q).getD 0∧(dblM D l i q).getD 0≤5761439:=fun q=>by
  cases hq:dblM D l i q with
  |none=>simp
  |some t=>simpa using dblM_bd hp i p1 q t hq
 have hm0:=hm ((l.getD (i:Int).toNat pa0).plate,(l.getD (i:Int).toNat pa0).gate);conv=>whnf
 repeat' (first|(refine And.intro (rfl:zrow _=some [DV.int .i64 0]) ?_;conv=>whnf)|(simp only[Nat.beq_refl,cond_true];conv=>whnf)|((first|(refine br_intro ?_ ?_<;>intro hb<;>try simp only[brs]at hb)|omega|refine sAx ?_|decide|assumption)<;>conv=>whnf))
 · rename_i hb1;have hB:dblB D l i=false:=by rw[dblB_eq,decide_eq_false (by omega),Bool.and_false]
   have hM:∀a b,dblM D l (i+1) (a,b)=if a=(l.getD i pa0).plate∧b=(l.getD i pa0).gate then some (l.getD i pa0).tm else dblM D l i (a,b):=fun a b=>by
    rw[dblM,if_neg (by show ¬dblB D l i=true;rw[hB];simp)];simp[Prod.ext_iff]
   refine⟨i+1,by omega,by omega,Entails.mk' [(2,2),(5,5),(6,6)] rfl rfl ⟨lr,lr,lr,lr,lr,lr,trivial⟩ ⟨rr,Res.le_map (fun key hk=> ?_),?_,trivial⟩⟩
   · obtain⟨a,b,rfl⟩:=wk_ss hk;rw[e1];simp only[keyEq,keyEq1,Bool.and_true,mHas,mVal,hM]
     by_cases hab:a=(l.getD i pa0).plate∧b=(l.getD i pa0).gate
     · rw[if_pos hab,hab.1,hab.2];simp
     · rw[if_neg hab]
       have:(a==(l.getD i pa0).plate&&b==(l.getD i pa0).gate)=false:=by
        cases hq:(a==(l.getD i pa0).plate&&b==(l.getD i pa0).gate)with
        |false=>rfl
        |true=>simp at hq;exact absurd hq hab
       rw[this];simp
   · rw[←fillA_set' (x:=false) hB.symm]
     first
      |exact Res.le_putF (fun y _=>rfl)
      | (refine Res.le_putF (x:=false) (fun y _=> ?_)
         show [DV.bool _]= [DV.bool _]
         rw[e1];simpa using hb)
 · rename_i hb1;have hB:dblB D l i=true:=by rw[dblB_eq,decide_eq_true hb,Bool.and_true];exact hb1
   refine⟨i+1,by omega,by omega,Entails.mk' [(2,2),(5,5),(6,6)] rfl rfl ⟨lr,lr,lr,lr,lr,lr,trivial⟩ ⟨rr,?_,?_,trivial⟩⟩
   · have:dblM D l (i+1)=dblM D l i:=by rw[dblM];exact if_pos hB
     rw[this];exact rr
   · rw[←fillA_set' (x:=decide ((l.getD (i:Int).toNat pa0).tm - (dblM D l i ((l.getD (i:Int).toNat pa0).plate,(l.getD (i:Int).toNat pa0).gate)).getD 0<D)) (by rw[hB,e1];simpa using hb)];exact Res.le_putF (fun y _=>rfl)
 · have hB:dblB D l i=false:=by
    rw[dblB_eq,Bool.and_eq_false_iff];exact .inl hb
   have hM:∀a b,dblM D l (i+1) (a,b)=if a=(l.getD i pa0).plate∧b=(l.getD i pa0).gate then some (l.getD i pa0).tm else dblM D l i (a,b):=fun a b=>by
    rw[dblM,if_neg (by show ¬dblB D l i=true;rw[hB];simp)];simp[Prod.ext_iff]
   refine⟨i+1,by omega,by omega,Entails.mk' [(2,2),(5,5),(6,6)] rfl rfl ⟨lr,lr,lr,lr,lr,lr,trivial⟩ ⟨rr,Res.le_map (fun key hk=> ?_),?_,trivial⟩⟩
   · obtain⟨a,b,rfl⟩:=wk_ss hk;rw[e1];simp only[keyEq,keyEq1,Bool.and_true,mHas,mVal,hM]
     by_cases hab:a=(l.getD i pa0).plate∧b=(l.getD i pa0).gate
     · rw[if_pos hab,hab.1,hab.2];simp
     · rw[if_neg hab]
       have:(a==(l.getD i pa0).plate&&b==(l.getD i pa0).gate)=false:=by
        cases hq:(a==(l.getD i pa0).plate&&b==(l.getD i pa0).gate)with
        |false=>rfl
        |true=>simp at hq;exact absurd hq hab
       rw[this];simp
   · rw[←fillA_set' (x:=false) hB.symm]
     first
      |exact Res.le_putF (fun y _=>rfl)
      | (refine Res.le_putF (x:=false) (fun y _=> ?_)
         show [DV.bool _]= [DV.bool _]
         rw[e1];simpa using hb)
 · refine .freeze _ 6 4 1 _ _ rfl ?_;have:i=l.length:=by omega
   subst this;refine .ret _ ?_;conv=>whnf
   refine⟨[],⟨?_,rfl⟩,trivial⟩;conv=>lhs;whnf
theorem chk_on {g:List Gate}{l:List Pas}(h:chkE g l=0):∀j,j<l.length→0≤gateIx g (l.getD j pa0).gate∧0≤trueT g (l.getD j pa0)∧trueT g (l.getD j pa0)≤5761439:=by
 unfold chkE at h
 have h0:firstAt (onG g l) l.length=0:=by
  split at h
  · exact absurd h (by assumption)
  · split at h
    · exact absurd h (by assumption)
    · exact h
 intro j hj;have:=firstAt_all h0 j hj;unfold onG at this;grind
theorem fltE_veh {f:Flt}(h:fltE f=0):∀j,j<f.veh.length→vehE1 f j=0:=by
 unfold fltE at h
 have h0:firstAt (vehE1 f) f.veh.length=0:=by
  split at h
  · exact absurd h (by assumption)
  · split at h
    · exact absurd h (by assumption)
    · rename_i q;simpa using q
 exact firstAt_all h0
structure Cgx where
 hir:List UInt8
 veh:List UInt8
 ix:Int
 cents:Int
deriving DecidableEq
def cgF:Cgx→List DV:=fun c=> [.str c.hir,.str c.veh,.int .i64 c.ix,.int .i64 c.cents]
def cg0:Cgx:=⟨[],[],0,0⟩
abbrev cgxs (l:List Cgx):DV:=seqD 4 cgF cg0 l
structure CgC where
 X:List Cgx
 tm:Nat→Int
 ar:Nat→List UInt8
 C:Int
def CgC.day (c:CgC)(k:Nat):Int:=(c.tm k).tdiv 1440
def CgC.x (c:CgC)(k:Nat):Cgx:=c.X.getD k cg0
def CgC.same (c:CgC)(o k:Nat):Prop:=(c.x o).hir=(c.x k).hir∧c.day o=c.day k∧c.ar o=c.ar k
def CgC.lex (c:CgC)(o k:Nat):Prop:=c.tm o<c.tm k∨c.tm o=c.tm k∧o<k
instance (c:CgC)(o k:Nat):Decidable (c.same o k):=by unfold CgC.same;infer_instance
instance (c:CgC)(o k:Nat):Decidable (c.lex o k):=by unfold CgC.lex;infer_instance
def CgC.bef (c:CgC)(k:Nat):Nat→Int
 |0=>0
 |m+1=>c.bef k m+(if c.same m k∧c.lex m k then(c.x m).cents else 0)
def CgC.cap (c:CgC)(k:Nat):Int:=if(c.x k).hir= []then(c.x k).cents else max 0 (min (c.x k).cents (c.C - c.bef k c.X.length))
def CgC.capX (c:CgC)(k:Nat):Cgx:={c.x k with cents:=c.cap k}
def CgC.out (c:CgC):List Cgx:=(List.range c.X.length).map c.capX
structure CgC.Ok (c:CgC):Prop where
 C0:0≤c.C
 C1:c.C≤2^40
 len:c.X.length≤1000
 cents:∀k,0≤(c.x k).cents∧(c.x k).cents≤2^40
structure CgC.Ord (c:CgC)(S:List Nat):Prop where
 perm:S.Perm (List.range c.X.length)
 pw:S.Pairwise c.lex
def CgC.paid (c:CgC)(S:List Nat)(a b:List UInt8)(d:Int):Int:=(S.map fun o=>if(c.x o).hir=a∧c.day o=d∧c.ar o=b then(c.x o).cents else 0).sum
theorem bill_all {α:Type}[DecidableEq α](C:List (α×Int)):∀K:List α,K.Nodup→(K.map fun y=>(C.map fun c=>if c.1=y then c.2 else 0).sum).sum=(C.map fun c=>if c.1 ∈ K then c.2 else 0).sum:=by
 intro K hK
 induction K with
 |nil=>simp;induction C with|nil=>rfl|cons c C ih=>simpa using ih
 | cons y K ih=>
   rw[List.map_cons,List.sum_cons,ih (List.nodup_cons.1 hK).2];have hy:=(List.nodup_cons.1 hK).1;clear ih hK
   induction C with
   |nil=>rfl
   | cons c C ih=>
     simp only[List.map_cons,List.sum_cons]
     have e:(if c.1=y then c.2 else 0)+(if c.1 ∈ K then c.2 else 0)=if c.1 ∈ y::K then c.2 else 0:=by
      by_cases h:c.1=y
      · subst h;simp[hy]
      · simp[h]
     omega
theorem bill_none {α:Type}[DecidableEq α](C:List (α×Int))(e:α){K:List α}(hK:K.Nodup)(he:e ∉ K)(hC:∀c ∈ C,c.1≠e→c.1 ∈ K):(K.map fun y=>(C.map fun c=>if c.1=y then c.2 else 0).sum).sum=(C.map fun c=>if c.1=e then 0 else c.2).sum:=by
 rw[bill_all C K hK];congr 1
 apply List.map_congr_left
 intro c hc
 by_cases h:c.1=e
 · simp[h,he]
 · simp[h,hC c hc h]
def oKTlC58_10:OL:= [(0,[]),(1,[]),(2,[]),(3,[]),(4,[]),(5,[3,4]),(6,[3,4,5]),(7,[3,4,5]),(8,[3,4]),(9,[3,4]),(10,[3,4]),(11,[]),(12,[]),(13,[])]
def cxE (l:List Cgx)(i:Nat):Int:=
 if((l.getD i cg0).hir≠ []∧isKeyB (l.getD i cg0).hir=false)∨((l.getD i cg0).veh≠ []∧isKeyB (l.getD i cg0).veh=false)then 5 else if(l.getD i cg0).ix<0 then 1
 else if 0<i∧(l.getD i cg0).ix≤(l.getD (i - 1) cg0).ix then 7 else if ¬ (0≤(l.getD i cg0).cents∧(l.getD i cg0).cents≤1000000)then 1 else 0
def cxsE (l:List Cgx):Int:=if 1000<l.length then 2 else firstAt (cxE l) l.length
theorem tl58 (l:List Cgx)(hk:l.length≤2^40∧∀c ∈ l,c.hir.length≤2^40∧c.veh.length≤2^40):FSpec Tryz.prog 58 [.d (cgxs l)] [] (fun x r=>x= .d (.int .i64 (cxsE l))∧r= []):=by
 have hkl:=hk.1;refine spec_of hT (C:= []) Tryz.func58 rfl Tryz.call58 rfl rfl rfl ?_;conv=>whnf
 refine br_intro (fun h0=> ?_) (fun h0=> ?_)
 · simp at h0;conv=>whnf
   refine .ret _ ?_;conv=>whnf
   refine⟨[],⟨?_,rfl⟩,trivial⟩;conv=>lhs;whnf
   unfold cxsE;rw[if_pos (by omega)]
 simp at h0;conv=>whnf
 refine LoopX.rule hT (C:= []) (ι:=Nat) (fun i=>i≤l.length∧∀j,j<i→cxE l j=0) (fun i=>mkSt [(0,.d (cgxs l)),(8,.d (cgxs l)),(9,.d (.int .i64 l.length)),(10,.d (.int .i64 i))] []) (fun i=>l.length - i) 0 ⟨by omega,by omega⟩ (by exact eAx []) ?_;rintro i ⟨p1,p2⟩;have hx:(i:Int)<l.length→(l.getD (i:Int).toNat cg0).hir.length≤2^40∧(l.getD (i:Int).toNat cg0).veh.length≤2^40:=fun hi=>hk.2 _ (getD_mem (by omega))
 have e1:(i:Int).toNat=i:=Int.toNat_natCast i
 have hbad:∀e:Int,i<l.length→e≠0→cxE l i=e→cxsE l=e:=fun e h h1 h2=>by
  unfold cxsE;rw[if_neg (by omega)];exact firstAt_eq h p2 h1 h2
 conv=>whnf
 repeat' (first|(refine CallX.exact (s108 _ (hx (by omega)).1) rfl rfl ?_;rotate_right;conv=>whnf)|(refine CallX.exact (s108 _ (hx (by omega)).2) rfl rfl ?_;rotate_right;conv=>whnf)|(refine CallX.exact (s119 _ _ _) rfl rfl ?_;rotate_right;conv=>whnf)|((first|(refine br_intro ?_ ?_<;>intro hb<;>try simp only[brs]at hb)|refine rAx hT 10 oKTlC58_10 ?_|omega|refine sAx ?_|decide|assumption)<;>conv=>whnf))
 all_goals first
  |(refine⟨i+1,⟨by omega,first_step p2 (by clear p2 hbad hk hx;simp only[e1,toNat_pred]at*;unfold cxE;grind)⟩,by omega,(by exact eAx [])⟩)
  | (refine .ret _ ?_
     conv=>whnf
     refine⟨[],⟨?_,rfl⟩,trivial⟩;conv=>lhs;whnf
     congr 2
     first
      |exact(hbad _ (by omega) (by decide) (by clear p2 hbad hk hx;simp only[e1,toNat_pred]at*;unfold cxE;grind)).symm
      | (have:i=l.length:=by omega
         subst this
         unfold cxsE;rw[if_neg (by omega),firstAt_zero p2]))
def cxSum (l:List Cgx)(k:List UInt8):Int:=(l.map fun c=>if c.hir=k then c.cents else 0).sum
theorem cxSum_snoc {l:List Cgx}{k:List UInt8}{i:Nat}(h:i<l.length):cxSum (l.take (i+1)) k=cxSum (l.take i) k+if(l.getD i cg0).hir=k then(l.getD i cg0).cents else 0:=by
 rw[take_snocD (d:=cg0) h];simp[cxSum]
theorem cxSum_bd {l:List Cgx}{k:List UInt8}(hl:∀c ∈ l,0≤c.cents∧c.cents≤1000000):0≤cxSum l k∧cxSum l k≤1000000*l.length:=by
 induction l with
 |nil=>simp[cxSum]
 | cons x l ih=>
   have h1:=hl x List.mem_cons_self;have h2:=ih (fun y hy=>hl y (List.mem_cons_of_mem _ hy));simp only[cxSum,List.map_cons,List.sum_cons,List.length_cons]at h2 ⊢;rw[show((l.length+1:Nat):Int)=(l.length:Int)+1 by push_cast;rfl,Int.mul_add,Int.mul_one];split<;>omega
def linX (s:Int):List Lin:=if 0<s then [⟨6,[116,111,108,108],s⟩]else []
set_option maxHeartbeats 2000000 in
theorem tl17 (l:List Cgx)(hk:l.length≤500∧∀c ∈ l,(c.hir.length≤2^40∧c.veh.length≤2^40)∧0≤c.cents∧c.cents≤1000000)(E:cxsE l=0)(k:List UInt8)(hkk:isKeyB k=true)(hkl:k.length≤2^40):
 FSpec Tryz.prog 17 [.agg [.d (.int .i64 0),.d (.int .i64 (-1)),.d (.int .i64 0)],.d (cgxs l),.d (.str k)] []
  (fun x r=>x= .tup [.d (lins (linX (cxSum l k))),.d (.int .i64 0)]∧r= []):=by
 have hT0:tollE 0 (-1) 0=0:=by decide
 have h3:=s105 [tollE 0 (-1) 0,cxsE l,if(!isKeyB k)=true then 5 else 0] (by simp);have h0:firstE [tollE 0 (-1) 0,cxsE l,if(!isKeyB k)=true then 5 else 0]=0:=by rw[hT0,E,hkk];rfl
 rw[h0]at h3;have hll:=hk.1;refine spec_of hT (C:= []) Tryz.func17 rfl Tryz.call17 rfl rfl rfl ?_;conv=>whnf
 repeat' (first|(refine CallX.exact (s66 _ _ _) rfl rfl ?_;rotate_right;conv=>whnf)|(refine CallX.exact (tl58 l ⟨by omega,fun c hc=>(hk.2 c hc).1⟩) rfl rfl ?_;rotate_right;conv=>whnf)|(refine CallX.exact (s108 _ hkl) rfl rfl ?_;rotate_right;conv=>whnf)|(refine CallX.exact (s107 _ _) rfl rfl ?_;rotate_right;conv=>whnf)|((first|refine CallX.pure h3 ⟨SV.le_lit (by rfl) (by rfl),trivial⟩ rfl ?_|(refine br_intro ?_ ?_<;>intro hb<;>try simp only[brs]at hb)|omega|refine sAx ?_|decide|assumption)<;>conv=>whnf))
 all_goals try(exfalso;omega)
 have hsm:∀i,i≤l.length→0≤cxSum (l.take i) k∧cxSum (l.take i) k≤1000000*i:=fun i hi=>by
  have:=cxSum_bd (l:=l.take i) (k:=k) (fun x hx=>(hk.2 x (List.mem_of_mem_take hx)).2);rwa [List.length_take,Nat.min_eq_left hi]at this
 refine LoopX.rule hT (C:= []) (ι:=Nat) (fun i=>i≤l.length) (fun i=>mkSt [(2,.d (.str k)),(3,.ptr 3 0),(9,.d (.int .i64 (cxSum (l.take i) k))),(26,.d (cgxs l)),(27,.d (.int .i64 l.length)),(28,.d (.int .i64 i))] [(3,.cells 62 [.d (.int .i64 0),.d (.int .i64 (-1)),.d (.int .i64 0)])]) (fun i=>l.length - i) 0 (by omega) (by exact eAx [(3,3)]) ?_;rintro i p1;have e1:(i:Int).toNat=i:=Int.toNat_natCast i;have hs0:=hsm i p1;have hg:(i:Int)<l.length→0≤(l.getD (i:Int).toNat cg0).cents∧(l.getD (i:Int).toNat cg0).cents≤1000000:=fun h=>by rw[e1];exact(hk.2 _ (getD_mem (by omega))).2
 conv=>whnf
 repeat' (first|((first|(refine br_intro ?_ ?_<;>intro hb<;>try simp only[brs]at hb)|omega|refine sAx ?_|decide|assumption)<;>conv=>whnf))
 all_goals try
  (refine⟨i+1,by omega,by omega,Entails.mk' [(3,3)] rfl rfl ⟨lr,lr,SV.le_int ?_,lr,lr,lr,trivial⟩ ⟨rr,trivial⟩⟩
   rw[cxSum_snoc (by omega)]
   first
    |(rw[if_pos hb,e1])
    |rw[if_pos hb]
    |(rw[if_neg hb];omega))
 all_goals
  have:i=l.length:=by omega
  subst this;rw[List.take_length]at*
 · have hE:linX (cxSum l k)= [⟨6,[116,111,108,108],cxSum l k⟩]:=by unfold linX;rw[if_pos (by assumption)]
   rw[hE];refine .freeze _ 49 155 3 _ _ rfl (.weak _ ?_);conv=>whnf
   refine⟨_,[],SV.le_tup (m:= [.d (lins [⟨6,[116,111,108,108],cxSum l k⟩]),.d (.int .i64 0)]) ⟨SV.le_ro rfl (fun i hi=> ?_),lr,trivial⟩,⟨rfl,rfl⟩,trivial⟩;rcases i with _|i
   · rfl
   · exact absurd hi (by show ¬ (i+1<1);omega)
 · have hE:linX (cxSum l k)= []:=by unfold linX;rw[if_neg (by omega)]
   rw[hE];refine .weak _ ?_;conv=>whnf
   exact⟨_,[],SV.le_tup (m:= [.d (lins []),.d (.int .i64 0)]) ⟨SV.le_nilS,lr,trivial⟩,⟨rfl,rfl⟩,trivial⟩
def linE1 (l:List Lin)(i:Nat):Int:=if ¬ (1≤(l.getD i li0).kind∧(l.getD i li0).kind≤6)then 4 else if isKeyB (l.getD i li0).key=false then 5 else if ¬ (-1000000000≤(l.getD i li0).cents∧(l.getD i li0).cents≤1000000000)then 1 else 0
def linsE (l:List Lin):Int:=if 1000<l.length then 2 else firstAt (linE1 l) l.length
theorem tl59 (l:List Lin)(hk:l.length≤2^40∧∀x ∈ l,x.key.length≤2^40):FSpec Tryz.prog 59 [.d (lins l)] [] (fun x r=>x= .d (.int .i64 (linsE l))∧r= []):=by
 have hkl:=hk.1;refine spec_of hT (C:= []) Tryz.func59 rfl Tryz.call59 rfl rfl rfl ?_;conv=>whnf
 refine br_intro (fun h0=> ?_) (fun h0=> ?_)
 · simp at h0;conv=>whnf
   refine .ret _ ?_;conv=>whnf
   refine⟨[],⟨?_,rfl⟩,trivial⟩;conv=>lhs;whnf
   unfold linsE;rw[if_pos (by omega)]
 simp at h0;conv=>whnf
 refine LoopX.rule hT (C:= []) (ι:=Nat) (fun i=>i≤l.length∧∀j,j<i→linE1 l j=0) (fun i=>mkSt [(8,.d (lins l)),(9,.d (.int .i64 l.length)),(10,.d (.int .i64 i))] []) (fun i=>l.length - i) 0 ⟨by omega,by omega⟩ (by exact eAx []) ?_;rintro i ⟨p1,p2⟩;have hx:(i:Int)<l.length→(l.getD (i:Int).toNat li0).key.length≤2^40:=fun hi=>hk.2 _ (getD_mem (by omega))
 have e1:(i:Int).toNat=i:=Int.toNat_natCast i
 have hbad:∀e:Int,i<l.length→e≠0→linE1 l i=e→linsE l=e:=fun e h h1 h2=>by
  unfold linsE;rw[if_neg (by omega)];exact firstAt_eq h p2 h1 h2
 conv=>whnf
 repeat' (first|(refine CallX.exact (s108 _ (hx (by omega))) rfl rfl ?_;rotate_right;conv=>whnf)|(refine CallX.exact (s119 _ _ _) rfl rfl ?_;rotate_right;conv=>whnf)|((first|(refine br_intro ?_ ?_<;>intro hb<;>try simp only[brs]at hb)|omega|refine sAx ?_|decide|assumption)<;>conv=>whnf))
 all_goals first
  |(refine⟨i+1,⟨by omega,first_step p2 (by clear p2 hbad hk hx;simp only[e1]at*;unfold linE1;grind)⟩,by omega,(by exact eAx [])⟩)
  | (refine .ret _ ?_
     conv=>whnf
     refine⟨[],⟨?_,rfl⟩,trivial⟩;conv=>lhs;whnf
     congr 2
     first
      |exact(hbad _ (by omega) (by decide) (by clear p2 hbad hk hx;simp only[e1]at*;unfold linE1;grind)).symm
      | (have:i=l.length:=by omega
         subst this
         unfold linsE;rw[if_neg (by omega),firstAt_zero p2]))
def linS (l:List Lin):Int:=(l.map (·.cents)).sum
theorem linS_snoc {l:List Lin}{i:Nat}(h:i<l.length):linS (l.take (i+1))=linS (l.take i)+(l.getD i li0).cents:=by
 rw[take_snocD (d:=li0) h];simp[linS]
theorem linS_bd {l:List Lin}(hl:∀c ∈ l,-1000000000≤c.cents∧c.cents≤1000000000): -1000000000*l.length≤linS l∧linS l≤1000000000*l.length:=by
 induction l with
 |nil=>simp[linS]
 | cons x l ih=>
   have h1:=hl x List.mem_cons_self;have h2:=ih (fun y hy=>hl y (List.mem_cons_of_mem _ hy));simp only[linS,List.map_cons,List.sum_cons,List.length_cons]at h2 ⊢;rw[show((l.length+1:Nat):Int)=(l.length:Int)+1 by push_cast;rfl,Int.mul_add,Int.mul_add,Int.mul_one,Int.mul_one];omega
theorem tl60 (l:List Lin)(hn:l.length≤1000)(hl:∀c ∈ l,-1000000000≤c.cents∧c.cents≤1000000000):FSpec Tryz.prog 60 [.d (lins l)] [] (fun x r=>x= .d (.int .i64 (linS l))∧r= []):=by
 have hsm:∀i,i≤l.length→-1000000000*i≤linS (l.take i)∧linS (l.take i)≤1000000000*i:=fun i hi=>by
  have:=linS_bd (l:=l.take i) (fun x hx=>hl x (List.mem_of_mem_take hx));rwa [List.length_take,Nat.min_eq_left hi]at this
 refine spec_of hT (C:= []) Tryz.func60 rfl Tryz.call60 rfl rfl rfl ?_;conv=>whnf
 repeat' (first|((first|(refine br_intro ?_ ?_<;>intro hb<;>try simp only[brs]at hb)|omega|refine sAx ?_|decide|assumption)<;>conv=>whnf))
 refine LoopX.rule hT (C:= []) (ι:=Nat) (fun i=>i≤l.length) (fun i=>mkSt [(3,.d (.int .i64 (linS (l.take i)))),(6,.d (lins l)),(7,.d (.int .i64 l.length)),(8,.d (.int .i64 i))] []) (fun i=>l.length - i) 0 (by omega) (by exact eAx []) ?_;rintro i p1;have e1:(i:Int).toNat=i:=Int.toNat_natCast i;have hs0:=hsm i p1;have hg:(i:Int)<l.length→-1000000000≤(l.getD (i:Int).toNat li0).cents∧(l.getD (i:Int).toNat li0).cents≤1000000000:=fun h=>hl _ (getD_mem (by omega))
 conv=>whnf
 repeat' (first|((first|(refine br_intro ?_ ?_<;>intro hb<;>try simp only[brs]at hb)|omega|refine sAx ?_|decide|assumption)<;>conv=>whnf))
 · refine⟨i+1,by omega,by omega,Entails.mk' [] rfl rfl ⟨SV.le_int ?_,lr,lr,lr,trivial⟩ trivial⟩;rw[linS_snoc (by omega),e1]
 · have:i=l.length:=by omega
   subst this;rw[List.take_length];refine .ret _ ?_;conv=>whnf
   refine⟨[],⟨?_,rfl⟩,trivial⟩;conv=>lhs;whnf
theorem tl18 (l : List Lin) (hk : ∀x ∈ l,x.key.length≤2^40)(E:linsE l=0):FSpec Tryz.prog 18 [.d (lins l)] [] (fun x r=>x= .tup [.d (.int .i64 (linS l)),.d (.int .i64 0)]∧r= []):=by
 have hn : l.length ≤ 1000 := by unfold linsE at E;split at E; · cases E
                                 · omega
 have hl:∀c ∈ l,-1000000000≤c.cents∧c.cents≤1000000000:=fun c hc=>by
  obtain⟨j,hj,rfl⟩:=mem_getD (d:=li0) hc;unfold linsE at E;rw[if_neg (by omega)]at E;have:=firstAt_all E j hj;unfold linE1 at this;grind
 have h59:=tl59 l ⟨by omega,hk⟩;rw[E]at h59;refine spec_of hT (C:= []) Tryz.func18 rfl Tryz.call18 rfl rfl rfl ?_;conv=>whnf
 repeat' (first|(refine CallX.exact (h59) rfl rfl ?_;rotate_right;conv=>whnf)|(refine CallX.exact (tl60 l hn hl) rfl rfl ?_;rotate_right;conv=>whnf)|((first|(refine br_intro ?_ ?_<;>intro hb<;>try simp only[brs]at hb)|omega|refine sAx ?_|decide|assumption)<;>conv=>whnf))
 refine .ret _ ?_;conv=>whnf
 refine⟨[],⟨congrArg SV.tup ?_,rfl⟩,trivial⟩;repeat' (refine cons_eq ?_ ?_)
 all_goals (conv=>lhs;whnf)
 all_goals try(with_reducible rfl)
theorem linX_E {s:Int}(hs:0≤s∧s≤1000000000):linsE (linX s)=0∧linS (linX s)=s∧∀x ∈ linX s,x.key.length≤2^40:=by
 unfold linX
 by_cases q:0<s
 · rw[if_pos q];refine⟨?_,by simp[linS],by simp⟩;unfold linsE;rw[if_neg (by simp)];refine firstAt_zero fun j hj=> ?_
   have hj:j<1:=hj;have:j=0:=by omega
   subst this;unfold linE1;rw[if_neg (by simp),if_neg (by simp;decide),if_neg (by simp;omega)]
 · rw[if_neg q];exact⟨rfl,by show(0:Int)=s;omega,by simp⟩
def oKTlD51_1:OL:= [(0,[]),(1,[0]),(2,[0]),(3,[]),(4,[])]
def staL:Sta:=⟨[115],fun k=>if k=1 then 9 else 0⟩
theorem tl91:FSpec Tryz.prog 91 [.agg ((staF staL).map .d),.d (.int .i64 0)] [] (fun x r=>x= .d (.int .i64 0)∧r= []):=by
 have hok:stasOk [staL]:=⟨by decide,fun c hc=>by rw[List.mem_singleton]at hc;subst hc;decide⟩;have hE:stasE [staL]=0:=by decide+kernel
 have h1:=z174 [staL] hok;rw[hE]at h1;have h3:=s105 [0,0] (by simp);refine spec_of hT (C:= []) Tryz.func91 rfl Tryz.call91 rfl rfl rfl ?_;conv=>whnf
 repeat' (first|((first|refine CallX.pure h1 ⟨SV.le_lit (by rfl) (by rfl),trivial⟩ rfl ?_|refine CallX.pure h3 ⟨SV.le_lit (by rfl) (by rfl),trivial⟩ rfl ?_|(refine br_intro ?_ ?_<;>intro hb<;>try simp only[brs]at hb)|omega|refine sAx ?_|decide|assumption)<;>conv=>whnf))
 refine .ret _ ?_;conv=>whnf
 refine⟨[],⟨?_,rfl⟩,trivial⟩;conv=>lhs;whnf
 rfl
theorem tl92:FSpec Tryz.prog 92 [.agg ((staF staL).map .d),.d (.int .i64 0)] [] (fun x r=>x= .agg [.d (.int .i64 0),.d (.int .i64 9)]∧r= []):=by
 refine spec_of hT (C:= []) Tryz.func92 rfl Tryz.call92 rfl rfl rfl ?_;conv=>whnf
 repeat' (first|((first|(refine br_intro ?_ ?_<;>intro hb<;>try simp only[brs]at hb)|omega|refine sAx ?_|decide|assumption)<;>conv=>whnf))
 refine .ret _ ?_;conv=>whnf
 refine⟨[],⟨?_,rfl⟩,trivial⟩;conv=>lhs;whnf
 rfl
theorem tl51:FSpec Tryz.prog 51 [.agg ((staF staL).map .d),.d (.int .i64 8)] [] (fun x r=>x= .tup [.d (.bool true),.d (.int .i64 0)]∧r= []):=by
 refine spec_of hT (C:= []) Tryz.func51 rfl Tryz.call51 rfl rfl rfl ?_;conv=>whnf
 repeat' (first|(refine CallX.exact (z220 8) rfl rfl ?_;rotate_right;conv=>whnf)|(refine CallX.exact (tl91) rfl rfl ?_;rotate_right;conv=>whnf)|(refine CallX.exact (tl92) rfl rfl ?_;rotate_right;conv=>whnf)|((first|(refine br_intro ?_ ?_<;>intro hb<;>try simp only[brs]at hb)|refine rAx hT 1 oKTlD51_1 ?_|omega|refine sAx ?_|decide|assumption)<;>conv=>whnf))
 refine .ret _ ?_;conv=>whnf
 refine⟨[],⟨congrArg SV.tup ?_,rfl⟩,trivial⟩;repeat' (refine cons_eq ?_ ?_)
 all_goals (conv=>lhs;whnf)
 all_goals try(with_reducible rfl)
 all_goals rfl
theorem tl11:FSpec Tryz.prog 11 [] [] (fun x r=>x= .d (.bool true)∧r= []):=by
 refine spec_of hT (C:= []) Tryz.func11 rfl Tryz.call11 rfl rfl rfl ?_;conv=>whnf
 repeat' (first|(refine CallX.exact (tl51) rfl rfl ?_;rotate_right;conv=>whnf)|((first|(refine br_intro ?_ ?_<;>intro hb<;>try simp only[brs]at hb)|omega|refine sAx ?_|decide|assumption)<;>conv=>whnf))
 refine .ret _ ?_;conv=>whnf
 refine⟨[],⟨?_,rfl⟩,trivial⟩;conv=>lhs;whnf
abbrev cgC1 (c:Cgx):Res:=.cells 66 ((cgF c).map .d)
theorem tl15 (x:Hir)(c:Cgx):FSpec Tryz.prog 15 [.agg ((hiF x).map .d),.ptr 1000001 0] [(1000001,cgC1 c)] (fun y r=>y= .d (.bool (x.key==c.hir))∧r= [(1000001,cgC1 c)]):=by
 refine spec_of hT (C:= []) Tryz.func15 rfl Tryz.call15 rfl rfl rfl ?_;conv=>whnf
 refine .ret _ ?_;conv=>whnf
 exact⟨[(1000001,cgC1 c)],⟨rfl,rfl⟩,rr,trivial⟩
theorem tl14 (l:List Hir)(hl:l.length≤2^40)(c:Cgx):FSpec Tryz.prog 14 [.d (hirs l),.fn 15 [.ptr 1000001 0]] [(1000001,cgC1 c)] (fun x r=>x= .d (.int .i64 (keyIx l c.hir))∧r= [(1000001,cgC1 c)]):=by
 refine spec_of hT (C:= []) Tryz.func14 rfl Tryz.call14 rfl rfl rfl ?_;conv=>whnf
 refine LoopX.rule hT (C:= []) (ι:=Nat) (fun i=>i≤l.length∧∀j,j<i→((l.getD j hi0).key==c.hir)=false) (fun i=>mkSt [(0,.d (hirs l)),(1,.fn 15 [.ptr 1000001 0]),(7,.d (.int .i64 l.length)),(8,.d (.int .i64 i))] [(1000001,cgC1 c)]) (fun i=>l.length - i) 0 ⟨by omega,by omega⟩ (by exact eAx [(1000001,1000001)]) ?_;rintro i ⟨p1,p2⟩;have e1:(i:Int).toNat=i:=Int.toNat_natCast i;conv=>whnf
 repeat' (first|((first|(refine oAx (tl15 (l.getD (i:Int).toNat hi0) c) [(1000001,1000001)] ?_;rintro x rout ⟨rfl,rfl⟩;refine⟨rfl,?_⟩)|(refine br_intro ?_ ?_<;>intro hb<;>try simp only[brs]at hb)|omega|refine sAx ?_|decide|assumption)<;>conv=>whnf))
 · refine .ret _ ?_;conv=>whnf
   refine⟨[(1000001,cgC1 c)],⟨?_,rfl⟩,rr,trivial⟩;conv=>lhs;whnf
   congr 2
   exact(ixF_hit (by omega) p2 (by simpa using hb)).symm
 · exact⟨i+1,⟨by omega,all_step p2 (by simpa using hb)⟩,by omega,(by exact eAx [(1000001,1000001)])⟩
 · refine .ret _ ?_;conv=>whnf
   refine⟨[(1000001,cgC1 c)],⟨?_,rfl⟩,rr,trivial⟩;conv=>lhs;whnf
   congr 2
   have:i=l.length:=by omega
   subst this;exact(ixF_none p2).symm
def oKTaA145_18:OL:= [(0,[]),(1,[]),(2,[0,1]),(3,[0,1]),(5,rg 4),(6,rg 4),(7,[0,1,2,3,5,6]),(8,[0,1,2,3,5,6]),(4,[5,6,7,8]),(9,[]),(10,[]),(11,[]),(12,[])]
def oKTaA99_6:OL:= [(0,[]),(1,[]),(2,[0,1]),(3,[0,1]),(4,rg 4),(5,rg 4),(6,rg 6),(7,rg 6),(8,[]),(9,rg 9),(10,rg 9),(11,rg 11),(12,rg 11),(13,rg 13),(14,rg 13),(15,rg 15),(16,rg 15),(17,rg 9),(18,[9,10,11,12,13,14,15,16,17]),(19,[])]
structure Rat where
 cls:List UInt8
 frm:Int
 to:Int
 hr:Int
 dy:Int
 we:Int
 wk:Int
def ratF (x:Rat):List DV:= [.str x.cls,.int .i64 x.frm,.int .i64 x.to,.int .i64 x.hr,.int .i64 x.dy,.int .i64 x.we,.int .i64 x.wk]
def rat0:Rat:=⟨[],0,0,0,0,0,0⟩
abbrev rats (l:List Rat):DV:=seqD 7 ratF rat0 l
def numO (n:Int):Prop:= -1≤n∧n≤1000000
instance (n:Int):Decidable (numO n):=by unfold numO;infer_instance
def nums (x:Rat):Prop:=numO x.hr∧numO x.dy∧numO x.we∧numO x.wk
instance (x:Rat):Decidable (nums x):=by unfold nums;infer_instance
theorem cmp2_ge (a b:List UInt8)(m n:Int):(0≤firstE [cmpS a b,cmpI m n])=(Op.bytesLess b a=true∨(a=b∧n≤m)):=by
 apply propext
 unfold firstE cmpS cmpI firstE firstE;have h1:=less_tri a b;have h2:=less_irr a;grind [less_trans]
theorem cmp2s_ge (a b c d:List UInt8):(0≤firstE [cmpS a b,cmpS c d])=(Op.bytesLess b a=true∨(a=b∧strLe d c=true)):=by
 apply propext
 unfold firstE cmpS firstE firstE strLe;have h1:=less_tri a b;have h2:=less_irr a;have h3:=less_tri c d;have h4:=less_irr c;grind [less_trans]
theorem cmp2_lt (a b:List UInt8)(m n:Int):(firstE [cmpS a b,cmpI m n]<0)=¬ (Op.bytesLess b a=true∨(a=b∧n≤m)):=by
 rw[←cmp2_ge];exact propext Int.not_le.symm
theorem cmp2s_lt (a b c d:List UInt8):(firstE [cmpS a b,cmpS c d]<0)=¬ (Op.bytesLess b a=true∨(a=b∧strLe d c=true)):=by
 rw[←cmp2s_ge];exact propext Int.not_le.symm
def ratE (l:List Rat)(i:Nat):Int:=
 let x:=l.getD i rat0
 let q:=l.getD (i - 1) rat0
 if isKeyB x.cls=false then 5 else if ¬ (0≤x.frm∧x.frm<x.to∧x.to≤4001∧nums x)then 1 else if 0<i∧(Op.bytesLess x.cls q.cls=true∨(q.cls=x.cls∧x.frm≤q.frm))then 7 else if 0<i∧q.cls=x.cls∧x.frm<q.to then 13 else 0
def ratsE (l:List Rat):Int:=if 200<l.length then 2 else firstAt (ratE l) l.length
def ratK (x:Rat):Prop:=x.cls.length≤2^40
def ratOk (l:List Rat):Prop:=l.length≤2^40∧∀x ∈ l,ratK x
theorem min4_lt (p q r t c:Int):(min (min (min p q) r) t<c)=(p<c∨q<c∨r<c∨t<c):=by apply propext;omega
theorem max4_gt (p q r t c:Int):(c<max (max (max p q) r) t)=(c<p∨c<q∨c<r∨c<t):=by apply propext;omega
set_option maxHeartbeats 4000000 in
theorem y149 (l:List Rat)(hk:ratOk l):FSpec Tryz.prog 145 [.d (rats l)] [] (fun x r=>x= .d (.int .i64 (ratsE l))∧r= []):=by
 refine spec_of hT (C:= []) Tryz.func145 rfl Tryz.call145 rfl rfl rfl ?_;conv=>whnf
 refine br_intro (fun h0=> ?_) (fun h0=> ?_)
 · simp at h0;conv=>whnf
   refine .ret _ ?_;conv=>whnf
   refine⟨[],⟨?_,rfl⟩,trivial⟩;conv=>lhs;whnf
   unfold ratsE;rw[if_pos (by omega)]
 simp at h0;conv=>whnf
 refine LoopX.rule hT (C:= []) (ι:=Nat) (fun i=>i≤l.length∧∀j,j<i→ratE l j=0) (fun i=>mkSt [(0,.d (rats l)),(11,.d (rats l)),(12,.d (.int .i64 l.length)),(13,.d (.int .i64 i))] []) (fun i=>l.length - i) 0 ⟨by omega,by omega⟩ (by exact eAx []) ?_;rintro i ⟨p1,p2⟩;have hx:(i:Int)<l.length→ratK (l.getD (i:Int).toNat rat0):=fun hi=>hk.2 _ (getD_mem (by omega))
 have e1:(i:Int).toNat=i:=Int.toNat_natCast i
 have hbad:∀e:Int,i<l.length→e≠0→ratE l i=e→ratsE l=e:=fun e h h1 h2=>by
  unfold ratsE;rw[if_neg (by omega)];exact firstAt_eq h p2 h1 h2
 conv=>whnf
 repeat' (first|(refine CallX.exact (s108 _ (hx (by omega))) rfl rfl ?_;rotate_right;conv=>whnf)|((first|(refine br_intro ?_ ?_<;>intro hb<;>try simp only[brs]at hb)|refine rAx hT 18 oKTaA145_18 ?_|omega|refine sAx ?_|decide|assumption)<;>conv=>whnf))
 · refine .ret _ ?_;conv=>whnf
   refine⟨[],⟨?_,rfl⟩,trivial⟩;conv=>lhs;whnf
   congr 2
   exact(hbad _ (by omega) (by decide) (by clear p2 hbad hk hx;simp only[e1]at*;unfold ratE;grind)).symm
 · refine .ret _ ?_;conv=>whnf
   refine⟨[],⟨?_,rfl⟩,trivial⟩;conv=>lhs;whnf
   congr 2
   exact(hbad _ (by omega) (by decide) (by clear p2 hbad hk hx;simp only[e1]at*;unfold ratE;grind)).symm
 · refine .ret _ ?_;conv=>whnf
   refine⟨[],⟨?_,rfl⟩,trivial⟩;conv=>lhs;whnf
   congr 2
   exact(hbad _ (by omega) (by decide) (by clear p2 hbad hk hx;simp only[e1]at*;unfold ratE;grind)).symm
 · refine .ret _ ?_;conv=>whnf
   refine⟨[],⟨?_,rfl⟩,trivial⟩;conv=>lhs;whnf
   congr 2
   exact(hbad _ (by omega) (by decide) (by clear p2 hbad hk hx;simp only[e1]at*;unfold ratE;grind)).symm
 · have hi:i<l.length:=by omega
   have hN:isKeyB (l.getD i rat0).cls=true∧0≤(l.getD i rat0).frm∧(l.getD i rat0).frm<(l.getD i rat0).to∧(l.getD i rat0).to≤4001:=by clear p2 hbad hk hx;simp only[e1]at*;grind
   have hR:ratE l i=if ¬nums (l.getD i rat0)then 1 else if 0<i∧(Op.bytesLess (l.getD i rat0).cls (l.getD (i - 1) rat0).cls=true∨((l.getD (i - 1) rat0).cls=(l.getD i rat0).cls∧(l.getD i rat0).frm≤(l.getD (i - 1) rat0).frm))then 7 else if 0<i∧(l.getD (i - 1) rat0).cls=(l.getD i rat0).cls∧(l.getD i rat0).frm<(l.getD (i - 1) rat0).to then 13 else 0:=by
    obtain⟨n1,n2,n3,n4⟩:=hN;unfold ratE;simp only;rw[if_neg (by rw[n1];simp)]
    by_cases hn:nums (l.getD i rat0)<;>simp only[hn,n2,n3,n4,and_true,and_false,true_and,not_true_eq_false,not_false_eq_true,if_true,if_false]
   obtain⟨X,hX⟩:∃X,X=l.getD (i:Int).toNat rat0:=⟨_,rfl⟩;have hX2:l.getD i rat0=X:=hX.symm;rw[hX2]at hN hR;refine LoopX.rule hT (C:= []) (ι:=Nat) (fun k=>k≤4∧∀j,j<k→numO (([X.hr,X.dy,X.we,X.wk]:List Int).getD j 0)) (fun k=>mkSt [(0,.d (rats l)),(3,.d (.int .i64 i)),(4,.ptr 4 0),(11,.d (rats l)),(12,.d (.int .i64 l.length)),(13,.d (.int .i64 i)),(47,.d (ints [X.hr,X.dy,X.we,X.wk])),(48,.d (.int .i64 4)),(49,.d (.int .i64 k))] [(4,.cells 201 ((ratF X).map .d))]) (fun k=>4 - k) 0 ⟨by omega,by omega⟩ (by subst hX;exact(by(refine Entails.mk' [(4,4)] rfl rfl ?_ ?_<;>repeat' (first|exact True.intro|exact lr|exact rr|(exact SV.le_lit rfl rfl)|exact SV.le_int (by omega)|exact SV.le_any _|refine And.intro ?_ ?_));done)) ?_;rintro k ⟨q1,q2⟩;have e2:(k:Int).toNat=k:=Int.toNat_natCast k;clear hx hk;conv=>whnf
   repeat' (first|(refine CallX.exact (s119 _ _ _) rfl rfl ?_;rotate_right;conv=>whnf)|(refine CallX.exact (s184 _ _) rfl rfl ?_;rotate_right;conv=>whnf)|(refine CallX.exact (s183 _ _) rfl rfl ?_;rotate_right;conv=>whnf)|((first|refine CallX.pure (s182 [_,_] (by simp)) ⟨SV.le_lit (by rfl) (by rfl),trivial⟩ rfl ?_|(refine br_intro ?_ ?_<;>intro hb<;>try simp only[brs]at hb)|refine rAx hT 18 oKTaA145_18 ?_|omega|refine sAx ?_|decide|assumption)<;>conv=>whnf))
   · refine .ret _ ?_;conv=>whnf
     refine⟨[],⟨?_,rfl⟩,trivial⟩;conv=>lhs;whnf
     congr 2
     refine(hbad _ hi (by decide) ?_).symm;rw[hR,if_pos];rintro⟨⟨n1,n2⟩,⟨n3,n4⟩,⟨n5,n6⟩,n7,n8⟩;have hk4:k=0∨k=1∨k=2∨k=3:=by omega
     rcases hk4 with rfl|rfl|rfl|rfl<;>(simp only[Int.toNat_natCast,List.getD_cons_zero,List.getD_cons_succ]at hb;omega)
   · exact⟨k+1,⟨by omega,all_step q2 hb⟩,by omega,(by exact eAx [(4,4)])⟩
   all_goals
    have hk4:k=4:=by omega
    subst hk4;have hn:nums X:=⟨q2 0 (by omega),q2 1 (by omega),q2 2 (by omega),q2 3 (by omega)⟩;rw[if_neg (fun h=>h hn)]at hR;clear q1 q2 e2 hN
    first
     |(refine⟨i+1,⟨by omega,first_step p2 (by rw[hR];clear p2 hbad hR hX hX2;simp only[e1,toNat_pred]at*;(try simp only[cmp2_ge,cmp2_lt]at*);grind)⟩,by omega,(by exact eAx [])⟩)
     | (refine .ret _ ?_
        conv=>whnf
        refine⟨[],⟨?_,rfl⟩,trivial⟩;conv=>lhs;whnf
        congr 2
        exact(hbad _ hi (by decide) (by rw[hR];clear p2 hbad hR hX hX2;simp only[e1,toNat_pred]at*;(try simp only[cmp2_ge,cmp2_lt]at*);grind)).symm)
 · refine .ret _ ?_;conv=>whnf
   refine⟨[],⟨?_,rfl⟩,trivial⟩;conv=>lhs;whnf
   congr 2
   have:i=l.length:=by omega
   subst this;unfold ratsE;rw[if_neg (by omega),firstAt_zero p2]
set_option maxHeartbeats 4000000 in
theorem y161 (l:List Rat)(hk:ratOk l):FSpec Tryz.prog 99 [.d (rats l)] [] (fun x r=>x= .d (.int .i64 (ratsE l))∧r= []):=by
 refine spec_of hT (C:= []) Tryz.func99 rfl Tryz.call99 rfl rfl rfl ?_;conv=>whnf
 refine br_intro (fun h0=> ?_) (fun h0=> ?_)
 · simp at h0;conv=>whnf
   refine .ret _ ?_;conv=>whnf
   refine⟨[],⟨?_,rfl⟩,trivial⟩;conv=>lhs;whnf
   unfold ratsE;rw[if_pos (by omega)]
 simp at h0;conv=>whnf
 refine LoopX.rule hT (C:= []) (ι:=Nat) (fun i=>i≤l.length∧∀j,j<i→ratE l j=0) (fun i=>mkSt [(0,.d (rats l)),(11,.d (rats l)),(12,.d (.int .i64 l.length)),(13,.d (.int .i64 i))] []) (fun i=>l.length - i) 0 ⟨by omega,by omega⟩ (by exact eAx []) ?_;rintro i ⟨p1,p2⟩;have hx:(i:Int)<l.length→ratK (l.getD (i:Int).toNat rat0):=fun hi=>hk.2 _ (getD_mem (by omega))
 have e1:(i:Int).toNat=i:=Int.toNat_natCast i
 have hbad:∀e:Int,i<l.length→e≠0→ratE l i=e→ratsE l=e:=fun e h h1 h2=>by
  unfold ratsE;rw[if_neg (by omega)];exact firstAt_eq h p2 h1 h2
 conv=>whnf
 repeat' (first|(refine CallX.exact (s21 _ (hx (by omega))) rfl rfl ?_;rotate_right;conv=>whnf)|((first|(refine br_intro ?_ ?_<;>intro hb<;>try simp only[brs]at hb)|refine rAx hT 6 oKTaA99_6 ?_|omega|refine sAx ?_|decide|assumption)<;>conv=>whnf))
 all_goals first
  |(refine⟨i+1,⟨by omega,first_step p2 (by clear p2 hbad hk hx;simp only[e1,toNat_pred]at*;unfold ratE nums numO;(try simp only[min4_lt,max4_gt]at*);grind)⟩,by omega,(by exact eAx [])⟩)
  | (refine .ret _ ?_
     conv=>whnf
     refine⟨[],⟨?_,rfl⟩,trivial⟩;conv=>lhs;whnf
     congr 2
     first
      |exact(hbad _ (by omega) (by decide) (by clear p2 hbad hk hx;simp only[e1,toNat_pred]at*;unfold ratE nums numO;(try simp only[min4_lt,max4_gt]at*);grind)).symm
      | (have:i=l.length:=by omega
         subst this
         unfold ratsE;rw[if_neg (by omega),firstAt_zero p2]))
def oKTaB146_8:OL:= [(0,[]),(1,[]),(2,[]),(3,[]),(4,[]),(5,[3,4]),(6,[3,4,5]),(7,[3,4,5]),(8,[3,4]),(9,[3,4]),(10,[3,4]),(11,[]),(12,[]),(13,[])]
def oKTaB147_10:OL:= [(0,[]),(1,[]),(2,[]),(3,[]),(4,[3]),(5,[3]),(6,[]),(7,[]),(8,[]),(9,[3,4,5,6,7,8]),(10,[3,4,5,6,7,8]),(12,[3,4,5,6,7,8,9,10]),(13,[3,4,5,6,7,8,9,10,12]),(14,[3,4,5,6,7,8,9,10,12]),(15,[3,4,5,6,7,8,9,10]),(16,[3,4,5,6,7,8,9,10]),(17,[3,4,5,6,7,8,9,10]),(18,[3,4,5,6,7,8,9,10,12,13,14,15,16,17]),(19,[3,4,5,6,7,8,9,10,12,13,14,15,16,17]),(11,[12,13,14,15,16,17,18,19]),(20,[]),(21,[]),(22,[]),(23,[]),(24,[]),(25,[])]
def oKTaB101_10:OL:= [(0,[]),(1,[]),(2,[]),(3,[]),(4,[]),(5,[3,4]),(6,[3,4,5]),(7,[3,4,5]),(8,[3,4]),(9,[3,4]),(10,[3,4]),(11,[]),(12,[]),(13,[]),(14,[]),(15,[13,14]),(16,[13,14,15]),(17,[13,14,15]),(18,[13,14]),(19,[13,14]),(20,[13,14]),(21,[]),(22,[]),(23,[]),(24,[]),(25,[23,24]),(26,[23,24,25]),(27,[23,24,25]),(28,[23,24]),(29,[23,24]),(30,[23,24]),(31,[]),(32,[]),(33,[]),(34,[]),(35,[])]
def oKTaB148_8:OL:= [(0,[]),(1,[]),(2,[]),(3,[]),(4,[]),(5,[3,4]),(6,[3,4,5]),(7,[3,4,5]),(8,[3,4]),(9,[3,4]),(10,[3,4]),(11,[]),(12,[]),(13,[])]
structure Ext where
 key:List UInt8
 once:Int
 dy:Int
 most:Int
def extF (x:Ext):List DV:= [.str x.key,.int .i64 x.once,.int .i64 x.dy,.int .i64 x.most]
def ext0:Ext:=⟨[],0,0,0⟩
abbrev exts (l:List Ext):DV:=seqD 4 extF ext0 l
def extE (l:List Ext)(i:Nat):Int:=
 let x:=l.getD i ext0
 if isKeyB x.key=false then 5 else if 0<i∧strLe x.key (l.getD (i - 1) ext0).key=true then 7 else if ¬ ((0≤x.once∧x.once≤1000000)∧(0≤x.dy∧x.dy≤1000000)∧(-1≤x.most∧x.most≤1000000))then 1 else 0
def extsE (l:List Ext):Int:=if 30<l.length then 2 else firstAt (extE l) l.length
def extK (x:Ext):Prop:=x.key.length≤2^40
def extOk (l:List Ext):Prop:=l.length≤2^40∧∀x ∈ l,extK x
set_option maxHeartbeats 2000000 in
theorem y150 (l:List Ext)(hk:extOk l):FSpec Tryz.prog 146 [.d (exts l)] [] (fun x r=>x= .d (.int .i64 (extsE l))∧r= []):=by
 refine spec_of hT (C:= []) Tryz.func146 rfl Tryz.call146 rfl rfl rfl ?_;conv=>whnf
 refine br_intro (fun h0=> ?_) (fun h0=> ?_)
 · simp at h0;conv=>whnf
   refine .ret _ ?_;conv=>whnf
   refine⟨[],⟨?_,rfl⟩,trivial⟩;conv=>lhs;whnf
   unfold extsE;rw[if_pos (by omega)]
 simp at h0;conv=>whnf
 refine LoopX.rule hT (C:= []) (ι:=Nat) (fun i=>i≤l.length∧∀j,j<i→extE l j=0) (fun i=>mkSt [(0,.d (exts l)),(8,.d (exts l)),(9,.d (.int .i64 l.length)),(10,.d (.int .i64 i))] []) (fun i=>l.length - i) 0 ⟨by omega,by omega⟩ (by exact eAx []) ?_;rintro i ⟨p1,p2⟩;have hx:(i:Int)<l.length→extK (l.getD (i:Int).toNat ext0):=fun hi=>hk.2 _ (getD_mem (by omega))
 have e1:(i:Int).toNat=i:=Int.toNat_natCast i
 have hbad:∀e:Int,i<l.length→e≠0→extE l i=e→extsE l=e:=fun e h h1 h2=>by
  unfold extsE;rw[if_neg (by omega)];exact firstAt_eq h p2 h1 h2
 conv=>whnf
 repeat' (first|(refine CallX.exact (s108 _ (hx (by omega))) rfl rfl ?_;rotate_right;conv=>whnf)|(refine CallX.exact (s119 _ _ _) rfl rfl ?_;rotate_right;conv=>whnf)|((first|(refine br_intro ?_ ?_<;>intro hb<;>try simp only[brs]at hb)|refine rAx hT 8 oKTaB146_8 ?_|omega|refine sAx ?_|decide|assumption)<;>conv=>whnf))
 all_goals first
  |(refine⟨i+1,⟨by omega,first_step p2 (by clear p2 hbad hk hx;simp only[e1,toNat_pred]at*;unfold extE strLe;grind)⟩,by omega,(by exact eAx [])⟩)
  | (refine .ret _ ?_
     conv=>whnf
     refine⟨[],⟨?_,rfl⟩,trivial⟩;conv=>lhs;whnf
     congr 2
     first
      |exact(hbad _ (by omega) (by decide) (by clear p2 hbad hk hx;simp only[e1,toNat_pred]at*;unfold extE strLe;grind)).symm
      | (have:i=l.length:=by omega
         subst this
         unfold extsE;rw[if_neg (by omega),firstAt_zero p2]))
set_option maxHeartbeats 2000000 in
theorem y162 (l:List Ext)(hk:extOk l):FSpec Tryz.prog 100 [.d (exts l)] [] (fun x r=>x= .d (.int .i64 (extsE l))∧r= []):=by
 refine spec_of hT (C:= []) Tryz.func100 rfl Tryz.call100 rfl rfl rfl ?_;conv=>whnf
 refine br_intro (fun h0=> ?_) (fun h0=> ?_)
 · simp at h0;conv=>whnf
   refine .ret _ ?_;conv=>whnf
   refine⟨[],⟨?_,rfl⟩,trivial⟩;conv=>lhs;whnf
   unfold extsE;rw[if_pos (by omega)]
 simp at h0;conv=>whnf
 refine LoopX.rule hT (C:= []) (ι:=Nat) (fun i=>i≤l.length∧∀j,j<i→extE l j=0) (fun i=>mkSt [(3,.d (.str (if i=0 then []else(l.getD (i - 1) ext0).key))),(9,.d (exts l)),(10,.d (.int .i64 l.length)),(11,.d (.int .i64 i))] []) (fun i=>l.length - i) 0 ⟨by omega,by omega⟩ (by exact eAx []) ?_;rintro i ⟨p1,p2⟩;have hx:(i:Int)<l.length→extK (l.getD (i:Int).toNat ext0):=fun hi=>hk.2 _ (getD_mem (by omega))
 have e1:(i:Int).toNat=i:=Int.toNat_natCast i
 have hbad:∀e:Int,i<l.length→e≠0→extE l i=e→extsE l=e:=fun e h h1 h2=>by
  unfold extsE;rw[if_neg (by omega)];exact firstAt_eq h p2 h1 h2
 conv=>whnf
 repeat' (first|(refine CallX.exact (s21 _ (hx (by omega))) rfl rfl ?_;rotate_right;conv=>whnf)|(refine CallX.exact (s110 _ _ _) rfl rfl ?_;rotate_right;conv=>whnf)|((first|(refine br_intro ?_ ?_<;>intro hb<;>try simp only[brs]at hb)|omega|refine sAx ?_|decide|assumption)<;>conv=>whnf))
 all_goals first
  |(refine⟨i+1,⟨by omega,first_step p2 (by clear p2 hbad hk hx;simp only[e1]at*;unfold extE strLe;grind)⟩,by omega,Entails.mk' [] rfl rfl ⟨(by rw[show(if i+1=0 then([]:List UInt8)else(l.getD (i+1 - 1) ext0).key)=(l.getD (i:Int).toNat ext0).key from by rw[if_neg (by omega),e1,Nat.add_sub_cancel]];exact lr),lr,lr,lr,trivial⟩ trivial⟩)
  | (refine .ret _ ?_
     conv=>whnf
     refine⟨[],⟨?_,rfl⟩,trivial⟩;conv=>lhs;whnf
     congr 2
     first
      |exact(hbad _ (by omega) (by decide) (by clear p2 hbad hk hx;simp only[e1]at*;unfold extE strLe;grind [isKey_nil,less_nil])).symm
      | (have:i=l.length:=by omega
         subst this
         unfold extsE;rw[if_neg (by omega),firstAt_zero p2]))
structure Fe where
 a:List UInt8
 b:List UInt8
 cents:Int
def feF (x:Fe):List DV:= [.str x.a,.str x.b,.int .i64 x.cents]
def fe0:Fe:=⟨[],[],0⟩
abbrev fes (l:List Fe):DV:=seqD 3 feF fe0 l
def feE (l:List Fe)(i:Nat):Int:=
 let x:=l.getD i fe0
 let q:=l.getD (i - 1) fe0
 if isKeyB x.a=false∨isKeyB x.b=false then 5 else if x.a=x.b then 14 else if 0<i∧(Op.bytesLess x.a q.a=true∨(q.a=x.a∧strLe x.b q.b=true))then 7 else if ¬ (0≤x.cents∧x.cents≤1000000)then 1 else 0
def fesE (l:List Fe):Int:=if 500<l.length then 2 else firstAt (feE l) l.length
def feK (x:Fe):Prop:=x.a.length≤2^40∧x.b.length≤2^40
def feOk (l:List Fe):Prop:=l.length≤2^40∧∀x ∈ l,feK x
set_option maxHeartbeats 2000000 in
theorem y151 (l:List Fe)(hk:feOk l):FSpec Tryz.prog 147 [.d (fes l)] [] (fun x r=>x= .d (.int .i64 (fesE l))∧r= []):=by
 refine spec_of hT (C:= []) Tryz.func147 rfl Tryz.call147 rfl rfl rfl ?_;conv=>whnf
 refine br_intro (fun h0=> ?_) (fun h0=> ?_)
 · simp at h0;conv=>whnf
   refine .ret _ ?_;conv=>whnf
   refine⟨[],⟨?_,rfl⟩,trivial⟩;conv=>lhs;whnf
   unfold fesE;rw[if_pos (by omega)]
 simp at h0;conv=>whnf
 refine LoopX.rule hT (C:= []) (ι:=Nat) (fun i=>i≤l.length∧∀j,j<i→feE l j=0) (fun i=>mkSt [(0,.d (fes l)),(8,.d (fes l)),(9,.d (.int .i64 l.length)),(10,.d (.int .i64 i))] []) (fun i=>l.length - i) 0 ⟨by omega,by omega⟩ (by exact eAx []) ?_;rintro i ⟨p1,p2⟩;have hx:(i:Int)<l.length→feK (l.getD (i:Int).toNat fe0):=fun hi=>hk.2 _ (getD_mem (by omega))
 have e1:(i:Int).toNat=i:=Int.toNat_natCast i
 have hbad:∀e:Int,i<l.length→e≠0→feE l i=e→fesE l=e:=fun e h h1 h2=>by
  unfold fesE;rw[if_neg (by omega)];exact firstAt_eq h p2 h1 h2
 conv=>whnf
 repeat' (first|(refine CallX.exact (s108 _ (hx (by omega)).1) rfl rfl ?_;rotate_right;conv=>whnf)|(refine CallX.exact (s108 _ (hx (by omega)).2) rfl rfl ?_;rotate_right;conv=>whnf)|(refine CallX.exact (s119 _ _ _) rfl rfl ?_;rotate_right;conv=>whnf)|(refine CallX.exact (s184 _ _) rfl rfl ?_;rotate_right;conv=>whnf)|((first|refine CallX.pure (s182 [_,_] (by simp)) ⟨SV.le_lit (by rfl) (by rfl),trivial⟩ rfl ?_|(refine br_intro ?_ ?_<;>intro hb<;>try simp only[brs]at hb)|refine rAx hT 10 oKTaB147_10 ?_|omega|refine sAx ?_|decide|assumption)<;>conv=>whnf))
 all_goals first
  |(refine⟨i+1,⟨by omega,first_step p2 (by clear p2 hbad hk hx;simp only[e1,toNat_pred]at*;unfold feE;(try simp only[cmp2s_ge,cmp2s_lt]at*);grind)⟩,by omega,(by exact eAx [])⟩)
  | (refine .ret _ ?_
     conv=>whnf
     refine⟨[],⟨?_,rfl⟩,trivial⟩;conv=>lhs;whnf
     congr 2
     first
      |exact(hbad _ (by omega) (by decide) (by clear p2 hbad hk hx;simp only[e1,toNat_pred]at*;unfold feE;(try simp only[cmp2s_ge,cmp2s_lt]at*);grind)).symm
      | (have:i=l.length:=by omega
         subst this
         unfold fesE;rw[if_neg (by omega),firstAt_zero p2]))
set_option maxHeartbeats 2000000 in
theorem y163 (l:List Fe)(hk:feOk l):FSpec Tryz.prog 101 [.d (fes l)] [] (fun x r=>x= .d (.int .i64 (fesE l))∧r= []):=by
 refine spec_of hT (C:= []) Tryz.func101 rfl Tryz.call101 rfl rfl rfl ?_;conv=>whnf
 refine br_intro (fun h0=> ?_) (fun h0=> ?_)
 · simp at h0;conv=>whnf
   refine .ret _ ?_;conv=>whnf
   refine⟨[],⟨?_,rfl⟩,trivial⟩;conv=>lhs;whnf
   unfold fesE;rw[if_pos (by omega)]
 simp at h0;conv=>whnf
 refine LoopX.rule hT (C:= []) (ι:=Nat) (fun i=>i≤l.length∧∀j,j<i→feE l j=0) (fun i=>mkSt [(0,.d (fes l)),(8,.d (fes l)),(9,.d (.int .i64 l.length)),(10,.d (.int .i64 i))] []) (fun i=>l.length - i) 0 ⟨by omega,by omega⟩ (by exact eAx []) ?_;rintro i ⟨p1,p2⟩;have hx:(i:Int)<l.length→feK (l.getD (i:Int).toNat fe0):=fun hi=>hk.2 _ (getD_mem (by omega))
 have e1:(i:Int).toNat=i:=Int.toNat_natCast i
 have hbad:∀e:Int,i<l.length→e≠0→feE l i=e→fesE l=e:=fun e h h1 h2=>by
  unfold fesE;rw[if_neg (by omega)];exact firstAt_eq h p2 h1 h2
 conv=>whnf
 repeat' (first|(refine CallX.exact (s21 _ (hx (by omega)).1) rfl rfl ?_;rotate_right;conv=>whnf)|(refine CallX.exact (s21 _ (hx (by omega)).2) rfl rfl ?_;rotate_right;conv=>whnf)|(refine CallX.exact (s110 _ _ _) rfl rfl ?_;rotate_right;conv=>whnf)|((first|(refine br_intro ?_ ?_<;>intro hb<;>try simp only[brs]at hb)|refine rAx hT 10 oKTaB101_10 ?_|omega|refine sAx ?_|decide|assumption)<;>conv=>whnf))
 all_goals first
  |(refine⟨i+1,⟨by omega,first_step p2 (by clear p2 hbad hk hx;simp only[e1,toNat_pred]at*;unfold feE strLe;grind)⟩,by omega,(by exact eAx [])⟩)
  | (refine .ret _ ?_
     conv=>whnf
     refine⟨[],⟨?_,rfl⟩,trivial⟩;conv=>lhs;whnf
     congr 2
     first
      |exact(hbad _ (by omega) (by decide) (by clear p2 hbad hk hx;simp only[e1,toNat_pred]at*;unfold feE strLe;grind)).symm
      | (have:i=l.length:=by omega
         subst this
         unfold fesE;rw[if_neg (by omega),firstAt_zero p2]))
structure Cod where
 key:List UInt8
 cls:List UInt8
 frm:Int
 to:Int
 days:Int
 per:Int
def codF (x:Cod):List DV:= [.str x.key,.str x.cls,.int .i64 x.frm,.int .i64 x.to,.int .i64 x.days,.int .i64 x.per]
def cod0:Cod:=⟨[],[],0,0,0,0⟩
abbrev cods (l:List Cod):DV:=seqD 6 codF cod0 l
def codE (l:List Cod)(i:Nat):Int:=
 let x:=l.getD i cod0
 if isKeyB x.key=false then 5 else if 0<i∧strLe x.key (l.getD (i - 1) cod0).key=true then 7 else if x.cls≠ []∧isKeyB x.cls=false then 5 else if ¬ ((0≤x.frm∧x.frm≤x.to)∧x.to≤4001∧(1≤x.days∧x.days≤120)∧(1≤x.per∧x.per≤1000))then 1 else 0
def codsE (l:List Cod):Int:=if 50<l.length then 2 else firstAt (codE l) l.length
def codK (x:Cod):Prop:=x.key.length≤2^40∧x.cls.length≤2^40
def codOk (l:List Cod):Prop:=l.length≤2^40∧∀x ∈ l,codK x
set_option maxHeartbeats 2000000 in
theorem y152 (l:List Cod)(hk:codOk l):FSpec Tryz.prog 148 [.d (cods l)] [] (fun x r=>x= .d (.int .i64 (codsE l))∧r= []):=by
 refine spec_of hT (C:= []) Tryz.func148 rfl Tryz.call148 rfl rfl rfl ?_;conv=>whnf
 refine br_intro (fun h0=> ?_) (fun h0=> ?_)
 · simp at h0;conv=>whnf
   refine .ret _ ?_;conv=>whnf
   refine⟨[],⟨?_,rfl⟩,trivial⟩;conv=>lhs;whnf
   unfold codsE;rw[if_pos (by omega)]
 simp at h0;conv=>whnf
 refine LoopX.rule hT (C:= []) (ι:=Nat) (fun i=>i≤l.length∧∀j,j<i→codE l j=0) (fun i=>mkSt [(0,.d (cods l)),(8,.d (cods l)),(9,.d (.int .i64 l.length)),(10,.d (.int .i64 i))] []) (fun i=>l.length - i) 0 ⟨by omega,by omega⟩ (by exact eAx []) ?_;rintro i ⟨p1,p2⟩;have hx:(i:Int)<l.length→codK (l.getD (i:Int).toNat cod0):=fun hi=>hk.2 _ (getD_mem (by omega))
 have e1:(i:Int).toNat=i:=Int.toNat_natCast i
 have hbad:∀e:Int,i<l.length→e≠0→codE l i=e→codsE l=e:=fun e h h1 h2=>by
  unfold codsE;rw[if_neg (by omega)];exact firstAt_eq h p2 h1 h2
 conv=>whnf
 repeat' (first|(refine CallX.exact (s108 _ (hx (by omega)).1) rfl rfl ?_;rotate_right;conv=>whnf)|(refine CallX.exact (s108 _ (hx (by omega)).2) rfl rfl ?_;rotate_right;conv=>whnf)|(refine CallX.exact (s119 _ _ _) rfl rfl ?_;rotate_right;conv=>whnf)|((first|(refine br_intro ?_ ?_<;>intro hb<;>try simp only[brs]at hb)|refine rAx hT 8 oKTaB148_8 ?_|omega|refine sAx ?_|decide|assumption)<;>conv=>whnf))
 all_goals first
  |(refine⟨i+1,⟨by omega,first_step p2 (by clear p2 hbad hk hx;simp only[e1,toNat_pred]at*;unfold codE strLe;grind)⟩,by omega,(by exact eAx [])⟩)
  | (refine .ret _ ?_
     conv=>whnf
     refine⟨[],⟨?_,rfl⟩,trivial⟩;conv=>lhs;whnf
     congr 2
     first
      |exact(hbad _ (by omega) (by decide) (by clear p2 hbad hk hx;simp only[e1,toNat_pred]at*;unfold codE strLe;grind)).symm
      | (have:i=l.length:=by omega
         subst this
         unfold codsE;rw[if_neg (by omega),firstAt_zero p2]))
set_option maxHeartbeats 2000000 in
theorem y164 (l:List Cod)(hk:codOk l):FSpec Tryz.prog 102 [.d (cods l)] [] (fun x r=>x= .d (.int .i64 (codsE l))∧r= []):=by
 refine spec_of hT (C:= []) Tryz.func102 rfl Tryz.call102 rfl rfl rfl ?_;conv=>whnf
 refine br_intro (fun h0=> ?_) (fun h0=> ?_)
 · simp at h0;conv=>whnf
   refine .ret _ ?_;conv=>whnf
   refine⟨[],⟨?_,rfl⟩,trivial⟩;conv=>lhs;whnf
   unfold codsE;rw[if_pos (by omega)]
 simp at h0;conv=>whnf
 refine LoopX.rule hT (C:= []) (ι:=Nat) (fun i=>i≤l.length∧∀j,j<i→codE l j=0) (fun i=>mkSt [(3,.d (.str (if i=0 then []else(l.getD (i - 1) cod0).key))),(9,.d (cods l)),(10,.d (.int .i64 l.length)),(11,.d (.int .i64 i))] []) (fun i=>l.length - i) 0 ⟨by omega,by omega⟩ (by exact eAx []) ?_;rintro i ⟨p1,p2⟩;have hx:(i:Int)<l.length→codK (l.getD (i:Int).toNat cod0):=fun hi=>hk.2 _ (getD_mem (by omega))
 have e1:(i:Int).toNat=i:=Int.toNat_natCast i
 have hbad:∀e:Int,i<l.length→e≠0→codE l i=e→codsE l=e:=fun e h h1 h2=>by
  unfold codsE;rw[if_neg (by omega)];exact firstAt_eq h p2 h1 h2
 conv=>whnf
 repeat' (first|(refine CallX.exact (s21 _ (hx (by omega)).1) rfl rfl ?_;rotate_right;conv=>whnf)|(refine CallX.exact (s21 _ (hx (by omega)).2) rfl rfl ?_;rotate_right;conv=>whnf)|(refine CallX.exact (s110 _ _ _) rfl rfl ?_;rotate_right;conv=>whnf)|((first|(refine br_intro ?_ ?_<;>intro hb<;>try simp only[brs]at hb)|omega|refine sAx ?_|decide|assumption)<;>conv=>whnf))
 all_goals first
  |(refine⟨i+1,⟨by omega,first_step p2 (by clear p2 hbad hk hx;simp only[e1]at*;unfold codE strLe;grind)⟩,by omega,Entails.mk' [] rfl rfl ⟨(by rw[show(if i+1=0 then([]:List UInt8)else(l.getD (i+1 - 1) cod0).key)=(l.getD (i:Int).toNat cod0).key from by rw[if_neg (by omega),e1,Nat.add_sub_cancel]];exact lr),lr,lr,lr,trivial⟩ trivial⟩)
  | (refine .ret _ ?_
     conv=>whnf
     refine⟨[],⟨?_,rfl⟩,trivial⟩;conv=>lhs;whnf
     congr 2
     first
      |exact(hbad _ (by omega) (by decide) (by clear p2 hbad hk hx;simp only[e1]at*;unfold codE strLe;grind [isKey_nil,less_nil])).symm
      | (have:i=l.length:=by omega
         subst this
         unfold codsE;rw[if_neg (by omega),firstAt_zero p2]))
structure Tax where
 key:List UInt8
 per:Int
 on:List Int
 over:Bool
def taxF (x:Tax):List DV:= [.str x.key,.int .i64 x.per,ints x.on,.bool x.over]
def tax0:Tax:=⟨[],0,[],false⟩
abbrev taxs (l:List Tax):DV:=seqD 4 taxF tax0 l
def taxC (x:Tax):Res:=.cells 244 ((taxF x).map .d)
def txOn (l:List Int)(k:Nat):Int:=if l.getD k 0=5∨¬ (1≤l.getD k 0∧l.getD k 0≤6)then 4 else if 0<k∧l.getD k 0≤l.getD (k - 1) 0 then 7 else 0
def txOns (l:List Int):Int:=firstAt (txOn l) l.length
def dupT (l:List Tax)(x:Tax):Bool:=decide (0≤ixF (fun i=>(l.getD i tax0).key==x.key) l.length)
def taxE (l:List Tax)(i:Nat):Int:=
 let x:=l.getD i tax0
 if isKeyB x.key=false then 5 else if dupT (l.take i) x=true then 6 else if ¬ (0≤x.per∧x.per≤1000)then 1 else txOns x.on
def taxsE (l:List Tax):Int:=if 10<l.length then 2 else firstAt (taxE l) l.length
def taxK (x:Tax):Prop:=x.key.length≤2^40∧x.on.length≤2^40
def taxOk (l:List Tax):Prop:=l.length≤2^40∧∀x ∈ l,taxK x
theorem y229 (y x:Tax):FSpec Tryz.prog 186 [.agg ((taxF y).map .d),.ptr 1000001 0] [(1000001,taxC x)] (fun v r=>v= .d (.bool (y.key==x.key))∧r= [(1000001,taxC x)]):=by
 refine spec_of hT (C:= []) Tryz.func186 rfl Tryz.call186 rfl rfl rfl ?_;conv=>whnf
 refine .ret _ ?_;conv=>whnf
 exact⟨[(1000001,taxC x)],⟨rfl,rfl⟩,rr,trivial⟩
theorem y309a (l:List Tax)(hl:l.length≤2^40)(x:Tax):FSpec Tryz.prog 181 [.d (taxs l),.fn 186 [.ptr 1000001 0]] [(1000001,taxC x)] (fun v r=>v= .d (.int .i64 (ixF (fun i=>(l.getD i tax0).key==x.key) l.length))∧r= [(1000001,taxC x)]):=by
 refine spec_of hT (C:= []) Tryz.func181 rfl Tryz.call181 rfl rfl rfl ?_;conv=>whnf
 refine LoopX.rule hT (C:= []) (ι:=Nat) (fun i=>i≤l.length∧∀j,j<i→((l.getD j tax0).key==x.key)=false) (fun i=>mkSt [(0,.d (taxs l)),(1,.fn 186 [.ptr 1000001 0]),(7,.d (.int .i64 l.length)),(8,.d (.int .i64 i))] [(1000001,taxC x)]) (fun i=>l.length - i) 0 ⟨by omega,by omega⟩ (by exact eAx [(1000001,1000001)]) ?_;rintro i ⟨p1,p2⟩;have e1:(i:Int).toNat=i:=Int.toNat_natCast i;conv=>whnf
 repeat' (first|((first|(refine oAx (y229 (l.getD (i:Int).toNat tax0) x) [(1000001,1000001)] ?_;rintro v rout ⟨rfl,rfl⟩;refine⟨rfl,?_⟩)|(refine br_intro ?_ ?_<;>intro hb<;>try simp only[brs]at hb)|omega|refine sAx ?_|decide|assumption)<;>conv=>whnf))
 · refine .ret _ ?_;conv=>whnf
   refine⟨[(1000001,taxC x)],⟨?_,rfl⟩,rr,trivial⟩;conv=>lhs;whnf
   congr 2
   exact(ixF_hit (by omega) p2 (by simpa using hb)).symm
 · exact⟨i+1,⟨by omega,all_step p2 (by simpa using hb)⟩,by omega,(by exact eAx [(1000001,1000001)])⟩
 · refine .ret _ ?_;conv=>whnf
   refine⟨[(1000001,taxC x)],⟨?_,rfl⟩,rr,trivial⟩;conv=>lhs;whnf
   congr 2
   have:i=l.length:=by omega
   subst this;exact(ixF_none p2).symm
theorem y309ac (l:List Tax)(hl:l.length≤2^40)(x:Tax):FSpec Tryz.prog 138 [.d (taxs l),.fn 186 [.ptr 1000001 0]] [(1000001,taxC x)] (fun v r=>v= .d (.bool (dupT l x))∧r= [(1000001,taxC x)]):=by
 refine spec_of hT (C:= []) Tryz.func138 rfl Tryz.call138 rfl rfl rfl ?_;conv=>whnf
 repeat' (first|((first|(refine oAx (y309a l hl x) [(1000001,1000001)] ?_;rintro v rout ⟨rfl,rfl⟩;refine⟨rfl,?_⟩)|(refine br_intro ?_ ?_<;>intro hb<;>try simp only[brs]at hb)|omega|refine sAx ?_|decide|assumption)<;>conv=>whnf))
 refine .ret _ ?_;conv=>whnf
 exact⟨[(1000001,taxC x)],⟨rfl,rfl⟩,rr,trivial⟩
theorem y235 (y x:Tax):FSpec Tryz.prog 139 [.agg ((taxF y).map .d),.ptr 1000001 0] [(1000001,taxC x)] (fun v r=>v= .d (.bool (y.key==x.key))∧r= [(1000001,taxC x)]):=by
 refine spec_of hT (C:= []) Tryz.func139 rfl Tryz.call139 rfl rfl rfl ?_;conv=>whnf
 refine .ret _ ?_;conv=>whnf
 exact⟨[(1000001,taxC x)],⟨rfl,rfl⟩,rr,trivial⟩
theorem y309b (l:List Tax)(hl:l.length≤2^40)(x:Tax):FSpec Tryz.prog 181 [.d (taxs l),.fn 139 [.ptr 1000001 0]] [(1000001,taxC x)] (fun v r=>v= .d (.int .i64 (ixF (fun i=>(l.getD i tax0).key==x.key) l.length))∧r= [(1000001,taxC x)]):=by
 refine spec_of hT (C:= []) Tryz.func181 rfl Tryz.call181 rfl rfl rfl ?_;conv=>whnf
 refine LoopX.rule hT (C:= []) (ι:=Nat) (fun i=>i≤l.length∧∀j,j<i→((l.getD j tax0).key==x.key)=false) (fun i=>mkSt [(0,.d (taxs l)),(1,.fn 139 [.ptr 1000001 0]),(7,.d (.int .i64 l.length)),(8,.d (.int .i64 i))] [(1000001,taxC x)]) (fun i=>l.length - i) 0 ⟨by omega,by omega⟩ (by exact eAx [(1000001,1000001)]) ?_;rintro i ⟨p1,p2⟩;have e1:(i:Int).toNat=i:=Int.toNat_natCast i;conv=>whnf
 repeat' (first|((first|(refine oAx (y235 (l.getD (i:Int).toNat tax0) x) [(1000001,1000001)] ?_;rintro v rout ⟨rfl,rfl⟩;refine⟨rfl,?_⟩)|(refine br_intro ?_ ?_<;>intro hb<;>try simp only[brs]at hb)|omega|refine sAx ?_|decide|assumption)<;>conv=>whnf))
 · refine .ret _ ?_;conv=>whnf
   refine⟨[(1000001,taxC x)],⟨?_,rfl⟩,rr,trivial⟩;conv=>lhs;whnf
   congr 2
   exact(ixF_hit (by omega) p2 (by simpa using hb)).symm
 · exact⟨i+1,⟨by omega,all_step p2 (by simpa using hb)⟩,by omega,(by exact eAx [(1000001,1000001)])⟩
 · refine .ret _ ?_;conv=>whnf
   refine⟨[(1000001,taxC x)],⟨?_,rfl⟩,rr,trivial⟩;conv=>lhs;whnf
   congr 2
   have:i=l.length:=by omega
   subst this;exact(ixF_none p2).symm
theorem y309bc (l:List Tax)(hl:l.length≤2^40)(x:Tax):FSpec Tryz.prog 138 [.d (taxs l),.fn 139 [.ptr 1000001 0]] [(1000001,taxC x)] (fun v r=>v= .d (.bool (dupT l x))∧r= [(1000001,taxC x)]):=by
 refine spec_of hT (C:= []) Tryz.func138 rfl Tryz.call138 rfl rfl rfl ?_;conv=>whnf
 repeat' (first|((first|(refine oAx (y309b l hl x) [(1000001,1000001)] ?_;rintro v rout ⟨rfl,rfl⟩;refine⟨rfl,?_⟩)|(refine br_intro ?_ ?_<;>intro hb<;>try simp only[brs]at hb)|omega|refine sAx ?_|decide|assumption)<;>conv=>whnf))
 refine .ret _ ?_;conv=>whnf
 exact⟨[(1000001,taxC x)],⟨rfl,rfl⟩,rr,trivial⟩
theorem le_takeT {l:List Tax}{i:Nat}(h:i≤l.length):SV.le (.d (.ro 4 i fun j=>rowF taxF tax0 l (0+j))) (.d (taxs (l.take i))):=
 SV.le_ro (by rw[List.length_take];omega) (fun j hj=>by
  simp only[Nat.zero_add,rowF]
  rw[List.getD_eq_getElem?_getD,List.getD_eq_getElem?_getD,List.getElem?_take_of_lt hj])
theorem taxE_hit {l:List Tax}{i:Nat}{e:Int}(h0:¬ 10<l.length)(h:i<l.length)(p:∀j,j<i→taxE l j=0)(h1:e≠0)(h2:taxE l i=e):taxsE l=e:=by
 unfold taxsE;rw[if_neg h0];exact firstAt_eq h p h1 h2
set_option maxHeartbeats 2000000 in
theorem y153 (l:List Tax)(hk:taxOk l):FSpec Tryz.prog 149 [.d (taxs l)] [] (fun x r=>x= .d (.int .i64 (taxsE l))∧r= []):=by
 refine spec_of hT (C:= []) Tryz.func149 rfl Tryz.call149 rfl rfl rfl ?_;conv=>whnf
 refine br_intro (fun h0=> ?_) (fun h0=> ?_)
 · simp at h0;conv=>whnf
   refine .ret _ ?_;conv=>whnf
   refine⟨[],⟨?_,rfl⟩,trivial⟩;conv=>lhs;whnf
   unfold taxsE;rw[if_pos (by omega)]
 simp at h0;conv=>whnf
 refine LoopX.rule hT (C:= []) (ι:=Nat) (fun i=>i≤l.length∧∀j,j<i→taxE l j=0) (fun i=>mkSt [(0,.d (taxs l)),(10,.d (taxs l)),(11,.d (.int .i64 l.length)),(12,.d (.int .i64 i))] []) (fun i=>l.length - i) 0 ⟨by omega,by omega⟩ (by exact eAx []) ?_;rintro i ⟨p1,p2⟩;have e1:(i:Int).toNat=i:=Int.toNat_natCast i;have hK:(i:Int)<l.length→taxK (l.getD (i:Int).toNat tax0):=fun hi=>hk.2 _ (getD_mem (by omega))
 have hD:=y309ac (l.take (i:Int).toNat) (by rw[List.length_take];have:=hk.1;omega) (l.getD (i:Int).toNat tax0);conv=>whnf
 repeat' (first|(refine CallX.exact (s108 _ (hK (by omega)).1) rfl rfl ?_;rotate_right;conv=>whnf)|(refine CallX.exact (s119 _ _ _) rfl rfl ?_;rotate_right;conv=>whnf)|((first|(refine CallX.of hD [(1000001,4)] rfl ⟨le_takeT (by omega),lr,trivial⟩ ⟨rr,trivial⟩ rfl rfl ?_;rintro v rout ⟨rfl,rfl⟩;refine⟨rfl,?_⟩)|(refine br_intro ?_ ?_<;>intro hb<;>try simp only[brs]at hb)|omega|refine sAx ?_|decide|assumption)<;>conv=>whnf))
 · refine .ret _ ?_;conv=>whnf
   refine⟨[],⟨?_,rfl⟩,trivial⟩;conv=>lhs;whnf
   congr 2
   exact(taxE_hit (by omega) (by omega) p2 (by decide) (by clear p2 hD hk hK;simp only[e1]at*;unfold taxE;grind)).symm
 · refine .ret _ ?_;conv=>whnf
   refine⟨[],⟨?_,rfl⟩,trivial⟩;conv=>lhs;whnf
   congr 2
   exact(taxE_hit (by omega) (by omega) p2 (by decide) (by clear p2 hD hk hK;simp only[e1]at*;unfold taxE;grind)).symm
 · refine .ret _ ?_;conv=>whnf
   refine⟨[],⟨?_,rfl⟩,trivial⟩;conv=>lhs;whnf
   congr 2
   exact(taxE_hit (by omega) (by omega) p2 (by decide) (by clear p2 hD hk hK;simp only[e1]at*;unfold taxE;grind)).symm
 · have hi:i<l.length:=by omega
   have hT1:taxE l i=txOns (l.getD (i:Int).toNat tax0).on:=by clear p2 hD hk hK;simp only[e1]at*;unfold taxE;grind
   obtain⟨X,hX⟩:∃X,X=l.getD (i:Int).toNat tax0:=⟨_,rfl⟩;have hXl:X.on.length≤2^40:=by rw[hX];exact(hK (by omega)).2
   rw[←hX]at hT1;refine LoopX.rule hT (C:= []) (ι:=Nat) (fun k=>k≤X.on.length∧∀j,j<k→txOn X.on j=0) (fun k=>mkSt [(0,.d (taxs l)),(4,.ptr 4 0),(10,.d (taxs l)),(11,.d (.int .i64 l.length)),(12,.d (.int .i64 i)),(34,.d (ints X.on)),(35,.d (.int .i64 X.on.length)),(36,.d (.int .i64 k))] [(4,taxC X)]) (fun k=>X.on.length - k) 0 ⟨by omega,by omega⟩ (by subst hX;exact(by exact eAx [(4,4)])) ?_;rintro k ⟨q1,q2⟩;have e2:(k:Int).toNat=k:=Int.toNat_natCast k;have hbad:∀e:Int,k<X.on.length→e≠0→txOn X.on k=e→taxsE l=e:=fun e h h1 h2=>taxE_hit (by omega) hi p2 h1 (by rw[hT1];exact firstAt_eq h q2 h1 h2)
   clear hD hK hk;conv=>whnf
   repeat' (first|(refine CallX.exact (s119 _ _ _) rfl rfl ?_;rotate_right;conv=>whnf)|((first|(refine br_intro ?_ ?_<;>intro hb<;>try simp only[brs]at hb)|omega|refine sAx ?_|decide|assumption)<;>conv=>whnf))
   all_goals first
    |(refine⟨k+1,⟨by omega,first_step q2 (by clear p2 q2 hbad hT1 hX;simp only[e2,toNat_pred]at*;unfold txOn;grind)⟩,by omega,(by exact eAx [(4,4)])⟩)
    | (refine .ret _ ?_
       conv=>whnf
       refine⟨[],⟨?_,rfl⟩,trivial⟩;conv=>lhs;whnf
       congr 2
       exact(hbad _ (by omega) (by decide) (by clear p2 q2 hbad hT1 hX;simp only[e2,toNat_pred]at*;unfold txOn;grind)).symm)
    | (refine⟨i+1,⟨by omega,first_step p2 ?_⟩,by omega,(by exact eAx [])⟩
       rw[hT1];have:k=X.on.length:=by omega
       subst this
       exact firstAt_zero q2)
 · refine .ret _ ?_;conv=>whnf
   refine⟨[],⟨?_,rfl⟩,trivial⟩;conv=>lhs;whnf
   congr 2
   have:i=l.length:=by omega
   subst this;unfold taxsE;rw[if_neg (by omega),firstAt_zero p2]
set_option maxHeartbeats 2000000 in
theorem y165 (l:List Tax)(hk:taxOk l):FSpec Tryz.prog 103 [.d (taxs l)] [] (fun x r=>x= .d (.int .i64 (taxsE l))∧r= []):=by
 refine spec_of hT (C:= []) Tryz.func103 rfl Tryz.call103 rfl rfl rfl ?_;conv=>whnf
 refine br_intro (fun h0=> ?_) (fun h0=> ?_)
 · simp at h0;conv=>whnf
   refine .ret _ ?_;conv=>whnf
   refine⟨[],⟨?_,rfl⟩,trivial⟩;conv=>lhs;whnf
   unfold taxsE;rw[if_pos (by omega)]
 simp at h0;conv=>whnf
 refine LoopX.rule hT (C:= []) (ι:=Nat) (fun i=>i≤l.length∧∀j,j<i→taxE l j=0) (fun i=>mkSt [(0,.d (taxs l)),(10,.d (taxs l)),(11,.d (.int .i64 l.length)),(12,.d (.int .i64 i))] []) (fun i=>l.length - i) 0 ⟨by omega,by omega⟩ (by exact eAx []) ?_;rintro i ⟨p1,p2⟩;have e1:(i:Int).toNat=i:=Int.toNat_natCast i;have hK:(i:Int)<l.length→taxK (l.getD (i:Int).toNat tax0):=fun hi=>hk.2 _ (getD_mem (by omega))
 have hD:=y309bc (l.take (i:Int).toNat) (by rw[List.length_take];have:=hk.1;omega) (l.getD (i:Int).toNat tax0);conv=>whnf
 repeat' (first|(refine CallX.exact (s21 _ (hK (by omega)).1) rfl rfl ?_;rotate_right;conv=>whnf)|(refine CallX.exact (s110 _ _ _) rfl rfl ?_;rotate_right;conv=>whnf)|((first|(refine CallX.of hD [(1000001,4)] rfl ⟨le_takeT (by omega),lr,trivial⟩ ⟨rr,trivial⟩ rfl rfl ?_;rintro v rout ⟨rfl,rfl⟩;refine⟨rfl,?_⟩)|(refine br_intro ?_ ?_<;>intro hb<;>try simp only[brs]at hb)|omega|refine sAx ?_|decide|assumption)<;>conv=>whnf))
 · refine .ret _ ?_;conv=>whnf
   refine⟨[],⟨?_,rfl⟩,trivial⟩;conv=>lhs;whnf
   congr 2
   exact(taxE_hit (by omega) (by omega) p2 (by decide) (by clear p2 hD hk hK;simp only[e1]at*;unfold taxE;grind)).symm
 · refine .ret _ ?_;conv=>whnf
   refine⟨[],⟨?_,rfl⟩,trivial⟩;conv=>lhs;whnf
   congr 2
   exact(taxE_hit (by omega) (by omega) p2 (by decide) (by clear p2 hD hk hK;simp only[e1]at*;unfold taxE;grind)).symm
 · refine .ret _ ?_;conv=>whnf
   refine⟨[],⟨?_,rfl⟩,trivial⟩;conv=>lhs;whnf
   congr 2
   exact(taxE_hit (by omega) (by omega) p2 (by decide) (by clear p2 hD hk hK;simp only[e1]at*;unfold taxE;grind)).symm
 · have hi:i<l.length:=by omega
   have hT1:taxE l i=txOns (l.getD (i:Int).toNat tax0).on:=by clear p2 hD hk hK;simp only[e1]at*;unfold taxE;grind
   obtain⟨X,hX⟩:∃X,X=l.getD (i:Int).toNat tax0:=⟨_,rfl⟩;have hXl:X.on.length≤2^40:=by rw[hX];exact(hK (by omega)).2
   rw[←hX]at hT1;refine LoopX.rule hT (C:= []) (ι:=Nat) (fun k=>k≤X.on.length∧∀j,j<k→txOn X.on j=0) (fun k=>mkSt [(0,.d (taxs l)),(4,.ptr 4 0),(10,.d (taxs l)),(11,.d (.int .i64 l.length)),(12,.d (.int .i64 i)),(34,.d (ints X.on)),(35,.d (.int .i64 X.on.length)),(36,.d (.int .i64 k))] [(4,taxC X)]) (fun k=>X.on.length - k) 0 ⟨by omega,by omega⟩ (by subst hX;exact(by exact eAx [(4,4)])) ?_;rintro k ⟨q1,q2⟩;have e2:(k:Int).toNat=k:=Int.toNat_natCast k;have hbad:∀e:Int,k<X.on.length→e≠0→txOn X.on k=e→taxsE l=e:=fun e h h1 h2=>taxE_hit (by omega) hi p2 h1 (by rw[hT1];exact firstAt_eq h q2 h1 h2)
   clear hD hK hk;conv=>whnf
   repeat' (first|(refine CallX.exact (s110 _ _ _) rfl rfl ?_;rotate_right;conv=>whnf)|((first|(refine br_intro ?_ ?_<;>intro hb<;>try simp only[brs]at hb)|omega|refine sAx ?_|decide|assumption)<;>conv=>whnf))
   all_goals first
    |(refine⟨k+1,⟨by omega,first_step q2 (by clear p2 q2 hbad hT1 hX;simp only[e2,toNat_pred]at*;unfold txOn;grind)⟩,by omega,(by exact eAx [(4,4)])⟩)
    | (refine .ret _ ?_
       conv=>whnf
       refine⟨[],⟨?_,rfl⟩,trivial⟩;conv=>lhs;whnf
       congr 2
       exact(hbad _ (by omega) (by decide) (by clear p2 q2 hbad hT1 hX;simp only[e2,toNat_pred]at*;unfold txOn;grind)).symm)
    | (refine⟨i+1,⟨by omega,first_step p2 ?_⟩,by omega,(by exact eAx [])⟩
       rw[hT1];have:k=X.on.length:=by omega
       subst this
       exact firstAt_zero q2)
 · refine .ret _ ?_;conv=>whnf
   refine⟨[],⟨?_,rfl⟩,trivial⟩;conv=>lhs;whnf
   congr 2
   have:i=l.length:=by omega
   subst this;unfold taxsE;rw[if_neg (by omega),firstAt_zero p2]
def oKTaD112_1:OL:= [(0,[]),(1,[]),(3,[0,1]),(4,[0,1]),(6,[0,1,3,4]),(7,[0,1,3,4]),(9,[0,1,3,4,6,7]),(10,[0,1,3,4,6,7]),(12,[0,1,3,4,6,7,9,10]),(13,[0,1,3,4,6,7,9,10]),(2,[3,4,6,7,9,10,12,13]),(5,[6,7,9,10,12,13]),(8,[9,10,12,13]),(11,[12,13]),(14,[]),(15,[]),(16,[]),(17,[])]
def oKTaD62_1:OL:= [(0,[]),(1,[]),(3,[0,1]),(4,[0,1]),(6,[0,1,3,4]),(7,[0,1,3,4]),(9,[0,1,3,4,6,7]),(10,[0,1,3,4,6,7]),(12,[0,1,3,4,6,7,9,10]),(13,[0,1,3,4,6,7,9,10]),(17,[0,1,3,4,6,7,9,10,12,13]),(2,[3,4,6,7,9,10,12,13,17]),(5,[6,7,9,10,12,13,17]),(8,[9,10,12,13,17]),(11,[12,13,17]),(14,[17]),(15,[17]),(16,[17])]
def oKTaD73_1:OL:= [(0,[]),(1,[]),(3,[0,1]),(4,[0,1]),(6,[0,1,3,4]),(7,[0,1,3,4]),(2,[3,4,6,7]),(5,[6,7]),(8,[]),(9,[]),(10,[]),(11,[])]
structure Tar where
 rat:List Rat
 ext:List Ext
 fe:List Fe
 cod:List Cod
 tax:List Tax
def tarL (t:Tar):List SV:= [.d (rats t.rat),.d (exts t.ext),.d (fes t.fe),.d (cods t.cod),.d (taxs t.tax)]
def tarOk (t:Tar):Prop:=ratOk t.rat∧extOk t.ext∧feOk t.fe∧codOk t.cod∧taxOk t.tax
def tarE (t:Tar):Int:=firstE [ratsE t.rat,extsE t.ext,fesE t.fe,codsE t.cod,taxsE t.tax]
structure Dea where
 free:Int
 km:Int
 eig:Int
 grc:Int
 hr:Int
 dy:Int
 dep:Int
def deaF (d:Dea):List DV:= [.int .i64 d.free,.int .i64 d.km,.int .i64 d.eig,.int .i64 d.grc,.int .i64 d.hr,.int .i64 d.dy,.int .i64 d.dep]
def deaE (d:Dea):Int:=if(0≤d.free∧d.free≤10000)∧(0≤d.km∧d.km≤100000)∧(0≤d.eig∧d.eig≤100000)∧(0≤d.grc∧d.grc≤1440)∧(0≤d.hr∧d.hr≤1000000)∧(0≤d.dy∧d.dy≤1000000)∧(0≤d.dep∧d.dep≤1000000)then 0 else 1
theorem firstE_hit:∀ {R:List Int} {i:Nat},i<R.length→(∀j,j<i→R.getD j 0=0)→R.getD i 0≠0→firstE R=R.getD i 0
 | [],i,h,_,_=>by simp at h
 |x::R,0,_,_,h=>by simp only[List.getD_cons_zero]at h ⊢;rw[firstE,if_neg h]
 | x::R,i+1,h,p,q=>by
   have h0:x=0:=p 0 (by omega);simp only[List.getD_cons_succ]at q ⊢;rw[firstE,if_pos h0];exact firstE_hit (by simpa using h) (fun j hj=>by have:=p (j+1) (by omega);simpa using this) q
theorem firstE_none:∀ {R:List Int},(∀j,j<R.length→R.getD j 0=0)→firstE R=0
 | [],_=>rfl
 | x::R,p=>by
   have h0:x=0:=p 0 (by simp);rw[firstE,if_pos h0];exact firstE_none (fun j hj=>by have:=p (j+1) (by simpa using hj);simpa using this)
theorem y81 (t:Tar)(hk:tarOk t):FSpec Tryz.prog 112 [.agg (tarL t)] [] (fun x r=>x= .d (.int .i64 (tarE t))∧r= []):=by
 refine spec_of hT (C:= []) Tryz.func112 rfl Tryz.call112 rfl rfl rfl ?_;conv=>whnf
 repeat' (first|(refine CallX.exact (y149 _ hk.1) rfl rfl ?_;rotate_right;conv=>whnf)|(refine CallX.exact (y150 _ hk.2.1) rfl rfl ?_;rotate_right;conv=>whnf)|(refine CallX.exact (y151 _ hk.2.2.1) rfl rfl ?_;rotate_right;conv=>whnf)|(refine CallX.exact (y152 _ hk.2.2.2.1) rfl rfl ?_;rotate_right;conv=>whnf)|(refine CallX.exact (y153 _ hk.2.2.2.2) rfl rfl ?_;rotate_right;conv=>whnf)|((first|refine CallX.pure (s105 [_,_,_,_,_] (by simp)) ⟨SV.le_lit (by rfl) (by rfl),trivial⟩ rfl ?_|(refine br_intro ?_ ?_<;>intro hb<;>try simp only[brs]at hb)|refine rAx hT 1 oKTaD112_1 ?_|omega|refine sAx ?_|decide|assumption)<;>conv=>whnf))
 refine .ret _ ?_;conv=>whnf
 refine⟨[],⟨?_,rfl⟩,trivial⟩;conv=>lhs;whnf
 rfl
theorem y84 (t:Tar)(hk:tarOk t):FSpec Tryz.prog 62 [.agg (tarL t)] [] (fun x r=>x= .d (.int .i64 (tarE t))∧r= []):=by
 have h1:=y161 _ hk.1;have h2:=y162 _ hk.2.1;have h3:=y163 _ hk.2.2.1;have h4:=y164 _ hk.2.2.2.1;have h5:=y165 _ hk.2.2.2.2;unfold tarE;generalize ratsE t.rat=r1 at h1 ⊢;generalize extsE t.ext=r2 at h2 ⊢;generalize fesE t.fe=r3 at h3 ⊢;generalize codsE t.cod=r4 at h4 ⊢;generalize taxsE t.tax=r5 at h5 ⊢;refine spec_of hT (C:= []) Tryz.func62 rfl Tryz.call62 rfl rfl rfl ?_;conv=>whnf
 repeat' (first|(refine CallX.exact (h1) rfl rfl ?_;rotate_right;conv=>whnf)|(refine CallX.exact (h2) rfl rfl ?_;rotate_right;conv=>whnf)|(refine CallX.exact (h3) rfl rfl ?_;rotate_right;conv=>whnf)|(refine CallX.exact (h4) rfl rfl ?_;rotate_right;conv=>whnf)|(refine CallX.exact (h5) rfl rfl ?_;rotate_right;conv=>whnf)|((first|(refine br_intro ?_ ?_<;>intro hb<;>try simp only[brs]at hb)|refine rAx hT 1 oKTaD62_1 ?_|omega|refine sAx ?_|decide|assumption)<;>conv=>whnf))
 obtain⟨R,hR⟩:∃R:List Int,R= [r1,r2,r3,r4,r5]:=⟨_,rfl⟩;have hRl:R.length=5:=by rw[hR];rfl
 rw[←hR];refine LoopX.rule hT (C:= []) (ι:=Nat) (fun i=>i≤5∧∀j,j<i→R.getD j 0=0) (fun i=>mkSt [(20,.d (ints R)),(21,.d (.int .i64 5)),(22,.d (.int .i64 i))] []) (fun i=>5 - i) 0 ⟨by omega,by omega⟩ (by subst hR;exact(by(refine Entails.mk' [] rfl rfl ?_ ?_<;>repeat' (first|exact True.intro|exact lr|exact rr|(exact SV.le_lit rfl rfl)|exact SV.le_int (by omega)|exact SV.le_any _|refine And.intro ?_ ?_));done)) ?_;rintro i ⟨p1,p2⟩;have e1:(i:Int).toNat=i:=Int.toNat_natCast i;conv=>whnf
 repeat' (first|((first|(refine br_intro ?_ ?_<;>intro hb<;>try simp only[brs]at hb)|refine rAx hT 1 oKTaD62_1 ?_|omega|refine sAx ?_|decide|assumption)<;>conv=>whnf))
 · refine .ret _ ?_;conv=>whnf
   refine⟨[],⟨?_,rfl⟩,trivial⟩;conv=>lhs;whnf
   congr 2
   exact(firstE_hit (by omega) p2 hb).symm
 · exact⟨i+1,⟨by omega,all_step p2 hb⟩,by omega,(by exact eAx [])⟩
 · refine .ret _ ?_;conv=>whnf
   refine⟨[],⟨?_,rfl⟩,trivial⟩;conv=>lhs;whnf
   congr 2
   exact(firstE_none (fun j hj=>p2 j (by omega))).symm
theorem y82 (d:Dea):FSpec Tryz.prog 113 [.agg ((deaF d).map .d)] [] (fun x r=>x= .d (.int .i64 (deaE d))∧r= []):=by
 refine spec_of hT (C:= []) Tryz.func113 rfl Tryz.call113 rfl rfl rfl ?_;conv=>whnf
 repeat' (first|(refine CallX.exact (s119 _ _ _) rfl rfl ?_;rotate_right;conv=>whnf)|(refine CallX.exact (s107 _ _) rfl rfl ?_;rotate_right;conv=>whnf)|((first|(refine br_intro ?_ ?_<;>intro hb<;>try simp only[brs]at hb)|omega|refine sAx ?_|decide|assumption)<;>conv=>whnf))
 all_goals
  refine .ret _ ?_;conv=>whnf
  refine⟨[],⟨?_,rfl⟩,trivial⟩;conv=>lhs;whnf
  congr 2
  unfold deaE;grind
theorem y85 (d:Dea):FSpec Tryz.prog 65 [.agg ((deaF d).map .d)] [] (fun x r=>x= .d (.int .i64 (deaE d))∧r= []):=by
 refine spec_of hT (C:= []) Tryz.func65 rfl Tryz.call65 rfl rfl rfl ?_;conv=>whnf
 repeat' (first|(refine CallX.exact (s110 _ _ _) rfl rfl ?_;rotate_right;conv=>whnf)|((first|(refine br_intro ?_ ?_<;>intro hb<;>try simp only[brs]at hb)|omega|refine sAx ?_|decide|assumption)<;>conv=>whnf))
 all_goals
  refine .ret _ ?_;conv=>whnf
  refine⟨[],⟨?_,rfl⟩,trivial⟩;conv=>lhs;whnf
  congr 2
  unfold deaE;grind
structure Hou where
 flt:Flt
 tar:Tar
 dea:Dea
def fltL (f:Flt):List SV:= [.d (stas f.sta),.d (clss f.cls),.d (vehs f.veh),.d (plts f.plt)]
def hou (h:Hou):SV:=.agg (fltL h.flt++tarL h.tar++(deaF h.dea).map .d)
def houOk (h:Hou):Prop:=fltOk h.flt∧tarOk h.tar
def houE (h:Hou):Int:=firstE [fltE h.flt,tarE h.tar,deaE h.dea]
theorem y20h (h:Hou)(hk:houOk h):FSpec Tryz.prog 73 [hou h] [] (fun x r=>x= .d (.int .i64 (houE h))∧r= []):=by
 refine spec_of hT (C:= []) Tryz.func73 rfl Tryz.call73 rfl rfl rfl ?_;conv=>whnf
 repeat' (first|(refine CallX.exact (z114 h.flt hk.1) rfl rfl ?_;rotate_right;conv=>whnf)|(refine CallX.exact (y81 h.tar hk.2) rfl rfl ?_;rotate_right;conv=>whnf)|(refine CallX.exact (y82 h.dea) rfl rfl ?_;rotate_right;conv=>whnf)|((first|refine CallX.pure (s105 [_,_,_] (by simp)) ⟨SV.le_lit (by rfl) (by rfl),trivial⟩ rfl ?_|(refine br_intro ?_ ?_<;>intro hb<;>try simp only[brs]at hb)|refine rAx hT 1 oKTaD73_1 ?_|omega|refine sAx ?_|decide|assumption)<;>conv=>whnf))
 refine .ret _ ?_;conv=>whnf
 refine⟨[],⟨?_,rfl⟩,trivial⟩;conv=>lhs;whnf
 rfl
def oKTmA63_12:OL:= [(0,[]),(1,[]),(2,[0,1]),(3,[0,1,2]),(4,[0,1]),(5,[]),(6,[])]
def ratM (x:Rat):Prop:=x.cls.length≤8
def c3:List (List UInt8):= [[109,97,120,105],[109,105,100,105],[109,105,110,105]]
set_option maxHeartbeats 4000000 in
theorem y169 (n:Nat)(L:Nat→Int)(hL:Rok n L)(a:Int)(h0:0≤a)(ha:a≤2^36):
 FSpec Tryz.prog 63 [.ptr 1000000 0] [(1000000,strm n L a)] (fun y r=>∃l:List Rat,∃b,allK ratM 9 l∧(a≤b∧b≤a+100)∧y= .buf 3∧r= [(3,seqB 201 7 ratF rat0 l),(1000000,strm n L b)]):=by
 refine spec_of hT (C:= []) Tryz.func63 rfl Tryz.call63 rfl rfl rfl ?_;conv=>whnf
 refine LoopX.rule hT (C:= []) (ι:=Int×List Rat×Nat) (fun(b,l,i)=>(a≤b∧b≤a+30*i∧i≤3)∧allK ratM (3*i) l)
  (fun(b,l,i)=>mkSt [(0,.ptr 1000000 0),(3,.buf 3),(8,.d (strs c3)),(9,.d (.int .i64 3)),(10,.d (.int .i64 i))] [(1000000,strm n L b),(3,seqB 201 7 ratF rat0 l)])
  (fun(_,_,i)=>3 - i) (a,[],0) ⟨⟨by simp,by simp,by simp⟩,⟨by simp,by simp⟩⟩ ?_ ?_
 · refine(Entails.nil 3 3 201 7 (rowF ratF rat0 []) rfl rfl (by decide)).trans (Entails.mk' [(1000000,1000000),(3,3)] rfl rfl ⟨lr,lr,SV.le_lit rfl rfl,lr,lr,trivial⟩ ⟨rr,rr,trivial⟩)
 rintro⟨b,l,i⟩ ⟨⟨p1,p2,p3⟩,p4⟩;have p1:a≤b:=p1;have p2:b≤a+30*i:=p2;have p3:i≤3:=p3;have p4:allK ratM (3*i) l:=p4;have hc3:c3.length=3:=rfl;have hl1:l.length≤3*i:=p4.1;rcases Nat.lt_or_ge i 3 with hi|hi
 · conv=>whnf
   repeat' (first|(refine CallX.of (s33 n L hL _ ?_ ?_ [0,0,0,3] ?_ ?_) [(1000000,1000000)] rfl ⟨lr,SV.le_lit rfl rfl,trivial⟩ ⟨rr,trivial⟩ rfl rfl ?_;rotate_right;rintro x rout ⟨⟨u1,hu1,rfl⟩,⟨c,c1,c2,rfl⟩⟩;have hw1:=pkD hu1 (by decide);refine⟨rfl,?_⟩;conv=>whnf)|(refine CallX.of (s33 n L hL _ ?_ ?_ [0,1,1,2,3] ?_ ?_) [(1000000,1000000)] rfl ⟨lr,SV.le_lit rfl rfl,trivial⟩ ⟨rr,trivial⟩ rfl rfl ?_;rotate_right;rintro x rout ⟨⟨u2,hu2,rfl⟩,⟨c,c1,c2,rfl⟩⟩;refine⟨rfl,?_⟩;conv=>whnf)|((first|(refine br_intro ?_ ?_<;>intro hb<;>try simp only[brs]at hb)|refine rAx hT 12 oKTmA63_12 ?_|omega|refine sAx ?_|decide|assumption)<;>conv=>whnf))
   all_goals try(exfalso;omega)
   have hw2:0≤u2∧u2≤3:=by simp only[List.mem_cons,List.not_mem_nil,or_false]at hu2;omega
   have hw3:u1≤5000:=by omega
   have hkk:(c3.getD (i:Int).toNat []).length≤8:=mem_len (getD_mem (by omega)) rfl;obtain⟨cc,hcc⟩:∃cc:Int,cc=c:=⟨_,rfl⟩;obtain⟨ky,hky⟩:∃ky,ky=c3.getD (i:Int).toNat []:=⟨_,rfl⟩
   refine LoopX.rule hT (C:= []) (ι:=Int×List Rat×Int×Nat) (fun(d,m,f,k)=>(cc≤d∧d≤cc+6*k∧(k:Int)≤u2)∧allK ratM (3*i+k) m∧0≤f∧f≤5000)
    (fun(d,m,f,k)=>mkSt [(0,.ptr 1000000 0),(3,.buf 3),(5,.d (.str ky)),(6,.d (.int .i64 f)),(8,.d (strs c3)),(9,.d (.int .i64 3)),(10,.d (.int .i64 i)),(19,.d (.int .i64 u2)),(20,.d (.int .i64 k))] [(1000000,strm n L d),(3,seqB 201 7 ratF rat0 m)])
    (fun(_,_,_,k)=>u2.toNat - k) (cc,l,u1,0) ⟨⟨by simp,by simp,by show((0:Nat):Int)≤u2;omega⟩,p4,by show 0≤u1;omega,by show u1≤5000;omega⟩ (by subst hcc hky;exact(by exact eAx [(1000000,1000000),(3,3)])) ?_
   rintro⟨d,m,f,k⟩ ⟨⟨q1,q2,q3⟩,q4,q5,q6⟩;have q1:cc≤d:=q1;have q2:d≤cc+6*k:=q2;have q3:(k:Int)≤u2:=q3;have q4:allK ratM (3*i+k) m:=q4;have q5:0≤f:=q5;have q6:f≤5000:=q6;have hm1:m.length≤3*i+k:=q4.1;conv=>whnf
   repeat' (first|(refine CallX.of (s33 n L hL _ ?_ ?_ [1,5,20,4000] ?_ ?_) [(1000000,1000000)] rfl ⟨lr,SV.le_lit rfl rfl,trivial⟩ ⟨rr,trivial⟩ rfl rfl ?_;rotate_right;rintro x rout ⟨⟨u3,hu3,rfl⟩,⟨c,c1,c2,rfl⟩⟩;have hw4:0≤u3∧u3≤4000:=(by simp only[List.mem_cons,List.not_mem_nil,or_false]at hu3;omega);refine⟨rfl,?_⟩;conv=>whnf)|(refine CallX.of (s33 n L hL _ ?_ ?_ [-1,5,10,10,0] ?_ ?_) [(1000000,1000000)] rfl ⟨lr,SV.le_lit rfl rfl,trivial⟩ ⟨rr,trivial⟩ rfl rfl ?_;rotate_right;rintro x rout ⟨⟨u4,hu4,rfl⟩,⟨c,c1,c2,rfl⟩⟩;refine⟨rfl,?_⟩;conv=>whnf)|(refine CallX.of (s33 n L hL _ ?_ ?_ [-1,50,50,70,40] ?_ ?_) [(1000000,1000000)] rfl ⟨lr,SV.le_lit rfl rfl,trivial⟩ ⟨rr,trivial⟩ rfl rfl ?_;rotate_right;rintro x rout ⟨⟨u5,hu5,rfl⟩,⟨c,c1,c2,rfl⟩⟩;refine⟨rfl,?_⟩;conv=>whnf)|(refine CallX.of (s33 n L hL _ ?_ ?_ [-1,70,90,100] ?_ ?_) [(1000000,1000000)] rfl ⟨lr,SV.le_lit rfl rfl,trivial⟩ ⟨rr,trivial⟩ rfl rfl ?_;rotate_right;rintro x rout ⟨⟨u6,hu6,rfl⟩,⟨c,c1,c2,rfl⟩⟩;refine⟨rfl,?_⟩;conv=>whnf)|(refine CallX.of (s33 n L hL _ ?_ ?_ [-1,200,250,300] ?_ ?_) [(1000000,1000000)] rfl ⟨lr,SV.le_lit rfl rfl,trivial⟩ ⟨rr,trivial⟩ rfl rfl ?_;rotate_right;rintro x rout ⟨⟨u7,hu7,rfl⟩,⟨c,c1,c2,rfl⟩⟩;refine⟨rfl,?_⟩;conv=>whnf)|(refine CallX.of (s33 n L hL _ ?_ ?_ [0,0,0,2] ?_ ?_) [(1000000,1000000)] rfl ⟨lr,SV.le_lit rfl rfl,trivial⟩ ⟨rr,trivial⟩ rfl rfl ?_;rotate_right;rintro x rout ⟨⟨u8,hu8,rfl⟩,⟨c,c1,c2,rfl⟩⟩;have hw8:0≤u8∧u8≤2:=(by simp only[List.mem_cons,List.not_mem_nil,or_false]at hu8;omega);refine⟨rfl,?_⟩;conv=>whnf)|((first|(refine And.intro (by show inI64 (min (f+u3) 4001+u8);unfold inI64;omega) ?_)|(refine br_intro ?_ ?_<;>intro hb<;>try simp only[brs]at hb)|refine rAx hT 12 oKTmA63_12 ?_|omega|refine sAx ?_|decide|assumption)<;>conv=>whnf))
   · exact⟨(c,m,i+1),⟨⟨by omega,by show _≤a+30*((i+1:Nat):Int);omega,by omega⟩,allK_le q4 (by omega)⟩,by show 3 - (i+1)<3 - i;omega,(by exact eAx [(1000000,1000000),(3,3)])⟩
   · exact⟨(_,m++ [⟨ky,f,min (f+u3) 4001,u4,u5,u6,u7⟩],min (f+u3) 4001+u8,k+1),⟨⟨by omega,by show _≤cc+6*((k+1:Nat):Int);omega,by show((k+1:Nat):Int)≤u2;omega⟩,allK_snoc q4 (by omega) (by show ky.length≤8;rw[hky];exact hkk),by show 0≤min (f+u3) 4001+u8;omega,by show min (f+u3) 4001+u8≤5000;omega⟩,by show u2.toNat - (k+1)<u2.toNat - k;omega,
      Entails.mk' [(1000000,1000000),(3,54)] rfl rfl ⟨lr,lr,lr,lr,lr,lr,lr,lr,lr,trivial⟩ ⟨rr,Res.le_snocF rfl,trivial⟩⟩
   · exact⟨(d,m,i+1),⟨⟨by omega,by show _≤a+30*((i+1:Nat):Int);omega,by omega⟩,allK_le q4 (by omega)⟩,by show 3 - (i+1)<3 - i;omega,(by exact eAx [(1000000,1000000),(3,3)])⟩
 · conv=>whnf
   repeat' (first|((first|(refine br_intro ?_ ?_<;>intro hb<;>try simp only[brs]at hb)|refine rAx hT 12 oKTmA63_12 ?_|omega|refine sAx ?_|decide|assumption)<;>conv=>whnf))
   all_goals try(exfalso;omega)
   refine .ret _ ?_;conv=>whnf
   exact⟨[(3,seqB 201 7 ratF rat0 l),(1000000,strm n L _)],⟨l,b,allK_le p4 (by omega),⟨by omega,by omega⟩,rfl,rfl⟩,rr,rr,trivial⟩
set_option maxHeartbeats 4000000 in
theorem yRates (n:Nat)(L:Nat→Int)(hL:Rok n L)(a:Int)(h0:0≤a)(ha:a≤2^35):
 FSpec Tryz.prog 94 [.ptr 1000000 0] [(1000000,strm n L a)] (fun y r=>(∃l:List Rat,allK ratM 10 l∧y= .d (rats l))∧Moved n L a 120 r):=by
 refine spec_of hT (C:= []) Tryz.func94 rfl Tryz.call94 rfl rfl rfl ?_;conv=>whnf
 refine CallX.of (y169 n L hL _ ?_ ?_) [(1000000,1000000),(3,6)] rfl ⟨lr,trivial⟩ ⟨rr,trivial⟩ rfl rfl ?_
 rotate_right
 rintro x rout ⟨l,b,p4,⟨p1,p2⟩,rfl,rfl⟩;refine⟨rfl,?_⟩;have hl1:l.length≤9:=p4.1;conv=>whnf
 repeat' (first|(refine CallX.of (s84 n L hL _ ?_ ?_ 12 ?_) [(1000000,1000000)] rfl ⟨lr,lr,trivial⟩ ⟨rr,trivial⟩ rfl rfl ?_;rotate_right;rintro x rout ⟨⟨w,rfl⟩,⟨c,c1,c2,rfl⟩⟩;refine⟨rfl,?_⟩;conv=>whnf)|(refine CallX.of (s86 n L hL _ ?_ ?_ 4 ?_) [(1000000,1000000)] rfl ⟨lr,lr,trivial⟩ ⟨rr,trivial⟩ rfl rfl ?_;rotate_right;rintro x rout ⟨⟨m,hm1,hm2,hm3,rfl⟩,⟨c,c1,c2,rfl⟩⟩;refine⟨rfl,?_⟩;conv=>whnf)|(refine CallX.of (s86 n L hL _ ?_ ?_ _ ?_) [(1000000,1000000)] rfl ⟨lr,lr,trivial⟩ ⟨rr,trivial⟩ rfl rfl ?_;rotate_right;rintro x rout ⟨⟨j,hj1,hj2,hj3,rfl⟩,⟨c,c1,c2,rfl⟩⟩;refine⟨rfl,?_⟩;conv=>whnf)|(refine CallX.of (s15 n L hL _ ?_ ?_ [[],[65],[109,105,110,105],[122,101,100]] (by simp) (by simp)) [(1000000,1000000)] rfl ⟨lr,SV.le_lit rfl rfl,trivial⟩ ⟨rr,trivial⟩ rfl rfl ?_;rotate_right;rintro x rout ⟨⟨u1,hu1,rfl⟩,⟨c,c1,c2,rfl⟩⟩;refine⟨rfl,?_⟩;conv=>whnf)|(refine CallX.of (s104 n L hL _ ?_ ?_ 0 10 ?_ ?_ ?_) [(1000000,1000000)] rfl ⟨lr,lr,lr,trivial⟩ ⟨rr,trivial⟩ rfl rfl ?_;rotate_right;rintro x rout ⟨⟨o1,ho1,ho2,rfl⟩,⟨c,c1,c2,rfl⟩⟩;refine⟨rfl,?_⟩;conv=>whnf)|(refine CallX.of (s104 n L hL _ ?_ ?_ 1 4001 ?_ ?_ ?_) [(1000000,1000000)] rfl ⟨lr,lr,lr,trivial⟩ ⟨rr,trivial⟩ rfl rfl ?_;rotate_right;rintro x rout ⟨⟨o2,ho3,ho4,rfl⟩,⟨c,c1,c2,rfl⟩⟩;refine⟨rfl,?_⟩;conv=>whnf)|(refine CallX.of (s104 n L hL _ ?_ ?_ (-1) 1000000 ?_ ?_ ?_) [(1000000,1000000)] rfl ⟨lr,lr,lr,trivial⟩ ⟨rr,trivial⟩ rfl rfl ?_;rotate_right;rintro x rout ⟨⟨o3,ho5,ho6,rfl⟩,⟨c,c1,c2,rfl⟩⟩;refine⟨rfl,?_⟩;conv=>whnf)|((first|(refine br_intro ?_ ?_<;>intro hb<;>try simp only[brs]at hb)|omega|refine sAx ?_|decide|assumption)<;>conv=>whnf))
 all_goals try(exact h0)
 all_goals try omega
 · have hw1:u1.length≤8:=mem_len hu1 rfl;refine .freeze _ 6 201 7 _ _ rfl (.weak _ ?_);conv=>whnf
   exact⟨.d (rats (updL l j.toNat rat0 fun y=>{y with cls:=u1})),[(1000000,strm n L _)],SV.le_upd (fun y:Rat=>{y with cls:=u1}) (fun _=>rfl),⟨⟨_,allK_upd (g:=fun y:Rat=>{y with cls:=u1}) (allK_le p4 (by omega)) (fun y hy=>hw1),rfl⟩,_,by omega,by omega,rfl⟩,rr,trivial⟩
 · refine .freeze _ 6 201 7 _ _ rfl (.weak _ ?_);conv=>whnf
   have hrow:=rows_updG (f:=ratF) (d:=rat0) (rows_updG (l:=l) (j:=j.toNat) (off:=1) (ds:= [.int .i64 o1]) (fun _ _=>rfl) (fun y:Rat=>{y with frm:=o1}) (fun _=>rfl)) (off:=2) (ds:= [.int .i64 o2]) (j:=j.toNat) (fun y:Rat=>{y with to:=o2}) (fun _=>rfl);exact⟨.d (rats (updL (updL l j.toNat rat0 fun y=>{y with frm:=o1}) j.toNat rat0 fun y=>{y with to:=o2})),[(1000000,strm n L _)],SV.le_ro (by simp) (fun i hi=>hrow i (by simpa using hi)),⟨⟨_,allK_upd (g:=fun y:Rat=>{y with to:=o2}) (allK_upd (g:=fun y:Rat=>{y with frm:=o1}) (allK_le p4 (by omega)) (fun y hy=>hy)) (fun y hy=>hy),rfl⟩,_,by omega,by omega,rfl⟩,rr,trivial⟩
 · refine .freeze _ 6 201 7 _ _ rfl (.weak _ ?_);conv=>whnf
   exact⟨.d (rats (updL l j.toNat rat0 fun y=>{y with dy:=o3})),[(1000000,strm n L _)],SV.le_upd (fun y:Rat=>{y with dy:=o3}) (fun _=>rfl),⟨⟨_,allK_upd (g:=fun y:Rat=>{y with dy:=o3}) (allK_le p4 (by omega)) (fun y hy=>hy),rfl⟩,_,by omega,by omega,rfl⟩,rr,trivial⟩
 · refine .freeze _ 27 201 7 _ _ rfl (.weak _ ?_);conv=>whnf
   exact⟨.d (rats (l++ [l.getD 0 rat0])),[(1000000,strm n L _)],SV.le_ro (by simp) (rows_snocF rfl),⟨⟨_,allK_snoc p4 (by omega) (p4.2 _ (getD_mem (by omega))),rfl⟩,_,by omega,by omega,rfl⟩,rr,trivial⟩
 all_goals
  refine .freeze _ 6 201 7 _ _ rfl (.weak _ ?_);conv=>whnf
  exact⟨.d (rats l),[(1000000,strm n L _)],lr,⟨⟨_,allK_le p4 (by omega),rfl⟩,_,by omega,by omega,rfl⟩,rr,trivial⟩
end Go.Proofs.YtjibpcoeghlnoaaGreatDoor
