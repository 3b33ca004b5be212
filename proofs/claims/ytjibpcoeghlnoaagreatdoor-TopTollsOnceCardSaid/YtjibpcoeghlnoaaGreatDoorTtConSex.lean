/- TopTollsOnce is proved: for every input the law returns true, and its argument reads afterwards as it read before. Conditions: those of the given row alone. -/
import Derived.Test.YtjibpcoeghlnoaaGreatDoorTtConQui
import Derived.Test.YtjibpcoeghlnoaaGreatDoorTtEngTwo
import Derived.Test.YtjibpcoeghlnoaaGreatDoorTtEngMap
import Derived.Test.YtjibpcoeghlnoaaGreatDoorTtConTwo
import Derived.Test.YtjibpcoeghlnoaaGreatDoorTtConQua
import Derived.Test.YtjibpcoeghlnoaaGreatDoorTtConTri
import Derived.Test.YtjibpcoeghlnoaaGreatDoorTtConOne
import Derived.Sort.OwnSorted
import Derived.Shelf.Sort.Plain
import Derived.Shelf.Slices.In.SortNone
import Derived.Lib.ItoaNum
import Derived.Lib.AtoiAll
import Derived.Lib.Strings
set_option linter.unusedVariables false
set_option linter.unusedSimpArgs false
set_option maxRecDepth 20000
namespace Go.Proofs.YtjibpcoeghlnoaaGreatDoor
open Go Go.Eng
theorem dec_len:∀ (k u:Nat),u<10 ^ (k+1)→(Lib.decDigits u).length≤k+1:=by
 intro k
 induction k with
 | zero=>
   intro u h
   rw[Lib.decDigits,dif_pos (by omega)];simp
 | succ k ih=>
   intro u h;rw[Lib.decDigits];split
   · simp
   · have:=ih (u/10) (by rw[Nat.pow_succ]at h;omega);simp;omega
theorem itoa_len {n:Int}(h0: -2^60≤n)(h1:n≤2^60):(Lib.itoa n).length≤20:=by
 have key:∀u:Nat,u≤2^60→(Lib.decDigits u).length≤19:=fun u hu=>dec_len 18 u (by omega)
 unfold Lib.itoa;split
 · have:=key n.natAbs (by omega);simp;omega
 · have:=key n.toNat (by omega);omega
set_option maxHeartbeats 4000000 in
theorem lz59 (n:Nat)(L:Nat→Int)(hL:Rok n L)(a:Int)(h0:0≤a)(ha:a≤2^37)(at':Int)(hq1: -2^40≤at')(hq2:at'≤2^40):
 FSpec Tryz.prog 66 [.ptr 1000000 0,.d (.int .i64 at')] [(1000000,strm n L a),(1000009,KX)] (fun y r=>(∃t:List UInt8,t.length≤2^10∧y= .d (.str t))∧MovedK n L a 20 r):=by
 have hI:∀k:Int,-2^60≤k→k≤2^60→(Lib.itoa k).length≤20:=fun k h1 h2=>itoa_len h1 h2
 refine spec_of hT (C:= []) Tryz.func66 rfl Tryz.call66 rfl rfl rfl ?_;conv=>whnf
 repeat' (first|(refine CallX.of (s15 n L hL _ ?_ ?_ [[118,49],[118,49],[118,50],[118,51],[110,111,110,101]] (by simp) (by simp)) [(1000000,1000000)] rfl ⟨lr,SV.le_lit rfl rfl,trivial⟩ ⟨rr,trivial⟩ rfl rfl ?_;rotate_right;rintro x rout ⟨⟨u0,hu0,rfl⟩,⟨c,c1,c2,rfl⟩⟩;have hw0:=mem_len hu0 rfl;refine⟨rfl,?_⟩;conv=>whnf)|(refine CallX.of (s15 n L hL _ ?_ ?_ [[115,49],[115,49],[115,49],[115,50],[115,57]] (by simp) (by simp)) [(1000000,1000000)] rfl ⟨lr,SV.le_lit rfl rfl,trivial⟩ ⟨rr,trivial⟩ rfl rfl ?_;rotate_right;rintro x rout ⟨⟨u1,hu1,rfl⟩,⟨c,c1,c2,rfl⟩⟩;have hw1:=mem_len hu1 rfl;refine⟨rfl,?_⟩;conv=>whnf)|(refine CallX.of (s15 n L hL _ ?_ ?_ [[104,49],[104,49],[104,50],[104,51],[65]] (by simp) (by simp)) [(1000000,1000000)] rfl ⟨lr,SV.le_lit rfl rfl,trivial⟩ ⟨rr,trivial⟩ rfl rfl ?_;rotate_right;rintro x rout ⟨⟨u2,hu2,rfl⟩,⟨c,c1,c2,rfl⟩⟩;have hw2:=mem_len hu2 rfl;refine⟨rfl,?_⟩;conv=>whnf)|(refine CallX.of (s15 n L hL _ ?_ ?_ [[115,104,111,112],[100,111,110,101],[99,111,109,101],[103,111,110,101]] (by simp) (by simp)) [(1000000,1000000)] rfl ⟨lr,SV.le_lit rfl rfl,trivial⟩ ⟨rr,trivial⟩ rfl rfl ?_;rotate_right;rintro x rout ⟨⟨u3,hu3,rfl⟩,⟨c,c1,c2,rfl⟩⟩;have hw3:=mem_len hu3 rfl;refine⟨rfl,?_⟩;conv=>whnf)|(refine CallX.of (s15 n L hL _ ?_ ?_ [[115,50],[115,49],[115,57]] (by simp) (by simp)) [(1000000,1000000)] rfl ⟨lr,SV.le_lit rfl rfl,trivial⟩ ⟨rr,trivial⟩ rfl rfl ?_;rotate_right;rintro x rout ⟨⟨u4,hu4,rfl⟩,⟨c,c1,c2,rfl⟩⟩;have hw4:=mem_len hu4 rfl;refine⟨rfl,?_⟩;conv=>whnf)|(refine CallX.of (s15 n L hL _ ?_ ?_ [[109,105,110,105],[109,105,100,105],[110,111,110,101]] (by simp) (by simp)) [(1000000,1000000)] rfl ⟨lr,SV.le_lit rfl rfl,trivial⟩ ⟨rr,trivial⟩ rfl rfl ?_;rotate_right;rintro x rout ⟨⟨u5,hu5,rfl⟩,⟨c,c1,c2,rfl⟩⟩;have hw5:=mem_len hu5 rfl;refine⟨rfl,?_⟩;conv=>whnf)|(refine CallX.of (s15 n L hL _ ?_ ?_ [[53,48],[49,48,48],[49,48,49]] (by simp) (by simp)) [(1000000,1000000)] rfl ⟨lr,SV.le_lit rfl rfl,trivial⟩ ⟨rr,trivial⟩ rfl rfl ?_;rotate_right;rintro x rout ⟨⟨u6,hu6,rfl⟩,⟨c,c1,c2,rfl⟩⟩;have hw6:=mem_len hu6 rfl;refine⟨rfl,?_⟩;conv=>whnf)|(refine CallX.of (s15 n L hL _ ?_ ?_ [[48],[49,48,48],[57,57,57,57,57,48]] (by simp) (by simp)) [(1000000,1000000)] rfl ⟨lr,SV.le_lit rfl rfl,trivial⟩ ⟨rr,trivial⟩ rfl rfl ?_;rotate_right;rintro x rout ⟨⟨u7,hu7,rfl⟩,⟨c,c1,c2,rfl⟩⟩;have hw7:=mem_len hu7 rfl;refine⟨rfl,?_⟩;conv=>whnf)|(refine CallX.of (s15 n L hL _ ?_ ?_ [[56],[52],[57]] (by simp) (by simp)) [(1000000,1000000)] rfl ⟨lr,SV.le_lit rfl rfl,trivial⟩ ⟨rr,trivial⟩ rfl rfl ?_;rotate_right;rintro x rout ⟨⟨u8,hu8,rfl⟩,⟨c,c1,c2,rfl⟩⟩;have hw8:=mem_len hu8 rfl;refine⟨rfl,?_⟩;conv=>whnf)|(refine CallX.of (s15 n L hL _ ?_ ?_ [[53],[51,48,48],[52,48,48]] (by simp) (by simp)) [(1000000,1000000)] rfl ⟨lr,SV.le_lit rfl rfl,trivial⟩ ⟨rr,trivial⟩ rfl rfl ?_;rotate_right;rintro x rout ⟨⟨u9,hu9,rfl⟩,⟨c,c1,c2,rfl⟩⟩;have hw9:=mem_len hu9 rfl;refine⟨rfl,?_⟩;conv=>whnf)|(refine CallX.of (s15 n L hL _ ?_ ?_ [[56],[50]] (by simp) (by simp)) [(1000000,1000000)] rfl ⟨lr,SV.le_lit rfl rfl,trivial⟩ ⟨rr,trivial⟩ rfl rfl ?_;rotate_right;rintro x rout ⟨⟨u10,hu10,rfl⟩,⟨c,c1,c2,rfl⟩⟩;have hw10:=mem_len hu10 rfl;refine⟨rfl,?_⟩;conv=>whnf)|(refine CallX.of (s33 n L hL _ ?_ ?_ [10,60,1440,2000,-5] (by simp) (by simp)) [(1000000,1000000)] rfl ⟨lr,SV.le_lit rfl rfl,trivial⟩ ⟨rr,trivial⟩ rfl rfl ?_;rotate_right;rintro x rout ⟨⟨n1,hn1,rfl⟩,⟨c,c1,c2,rfl⟩⟩;have hm1:=mem_bd hn1 rfl;have hm1a:=hm1.1;have hm1b:=hm1.2;refine⟨rfl,?_⟩;conv=>whnf)|(refine CallX.of (s33 n L hL _ ?_ ?_ [0,10,100] (by simp) (by simp)) [(1000000,1000000)] rfl ⟨lr,SV.le_lit rfl rfl,trivial⟩ ⟨rr,trivial⟩ rfl rfl ?_;rotate_right;rintro x rout ⟨⟨n2,hn2,rfl⟩,⟨c,c1,c2,rfl⟩⟩;have hm2:=mem_bd hn2 rfl;have hm2a:=hm2.1;have hm2b:=hm2.2;refine⟨rfl,?_⟩;conv=>whnf)|(refine CallX.of (s86 n L hL _ ?_ ?_ _ ?_) [(1000000,1000000)] rfl ⟨lr,lr,trivial⟩ ⟨rr,trivial⟩ rfl rfl ?_;rotate_right;rintro x rout ⟨⟨j,hj1,hj2,hj3,rfl⟩,⟨c,c1,c2,rfl⟩⟩;refine⟨rfl,?_⟩;conv=>whnf)|((first|refine CallX.kn (zItoa _ (by omega) (by omega)) rfl rfl rfl rfl ?_|(refine CallX.of (s15 n L hL _ (by omega) (by omega) [_,_,_,_,_,_,_,_] (by simp) (by simp)) [(1000000,1000000)] rfl ⟨lr,SV.le_lit rfl rfl,trivial⟩ ⟨rr,trivial⟩ rfl rfl ?_;rintro x rout ⟨⟨z,hz,rfl⟩,⟨c9,c91,c92,rfl⟩⟩;refine⟨rfl,?_⟩)|(refine And.intro (by simp only[List.length_append,List.toList_toArray,List.length_cons,List.length_nil];have i1:=hI (at'+n1) (by omega) (by omega);first|omega|(have i2:=hI (at'+n2) (by omega) (by omega);omega)) ?_)|(refine br_intro ?_ ?_<;>intro hb<;>try simp only[brs]at hb)|omega|refine sAx ?_|decide|assumption)<;>conv=>whnf))
 all_goals refine .ret _ ?_
 all_goals conv=>whnf
 all_goals refine⟨[(1000000,strm n L _),(1000009,KX)],⟨⟨_,?_,rfl⟩,⟨_,?_,?_,rfl⟩⟩,rr,rr,trivial⟩
 all_goals first
  |omega
  | (have i1:=hI (at'+n1) (by omega) (by omega)
     first
      | (simp only[List.length_append,List.toList_toArray,List.length_cons,List.length_nil]
         first
          |omega
          |(have i2:=hI (at'+n2) (by omega) (by omega);omega))
      | (simp only[List.mem_cons,List.not_mem_nil,or_false]at hz
         rcases hz with rfl|rfl|rfl|rfl|rfl|rfl|rfl|rfl<;>simp only[List.length_append,List.toList_toArray,List.length_cons,List.length_nil]<;>omega))
def oKEnF23_9:OL:= [(0,[]),(1,[0]),(2,[0,1]),(3,[0,1,2]),(4,[0,1]),(5,rg 5),(6,rg 6),(9,rg 7),(7,[0,1,2,3,4,9]),(8,[9]),(10,[])]
abbrev enB (l:List Ent):Res:=seqB 164 4 enF en0 l
def keyE:List DV→List UInt8
 | [.str s]=>s
 |_=> []
abbrev mpE (g:List UInt8→Int):Res:=.map false false [.str] [.int .i64 0] (fun K=>decide (0<g (keyE K))) (fun K=> [.int .i64 (g (keyE K))])
def upE (g:List UInt8→Int)(x:List UInt8):List UInt8→Int:=fun s=>if s=x then g x+1 else g s
theorem wk_str1 {K:List DV}(h:wk [.str] K=true):∃s,K= [.str s]:=by
 match K,h with
 | [.str s],_=>exact⟨s,rfl⟩
theorem mpE_up {g:List UInt8→Int}{x:List UInt8}(h0:∀k,0≤g k):
 Res.le (.map false false [.str] [.int .i64 0] (fun q=>keyEq q [.str x]||decide (0<g (keyE q))) (fun q=>bif keyEq q [.str x]then [.int .i64 (g x+1)]else [.int .i64 (g (keyE q))])) (mpE (upE g x)):=Res.le_map fun K hK=>by
 obtain⟨s,rfl⟩:=wk_str1 hK
 have e:keyEq [.str s] [.str x]=decide (s=x):=by
  rw[Bool.eq_iff_iff];simp[keyEq,keyEq1]
 rw[e];show(decide (s=x)||decide (0<g s))=decide (0<upE g x s)∧(bif decide (s=x)then [DV.int .i64 (g x+1)]else [.int .i64 (g s)])= [.int .i64 (upE g x s)];unfold upE
 by_cases q:s=x
 · subst q;have:=h0 s;simp;omega
 · simp[q]
theorem keyEq_one (x:List UInt8):keyEq [.str x] [.str x]=true:=by simp[keyEq,keyEq1]
def entG (x:Ent):Prop:=(x.desk.length≤8∧x.words.length≤2^10)∧entR x
theorem pickE {u:Int}(h:u ∈ ([0,1,5,10,100,500]:List Int)):0≤u∧u≤500:=by
 simp only[List.mem_cons,List.not_mem_nil,or_false]at h;omega
set_option maxHeartbeats 4000000 in
theorem lz9 (n:Nat)(L:Nat→Int)(hL:Rok n L)(a:Int)(h0:0≤a)(ha:a≤2^36)(m:Int)(hm1:0≤m)(hm2:m≤20):
 FSpec Tryz.prog 23 [.ptr 1000000 0,.d (.int .i64 m)] [(1000000,strm n L a),(1000009,KX)] (fun y r=>∃l:List Ent,∃b,allK entG m.toNat l∧(a≤b∧b≤a+1000)∧y= .buf 5∧r= [(5,enB l),(1000000,strm n L b),(1000009,KX)]):=by
 refine spec_of hT (C:= []) Tryz.func23 rfl Tryz.call23 rfl rfl rfl ?_;conv=>whnf
 refine LoopX.rule hT (C:= []) (ι:=Int×List Ent×Nat×Int×(List UInt8→Int)) (fun(b,l,k,t,g)=>(a≤b∧b≤a+50*k∧(k:Int)≤m)∧allK entG k l∧(0≤t∧t≤2000*k)∧(∀s,0≤g s∧g s≤k))
  (fun(b,l,k,t,g)=>mkSt [(0,.ptr 1000000 0),(5,.buf 5),(6,.d (.int .i64 t)),(7,.mp 7),(11,.d (.int .i64 m)),(12,.d (.int .i64 k))] [(1000000,strm n L b),(1000009,KX),(5,enB l),(7,mpE g)])
  (fun(_,_,k,_,_)=>30 - k) (a,[],0,0,fun _=>0) ⟨⟨by simp,by simp,by simpa using hm1⟩,⟨by simp,by simp⟩,⟨by simp,by simp⟩,by simp⟩ ?_ ?_
 · refine(Entails.nil 5 5 164 4 (rowF enF en0 []) rfl rfl (by decide)).trans (Entails.mk' [(1000000,1000000),(1000009,1000009),(5,5),(7,10)] rfl rfl ⟨lr,lr,lr,lr,lr,lr,trivial⟩ ⟨rr,rr,rr,Res.le_map (fun key hk=> ?_),trivial⟩);obtain⟨s,rfl⟩:=wk_str1 hk;exact⟨rfl,rfl⟩
 rintro⟨b,l,k,t,g⟩ ⟨⟨p1,p2,p3⟩,q1,⟨q2,q3⟩,q4⟩;have p1:a≤b:=p1;have p2:b≤a+50*k:=p2;have p3:(k:Int)≤m:=p3;have q2:0≤t:=q2;have q3:t≤2000*k:=q3;have hl1:=q1.1;conv=>whnf
 repeat' (first|(refine CallX.of (s33 n L hL _ ?_ ?_ [0,1,5,10,100,500] (by simp) (by simp)) [(1000000,1000000)] rfl ⟨lr,SV.le_lit rfl rfl,trivial⟩ ⟨rr,trivial⟩ rfl rfl ?_;rotate_right;rintro x rout ⟨⟨u1,hu1,rfl⟩,⟨c,c1,c2,rfl⟩⟩;have hb1:=pickE hu1;have hb2:=hb1.1;have hb3:=hb1.2;refine⟨rfl,?_⟩;conv=>whnf)|(refine CallX.of (s15 n L hL _ ?_ ?_ [[100,49],[100,49],[100,50],[100,51]] (by simp) (by simp)) [(1000000,1000000)] rfl ⟨lr,SV.le_lit rfl rfl,trivial⟩ ⟨rr,trivial⟩ rfl rfl ?_;rotate_right;rintro x rout ⟨⟨u2,hu2,rfl⟩,⟨c,c1,c2,rfl⟩⟩;have hg2:=q4 u2;have hg3:0≤g (keyE [DV.str u2]):=hg2.1;have hg4:g (keyE [DV.str u2])≤k:=hg2.2;have hw2:=mem_len hu2 rfl;refine⟨rfl,?_⟩;conv=>whnf)|(refine CallX.of (s15 n L hL _ ?_ ?_ [[],[65]] (by simp) (by simp)) [(1000000,1000000)] rfl ⟨lr,SV.le_lit rfl rfl,trivial⟩ ⟨rr,trivial⟩ rfl rfl ?_;rotate_right;rintro x rout ⟨⟨u3,hu3,rfl⟩,⟨c,c1,c2,rfl⟩⟩;have hw3:=mem_len hu3 rfl;refine⟨rfl,?_⟩;conv=>whnf)|(refine CallX.of (s15 n L hL _ ?_ ?_ [[],[97,10],[195]] (by simp) (by simp)) [(1000000,1000000)] rfl ⟨lr,SV.le_lit rfl rfl,trivial⟩ ⟨rr,trivial⟩ rfl rfl ?_;rotate_right;rintro x rout ⟨⟨u4,hu4,rfl⟩,⟨c,c1,c2,rfl⟩⟩;have hw4:=mem_len hu4 rfl;refine⟨rfl,?_⟩;conv=>whnf)|(refine CallX.of (s104 n L hL _ ?_ ?_ 0 1000 ?_ ?_ ?_) [(1000000,1000000)] rfl ⟨lr,lr,lr,trivial⟩ ⟨rr,trivial⟩ rfl rfl ?_;rotate_right;rintro x rout ⟨⟨u5,hk1,hk2,rfl⟩,⟨c,c1,c2,rfl⟩⟩;refine⟨rfl,?_⟩;conv=>whnf)|(refine CallX.of (s104 n L hL _ ?_ ?_ 1 1000000 ?_ ?_ ?_) [(1000000,1000000)] rfl ⟨lr,lr,lr,trivial⟩ ⟨rr,trivial⟩ rfl rfl ?_;rotate_right;rintro x rout ⟨⟨u6,hk3,hk4,rfl⟩,⟨c,c1,c2,rfl⟩⟩;refine⟨rfl,?_⟩;conv=>whnf)|(refine CallX.of (s84 n L hL _ ?_ ?_ _ ?_) [(1000000,1000000)] rfl ⟨lr,lr,trivial⟩ ⟨rr,trivial⟩ rfl rfl ?_;rotate_right;rintro x rout ⟨⟨f,rfl⟩,⟨c,c1,c2,rfl⟩⟩;refine⟨rfl,?_⟩;conv=>whnf)|(refine CallX.of (s86 n L hL _ ?_ ?_ _ ?_) [(1000000,1000000)] rfl ⟨lr,lr,trivial⟩ ⟨rr,trivial⟩ rfl rfl ?_;rotate_right;rintro x rout ⟨⟨j,hj1,hj2,hj3,rfl⟩,⟨c,c1,c2,rfl⟩⟩;refine⟨rfl,?_⟩;conv=>whnf)|((first|(refine CallX.of (lz59 n L hL _ (by omega) (by omega) (t+u1) (by omega) (by omega)) [(1000000,1000000),(1000009,1000009)] rfl ⟨lr,lr,trivial⟩ ⟨rr,rr,trivial⟩ rfl rfl ?_;rintro x rout ⟨⟨w,hw,rfl⟩,⟨c5,c51,c52,rfl⟩⟩;refine⟨rfl,?_⟩)|refine And.intro (rfl:zrow _=some [DV.int .i64 0]) ?_)<;>conv=>whnf)|(simp only[Nat.beq_refl,cond_true];conv=>whnf)|(rw[keyEq_one,cond_true];conv=>whnf)|((first|(refine br_intro ?_ ?_<;>intro hb<;>try simp only[brs]at hb)|refine rAx hT 9 oKEnF23_9 ?_|omega|refine sAx ?_|decide|assumption)<;>conv=>whnf))
 all_goals first
  | (refine⟨(_,_,k+1,_,upE g u2),?_,?_,Entails.mk' [(1000000,1000000),(1000009,1000009),(5,62),(7,7)] rfl rfl ⟨lr,lr,lr,lr,lr,lr,trivial⟩ ⟨rr,rr,Res.le_snocF (x:=⟨_,_,_,_⟩) rfl,mpE_up (fun s=>(q4 s).1),trivial⟩⟩
     · dsimp only
       refine⟨⟨by omega,by omega,by omega⟩,allK_snoc q1 (Nat.le_refl _) ⟨⟨?_,?_⟩,⟨?_,?_⟩,?_,?_⟩,⟨by omega,by omega⟩,fun s=> ?_⟩
       · first
          |exact hw2
          |exact hw3
       · first
          |exact hw
          |exact Nat.le_trans hw4 (by omega)
       · (try dsimp only);omega
       · (try dsimp only);omega
       · (try dsimp only);omega
       · (try dsimp only);omega
       · have z1:=q4 s;have z2:=q4 u2;show 0≤upE g u2 s∧upE g u2 s≤((k+1:Nat):Int);unfold upE;split<;>omega
     · show 30 - (k+1)<30 - k;omega)
  |skip
 refine oAx (en126 68 entCmp l (by omega) (fun p q hp hq=>lz63 p q (q1.2 p hp).2 (q1.2 q hq).2)) [(1000001,5)] ?_;rintro x rout ⟨rfl,e,he,rfl⟩;refine⟨rfl,?_⟩;have he1:=he.1;conv=>whnf
 repeat' (first|((first|(refine br_intro ?_ ?_<;>intro hb<;>try simp only[brs]at hb)|refine rAx hT 9 oKEnF23_9 ?_|omega|refine sAx ?_|decide|assumption)<;>conv=>whnf))
 refine .ret _ ?_;conv=>whnf
 exact⟨[(5,enB e),(1000000,strm n L b),(1000009,KX)],⟨e,b,⟨by omega,fun p hp=>q1.2 p (he.2 p hp)⟩,⟨by omega,by omega⟩,rfl,rfl⟩,rr,rr,rr,trivial⟩
theorem entG_ok {l:List Ent}{k:Nat}(h:allK entG k l)(hk:k≤2^20):entOk l:=
 ⟨by have:=h.1;omega,fun x hx=>by
   obtain⟨⟨h1,h2⟩,h3⟩:=h.2 x hx
   exact⟨⟨by omega,by omega⟩,h3⟩⟩
end Go.Proofs.YtjibpcoeghlnoaaGreatDoor
namespace Go.Eng
open Go
variable {A:Amb} {G:Hp} {β:Env} {s:St} {t:Array Value} {w:World}
theorem RegX.ent {P:Program}{id:Nat}{ops:Array Oper}{k:St→Prop}{s s':St}(he:Entails s s')(h:RegX P id ops k s'):RegX P id ops k s:=
 ⟨fun A a w hN hm=>h.wp A a w hN (he.imp A a w hm)⟩
theorem MG.counted (h:MG A G β s t w){d:Nat}{ag va:Bool}{ks:List KK}{zr:List DV}{has:List DV→Bool}{val:List DV→List DV}(hd:s.res d=some (.map ag va ks zr has val)):
 ∃clock kb,KB ks has clock kb∧MG A G β (s.app ⟨none,.any,[(d,some (.mapB ag va ks zr has val clock kb))],[]⟩) t w:=by
 obtain⟨r,es,clock,l,hb,hh,hl,hw,hI,hf⟩:=h.rs _ _ hd;exact⟨clock,_,kb_of hl hw hI hf,h.change (d:=d) (r':=.mapB ag va ks zr has val clock ((l.map (·.1)).zip (es.toList.map (·.born)))) (v:=.map (some r)) (w':=w) hd rfl rfl hb rfl rfl rfl rfl (fun _ _=>rfl) ⟨r,es,l,hb,hh,hl,hw,hI,rfl,hf⟩⟩
theorem RegX.cnt {P:Program}{id:Nat}{ops:Array Oper}{k:St→Prop}{s:St}(d:Nat){ag va:Bool}{ks:List KK}{zr:List DV}{has:List DV→Bool}{val:List DV→List DV}(hd:s.res d=some (.map ag va ks zr has val))
 (h:∀clock kb,KB ks has clock kb→RegX P id ops k (s.app ⟨none,.any,[(d,some (.mapB ag va ks zr has val clock kb))],[]⟩)):RegX P id ops k s:=by
 refine⟨fun A a w hN=> ?_⟩;rintro⟨h0,G,β,hm⟩;obtain⟨clock,kb,hk,hm'⟩:=hm.counted hd;exact(h clock kb hk).wp A a w hN ⟨h0,G,β,hm'⟩
theorem Entails.unc {s:St}(d:Nat){ag va:Bool}{ks:List KK}{zr:List DV}{has:List DV→Bool}{val:List DV→List DV}{clock:Nat}{kb:List (List DV×Nat)}(hd:s.res d=some (.mapB ag va ks zr has val clock kb)):
 Entails s (s.app ⟨none,.any,[(d,some (.map ag va ks zr has val))],[]⟩):=by
 refine⟨fun A a w=> ?_⟩;rintro⟨h0,G,β,h⟩;obtain⟨r,es,l,hb,hh,hl,hw,hI,hkb,hf⟩:=h.rs _ _ hd;exact⟨h0,G,β,h.change (d:=d) (r':=.map ag va ks zr has val) (v:=.map (some r)) (w':=w) hd rfl rfl hb rfl rfl rfl rfl (fun _ _=>rfl) ⟨r,es,clock,l,hb,hh,hl,hw,hI,hf⟩⟩
theorem RegX.unc {P:Program}{id:Nat}{ops:Array Oper}{k:St→Prop}{s:St}(d:Nat){ag va:Bool}{ks:List KK}{zr:List DV}{has:List DV→Bool}{val:List DV→List DV}{clock:Nat}{kb:List (List DV×Nat)}(hd:s.res d=some (.mapB ag va ks zr has val clock kb))
 (h:RegX P id ops k (s.app ⟨none,.any,[(d,some (.map ag va ks zr has val))],[]⟩)):RegX P id ops k s:=.ent (.unc d hd) h
theorem nodup_le {α:Type}:∀ (l L:List α),l.Nodup→(∀x ∈ l,x ∈ L)→l.length≤L.length:=by
 intro l
 induction l with
 |nil=>intro L _ _;simp
 | cons x l ih=>
   intro L hn hL;obtain⟨A,B,rfl⟩:=List.append_of_mem (hL x (by simp));rw[List.nodup_cons]at hn
   have:=ih (A++B) hn.2 (fun y hy=>by
    have h1:=hL y (by simp[hy]);rw[List.mem_append,List.mem_cons]at h1;rcases h1 with q|q|q
    · exact List.mem_append_left _ q
    · subst q;exact absurd hy hn.1
    · exact List.mem_append_right _ q)
   simp at this ⊢;omega
theorem KB.le {ks:List KK}{has:List DV→Bool}{clock:Nat}{kb:List (List DV×Nat)}(h:KB ks has clock kb):∀ (L:List (List DV)),(∀key,wk ks key=true→has key=true→key ∈ L)→kb.length≤L.length:=by
 intro L hL
 have hs:∀x ∈ kb.map (·.1),x ∈ L:=fun x hx=>by
  obtain⟨p,hp,rfl⟩:=List.mem_map.1 hx;exact hL _ (h.kw p hp) ((h.kh _ (h.kw p hp)).2 ⟨p.2,hp⟩)
 have hn:(kb.map (·.1)).Nodup:=by
  have hw:∀x ∈ kb.map (·.1),wk ks x=true:=fun x hx=>by
   obtain⟨p,hp,rfl⟩:=List.mem_map.1 hx;exact h.kw p hp
  refine List.Pairwise.imp_of_mem (fun{a b} ha _ hab=> ?_) h.kd;rintro rfl;rw[keyEq_refl (hw a ha)]at hab;cases hab
 have:=nodup_le _ _ hn hs;simpa using this
theorem Entails.cellFro {s:St}(c d j:Nat){ce:TypeId}{l:List SV}{k n:Nat}{g:Nat→List DV}(hc:s.res c=some (.cells ce l))(hj:l[j]? =some (.buf d))(hd:s.res d=some (.fro k n g)):
 Entails s (s.app ⟨none,.any,[(c,some (.cells ce (l.set j (.d (.ro k n g)))))],[]⟩):=by
 refine⟨fun A a w=> ?_⟩;rintro⟨h0,G,β,h⟩;obtain⟨b,vs,hb,hh,hl,hv⟩:=h.rs _ _ hc;obtain⟨v,hv1,hv2⟩:=h.rs _ _ hd;refine⟨h0,G,β,h.change (d:=c) (r':=.cells ce (l.set j (.d (.ro k n g)))) (v:=.pointer (some ⟨b,0,none⟩)) (w':=w) hc rfl rfl hb rfl rfl rfl rfl (fun _ _=>rfl) ⟨b,vs,hb,hh,by simpa using hl,fun i x u hx hu=> ?_⟩⟩
 by_cases q:i=j
 · subst q;have hlt:i<l.length:=(List.getElem?_eq_some_iff.1 hj).1;rw[List.getElem?_set_self hlt]at hx;cases hx;have:=hv i _ u hj hu
   cases this with|buf _ _ hb2 _=>
   rw[hv1]at hb2;cases hb2;exact .d _ _ hv2
 · rw[List.getElem?_set_ne (fun e=>q e.symm)]at hx;exact hv i x u hx hu
end Go.Eng
set_option maxRecDepth 20000
namespace Go.Proofs.YtjibpcoeghlnoaaGreatDoor
open Go Go.Eng
def oKOfA223_3:OL:= [(0,[]),(1,[]),(2,[0,1]),(3,[]),(4,[])]
def oKOfA223_6:OL:= [(0,[]),(1,[]),(2,[]),(3,[0,1,2]),(4,[])]
def oKOfA223_10:OL:= [(0,[]),(1,[]),(2,[]),(3,[0,1,2]),(4,[])]
def oKOfA223_16:OL:= [(0,[]),(1,[]),(2,[0,1]),(3,[0,1,2]),(4,[2]),(5,[])]
def oKOfA189_1:OL:= [(0,[]),(1,[]),(2,[]),(3,[]),(4,rg 4),(5,rg 4),(6,[]),(7,rg 7),(12,rg 8),(8,[12]),(9,[12]),(10,[12]),(11,[12,10]),(13,[11]),(14,[])]
def oKOfA189_2:OL:= [(0,[]),(1,[]),(2,[]),(3,[]),(4,rg 4),(5,rg 4),(6,rg 6),(7,rg 6),(8,rg 4),(9,[]),(11,rg 10),(12,rg 10),(10,[11,12]),(13,[]),(14,[]),(15,[]),(16,[])]
def oKOfA190_1:OL:= [(0,[]),(1,[]),(2,[]),(3,[]),(4,rg 4),(5,rg 4),(6,rg 6),(7,rg 6),(8,rg 6),(9,rg 6),(10,rg 10),(11,rg 10),(12,rg 6),(13,rg 13),(14,rg 6),(15,rg 6),(16,rg 6),(17,[0,1,2,3,4,5,16]),(18,[17])]
def oKOfA190_2:OL:= [(0,[]),(1,[]),(2,[]),(3,[]),(4,rg 4),(5,rg 4),(6,rg 6),(7,rg 6),(8,rg 4),(9,[])]
def oKOfA190_3:OL:= [(0,[]),(1,[0]),(2,[0]),(3,[0]),(4,[0]),(5,rg 5),(6,rg 5),(7,[0]),(8,[]),(9,[]),(10,[])]
structure Mp (α:Type) where
 has:List UInt8→Bool
 val:List UInt8→α
def Mp.put {α:Type}(m:Mp α)(x:List UInt8)(v:α):Mp α:=⟨fun s=>decide (s=x)||m.has s,fun s=>if s=x then v else m.val s⟩
def Mp.del {α:Type}(m:Mp α)(x:List UInt8)(z:α):Mp α:=⟨fun s=> !decide (s=x)&&m.has s,fun s=>if s=x then z else m.val s⟩
def Mp.nil {α:Type}(z:α):Mp α:=⟨fun _=>false,fun _=>z⟩
abbrev mpS {α:Type}(va:Bool)(z:List DV)(f:α→List DV)(m:Mp α):Res:=.map false va [.str] z (fun K=>m.has (keyE K)) (fun K=>f (m.val (keyE K)))
theorem keyEq_s (s x:List UInt8):keyEq [.str s] [.str x]=decide (s=x):=by
 rw[Bool.eq_iff_iff];simp[keyEq,keyEq1]
theorem mpS_put {α:Type}{va:Bool}{z:List DV}{f:α→List DV}{m:Mp α}{x:List UInt8}{v:α}:
 Res.le (.map false va [.str] z (fun q=>keyEq q [.str x]||m.has (keyE q)) (fun q=>bif keyEq q [.str x]then f v else f (m.val (keyE q)))) (mpS va z f (m.put x v)):=Res.le_map fun K hK=>by
 obtain⟨s,rfl⟩:=wk_str1 hK;rw[keyEq_s];refine⟨rfl,?_⟩;show(bif decide (s=x)then f v else f (m.val s))=f (if s=x then v else m.val s)
 by_cases q:s=x<;>simp[q]
theorem mpS_del {α:Type}{va:Bool}{z:α}{f:α→List DV}{m:Mp α}{x:List UInt8}:
 Res.le (.map false va [.str] (f z) (fun q=> !keyEq q [.str x]&&m.has (keyE q)) (fun q=>bif keyEq q [.str x]then f z else f (m.val (keyE q)))) (mpS va (f z) f (m.del x z)):=Res.le_map fun K hK=>by
 obtain⟨s,rfl⟩:=wk_str1 hK;rw[keyEq_s];refine⟨rfl,?_⟩;show(bif decide (s=x)then f z else f (m.val s))=f (if s=x then z else m.val s)
 by_cases q:s=x<;>simp[q]
structure Bok where
 key:List UInt8
 cls:List UInt8
 frm:Int
 to:Int
 made:Int
 pct:Int
def bkF:Bok→List DV:=fun b=> [.str b.key,.str b.cls,.int .i64 b.frm,.int .i64 b.to,.int .i64 b.made,.int .i64 b.pct]
def bk0:Bok:=⟨[],[],0,0,0,0⟩
abbrev boks (l:List Bok):DV:=seqD 6 bkF bk0 l
structure Evn where
 tm:Int
 veh:List UInt8
 st:List UInt8
 kind:Int
 to:List UInt8
def evF:Evn→List DV:=fun x=> [.int .i64 x.tm,.str x.veh,.str x.st,.int .i64 x.kind,.str x.to]
def ev0:Evn:=⟨0,[],[],0,[]⟩
abbrev evns (l:List Evn):DV:=seqD 5 evF ev0 l
abbrev evB (l:List Evn):Res:=seqB 212 5 evF ev0 l
structure Stt where
 k:Int
 st:List UInt8
 sin:Int
def ssF:Stt→List DV:=fun s=> [.int .i64 s.k,.str s.st,.int .i64 s.sin]
def ss0:Stt:=⟨0,[],0⟩
structure Rfs where
 ent:Int
 why:Int
def rfF:Rfs→List DV:=fun r=> [.int .i64 r.ent,.int .i64 r.why]
def rf0:Rfs:=⟨0,0⟩
abbrev rfB (l:List Rfs):Res:=seqB 209 2 rfF rf0 l
def folOk (s:Stt)(x:Evn):Bool:=
 if x.kind=1 then decide (s.k=0)else if x.kind=2 then decide (s.k=1)&&decide (s.st=x.st)else if x.kind=3 then decide (s.k=2)
 else if x.kind=4 then decide (s.k=1)&&decide (s.st=x.st)else if x.kind=5 then decide (s.k=3)&&decide (s.st=x.st)
 else if x.kind=6 then decide (s.k=1)&&decide (s.st=x.st)else if x.kind=7 then decide (s.k=4)&&decide (s.st=x.st)
 else if x.kind=8 then decide (s.k=1)&&decide (s.st=x.st)else false
def folS (s:Stt)(x:Evn):Stt:=
 if folOk s x then(if x.kind=2 then⟨2,[],x.tm⟩else if x.kind=4 then⟨3,x.st,x.tm⟩else if x.kind=6 then⟨4,x.to,x.tm⟩else if x.kind=8 then⟨5,[],x.tm⟩else⟨1,x.st,x.tm⟩)else s
def lgO:Option Hir→DV
 |some h=>legs h.legs
 |none=>.nilsl
def hiO (o:Option Hir):List DV:= [.str (o.elim [] (·.key)),.str (o.elim [] (·.drv)),.int .i64 (o.elim 0 (·.frm)),.int .i64 (o.elim 0 (·.to)),lgO o]
theorem rowSV_eq {va:Bool}{row row':List DV}{k:SV→Prop}(h:row=row')(hk:rowSV va row' k):rowSV va row k:=by rw[h];exact hk
structure Off where
 sts:Mp Stt
 log:List Evn
 ats:List UInt8→Int→Bool
 bks:Mp Bok
 his:Mp (Option Hir)
 paid:Mp Int
 ref:List Rfs
def sF1:List UInt8→List DV:=fun s=> [.str s]
def iF1:Int→List DV:=fun n=> [.int .i64 n]
def bF1:Bool→List DV:=fun b=> [.bool b]
def atH (a:List UInt8→Int→Bool):List DV→Bool
 | [.str v,.int .i64 t]=>a v t
 |_=>false
abbrev atM (a:List UInt8→Int→Bool):Res:=.map true false [.str,.int .i64] [.bool false] (atH a) (fun K=> [.bool (atH a K)])
def atPut (a:List UInt8→Int→Bool)(v:List UInt8)(t:Int):List UInt8→Int→Bool:=fun w u=>(decide (w=v)&&decide (u=t))||a w u
theorem atM_put {a:List UInt8→Int→Bool}{v:List UInt8}{t:Int}:
 Res.le (.map true false [.str,.int .i64] [.bool false] (fun q=>keyEq q [.str v,.int .i64 t]||atH a q) (fun q=>bif keyEq q [.str v,.int .i64 t]then [.bool true]else [.bool (atH a q)])) (atM (atPut a v t)):=Res.le_map fun K hK=>by
 obtain⟨s,n,rfl⟩:=wk_si hK
 have e:keyEq [.str s,.int .i64 n] [.str v,.int .i64 t]=(decide (s=v)&&decide (n=t)):=by
  rw[Bool.eq_iff_iff];simp[keyEq,keyEq1]
 rw[e];refine⟨rfl,?_⟩;show(bif decide (s=v)&&decide (n=t)then [DV.bool true]else [.bool (a s n)])= [.bool ((decide (s=v)&&decide (n=t))||a s n)];cases (decide (s=v)&&decide (n=t))<;>rfl
abbrev houC (h:Hou):List SV:=fltL h.flt++tarL h.tar++(deaF h.dea).map .d
abbrev offC (h:Hou):Res:=.cells 113 (houC h++ [.mp 1000002,.mp 1000003,.mp 1000004,.buf 1000005,.mp 1000006,.mp 1000007,.mp 1000008,.mp 1000010,.buf 1000011])
abbrev offR (h:Hou)(vm:Mp (List UInt8))(sm:Mp Bool)(s:Off):List (Nat×Res):=
 [(1000001,offC h),(1000002,mpS false [.str []] sF1 vm),(1000003,mpS false [.bool false] bF1 sm),(1000004,mpS true (ssF ss0) ssF s.sts),(1000005,evB s.log),(1000006,atM s.ats),(1000007,mpS true (bkF bk0) bkF s.bks),(1000008,mpS true (hiO none) hiO s.his),(1000010,mpS false [.int .i64 0] iF1 s.paid),(1000011,rfB s.ref)]
set_option maxHeartbeats 2000000 in
theorem wFol (s:Stt)(x:Evn):FSpec Tryz.prog 223 [.agg ((ssF s).map .d),.agg ((evF x).map .d)] [] (fun y r=>y= .tup [.agg ((ssF (folS s x)).map .d),.d (.bool (folOk s x))]∧r= []):=by
 refine spec_of hT (C:= []) Tryz.func223 rfl Tryz.call223 rfl rfl rfl ?_;conv=>whnf
 repeat' (first|((first|(refine br_intro ?_ ?_<;>intro hb<;>try simp only[brs]at hb)|refine rAx hT 3 oKOfA223_3 ?_|refine rAx hT 6 oKOfA223_6 ?_|refine rAx hT 10 oKOfA223_10 ?_|refine rAx hT 16 oKOfA223_16 ?_|omega|refine sAx ?_|decide|assumption)<;>conv=>whnf))
 all_goals
  refine .ret _ ?_;conv=>whnf
  refine⟨[],⟨congrArg SV.tup ?_,rfl⟩,trivial⟩;repeat' (refine cons_eq ?_ ?_)
  all_goals (conv=>lhs;whnf)
  all_goals try(with_reducible rfl)
 all_goals first
  |rfl
  |(simp[folS,folOk,ssF, *];done)
  |(simp[folS,folOk,ssF, *];rfl)
abbrev offCo (h:Hou):Res:=.cells 113 (houC h++ [.mp 1000002,.mp 1000003,.mp 1000004,.buf 50,.mp 1000006,.mp 1000007,.mp 1000008,.mp 1000010,.buf 1000011])
abbrev offO (h:Hou)(vm:Mp (List UInt8))(sm:Mp Bool)(s:Off):List (Nat×Res):=
 [(1000001,offCo h),(1000002,mpS false [.str []] sF1 vm),(1000003,mpS false [.bool false] bF1 sm),(1000004,mpS true (ssF ss0) ssF s.sts),(50,evB s.log),(1000006,atM s.ats),(1000007,mpS true (bkF bk0) bkF s.bks),(1000008,mpS true (hiO none) hiO s.his),(1000010,mpS false [.int .i64 0] iF1 s.paid),(1000011,rfB s.ref)]
def canE (s:Off)(x:Evn):Int:=firstE [if s.ats x.veh x.tm then 6 else 0,if(!folOk (s.sts.val x.veh) x)then 11 else 0]
def sayS (s:Off)(x:Evn):Off:={s with sts:=s.sts.put x.veh (folS (s.sts.val x.veh) x),ats:=atPut s.ats x.veh x.tm,log:=s.log++ [x]}
set_option maxHeartbeats 2000000 in
theorem wCan (h:Hou)(vm:Mp (List UInt8))(sm:Mp Bool)(s:Off)(x:Evn):FSpec Tryz.prog 189 [.ptr 1000001 0,.agg ((evF x).map .d)] (offR h vm sm s) (fun y r=>y= .d (.int .i64 (canE s x))∧r=offR h vm sm s):=by
 refine spec_of hT (C:= []) Tryz.func189 rfl Tryz.call189 rfl rfl rfl ?_;conv=>whnf
 repeat' (first|(refine CallX.pure (wFol _ x) ⟨lr,lr,trivial⟩ rfl ?_;conv=>whnf)|(refine CallX.exact (s107 _ _) rfl rfl ?_;rotate_right;conv=>whnf)|((first|refine And.intro (rfl:zrow _=some (ssF ss0)) ?_|refine And.intro (rfl:zrow _=some [DV.bool false]) ?_|refine CallX.pure (s105 [_,_] (by simp)) ⟨SV.le_lit (by rfl) (by rfl),trivial⟩ rfl ?_|(refine br_intro ?_ ?_<;>intro hb<;>try simp only[brs]at hb)|refine rAx hT 1 oKOfA189_1 ?_|refine rAx hT 2 oKOfA189_2 ?_|omega|refine sAx ?_|decide|assumption)<;>conv=>whnf))
 refine .ret _ ?_;conv=>whnf
 exact⟨offR h vm sm s,⟨rfl,rfl⟩,rr,rr,rr,rr,rr,rr,rr,rr,rr,rr,trivial⟩
set_option maxHeartbeats 2000000 in
theorem wSay (h:Hou)(vm:Mp (List UInt8))(sm:Mp Bool)(s:Off)(x:Evn)(hl:s.log.length≤2^20):FSpec Tryz.prog 190 [.ptr 1000001 0,.agg ((evF x).map .d)] (offR h vm sm s) (fun y r=>y= .tup []∧r=offO h vm sm (sayS s x)):=by
 refine spec_of hT (C:= []) Tryz.func190 rfl Tryz.call190 rfl rfl rfl ?_;conv=>whnf
 repeat' (first|((first|refine CallX.pure (wFol _ x) ⟨lr,lr,trivial⟩ rfl ?_|refine And.intro (rfl:zrow _=some (ssF ss0)) ?_|refine And.intro (rfl:zrow _=some [DV.bool false]) ?_|(refine br_intro ?_ ?_<;>intro hb<;>try simp only[brs]at hb)|refine rAx hT 1 oKOfA190_1 ?_|refine rAx hT 2 oKOfA190_2 ?_|refine rAx hT 3 oKOfA190_3 ?_|omega|refine sAx ?_|decide|assumption)<;>conv=>whnf))
 refine .ent _ _ (Entails.mk' (ts:= []) (rs:=offO h vm sm (sayS s x)) [(1000001,1000001),(1000002,1000002),(1000003,1000003),(1000004,1000004),(50,38),(1000006,1000006),(1000007,1000007),(1000008,1000008),(1000010,1000010),(1000011,1000011)] rfl rfl trivial ⟨rr,rr,rr,mpS_put,Res.le_snocF (x:=x) rfl,atM_put,rr,rr,rr,rr,trivial⟩) ?_;refine .ret _ ?_;conv=>whnf
 exact⟨_,⟨rfl,rfl⟩,rr,rr,rr,rr,rr,rr,rr,rr,rr,rr,trivial⟩
def oKTnA63_12:OL:= [(0,[]),(1,[]),(2,[0,1]),(3,[0,1,2]),(4,[0,1]),(5,[]),(6,[])]
def oKTnA4_5:OL:= [(0,[]),(1,[]),(2,[0,1]),(3,[0,1,2]),(4,rg 4),(5,[0,1,2]),(6,[0,1]),(7,[0,1]),(8,[]),(9,[]),(10,[])]
def oKTnA4_7:OL:= [(0,[]),(1,[0]),(3,[0,1]),(2,[0,3]),(4,[0]),(5,[]),(6,[])]
theorem getD_left {α:Type}{m:List α}{x d:α}{j:Nat}(h:j<m.length):(m++ [x]).getD j d=m.getD j d:=by
 rw[List.getD_eq_getElem?_getD,List.getElem?_append_left h,List.getD_eq_getElem?_getD]
theorem getD_last {α:Type}{m:List α}{x d:α}:(m++ [x]).getD m.length d=x:=by
 rw[List.getD_eq_getElem?_getD,List.getElem?_append_right (Nat.le_refl _),Nat.sub_self];rfl
structure ratI (i:Nat)(f:Int)(m:List Rat):Prop where
 ok:∀j,j<m.length→ratE m j=0
 la:m.length=0∨∃k,k≤i∧k<3∧(m.getD (m.length - 1) rat0).cls=c3.getD k []∧(k=i→(m.getD (m.length - 1) rat0).to≤f)
theorem c3_key:∀i,i<3→isKeyB (c3.getD i [])=true:=by decide+kernel
theorem c3_less:∀i,i<3→∀k,k<3→k<i→Op.bytesLess (c3.getD i []) (c3.getD k [])=false∧c3.getD k []≠c3.getD i []:=by decide+kernel
theorem c3_irr:∀i,i<3→Op.bytesLess (c3.getD i []) (c3.getD i [])=false:=by decide+kernel
theorem ratI_up {i j:Nat}{f g:Int}{m:List Rat}(h:ratI i f m)(hij:i<j):ratI j g m:=⟨h.ok,by
 rcases h.la with h|⟨k,h1,h2,h3,h4⟩
 · exact .inl h
 · exact .inr ⟨k,by omega,h2,h3,fun e=>by omega⟩⟩
theorem ratI_to {i:Nat}{f g:Int}{m:List Rat}(h:ratI i f m)(hfg:f≤g):ratI i g m:=⟨h.ok,by
 rcases h.la with h|⟨k,h1,h2,h3,h4⟩
 · exact .inl h
 · exact .inr ⟨k,h1,h2,h3,fun e=>by have:=h4 e;omega⟩⟩
theorem ratI_snoc {i:Nat}{f:Int}{m:List Rat}(h:ratI i f m)(hi:i<3){x:Rat}(h1:x.cls=c3.getD i [])(h2:x.frm=f)(h3:0≤f)(h4:f<x.to)(h5:x.to≤4001)(h6:nums x){g:Int}(hg:x.to≤g):ratI i g (m++ [x]):=by
 refine⟨fun j hj=> ?_,.inr ⟨i,Nat.le_refl _,hi,?_,fun _=> ?_⟩⟩
 · rw [List.length_append,List.length_singleton]at hj;rcases Nat.lt_or_ge j m.length with q|q
   · have:=h.ok j q;unfold ratE at this ⊢;rw[getD_left q,getD_left (show j - 1<m.length by omega)];exact this
   · have hjm:j=m.length:=by omega
     subst hjm;unfold ratE;rw[getD_last]
     dsimp only
     rw[h1,c3_key i hi,if_neg (by simp),if_neg (fun c=>c ⟨by omega,by omega,h5,h6⟩)];rcases h.la with q0|⟨k,k1,k2,k3,k4⟩
     · rw[if_neg (fun c=>by omega),if_neg (fun c=>by omega)]
     · rcases Nat.eq_zero_or_pos m.length with q0|q0
       · rw[if_neg (fun c=>by omega),if_neg (fun c=>by omega)]
       rw[getD_left (show m.length - 1<m.length by omega),k3];have hq:=h.ok (m.length - 1) (by omega)
       have hft:(m.getD (m.length - 1) rat0).frm<(m.getD (m.length - 1) rat0).to:=by
        unfold ratE at hq
        dsimp only at hq
        by_cases c:0≤(m.getD (m.length - 1) rat0).frm∧(m.getD (m.length - 1) rat0).frm<(m.getD (m.length - 1) rat0).to∧(m.getD (m.length - 1) rat0).to≤4001∧nums (m.getD (m.length - 1) rat0)
        · exact c.2.1
        · exfalso;split at hq
          · exact absurd hq (by decide)
          · first
            |exact absurd hq (by decide)
            |(rw[if_pos c]at hq;exact absurd hq (by decide))
       rcases Nat.lt_or_ge k i with r|r
       · obtain⟨u1,u2⟩:=c3_less i hi k k2 r;rw[if_neg (fun c=>by rcases c.2 with d|d;(rw[u1]at d;cases d);exact u2 d.1),if_neg (fun c=>u2 c.2.1)]
       · have hki:k=i:=by omega
         subst hki;have:=k4 rfl;rw[if_neg (fun c=>by rcases c.2 with d|d;(rw[c3_irr k hi]at d;cases d);(have:=d.2;omega)),if_neg (fun c=>by have:=c.2.2;omega)]
 · rw[List.length_append,List.length_singleton,Nat.add_sub_cancel,getD_last];exact h1
 · rw[List.length_append,List.length_singleton,Nat.add_sub_cancel,getD_last];exact hg
set_option maxHeartbeats 4000000 in
theorem gRates (n:Nat)(L:Nat→Int)(hL:Rok n L)(a:Int)(h0:0≤a)(ha:a≤2^36):
 FSpec Tryz.prog 63 [.ptr 1000000 0] [(1000000,strm n L a)] (fun y r=>∃l:List Rat,∃b,(allK ratM 9 l∧ratsE l=0)∧(a≤b∧b≤a+100)∧y= .buf 3∧r= [(3,seqB 201 7 ratF rat0 l),(1000000,strm n L b)]):=by
 refine spec_of hT (C:= []) Tryz.func63 rfl Tryz.call63 rfl rfl rfl ?_;conv=>whnf
 refine LoopX.rule hT (C:= []) (ι:=Int×List Rat×Nat) (fun(b,l,i)=>(a≤b∧b≤a+30*i∧i≤3)∧allK ratM (3*i) l∧(i=0∧l= []∨1≤i∧ratI (i - 1) 6000 l))
  (fun(b,l,i)=>mkSt [(0,.ptr 1000000 0),(3,.buf 3),(8,.d (strs c3)),(9,.d (.int .i64 3)),(10,.d (.int .i64 i))] [(1000000,strm n L b),(3,seqB 201 7 ratF rat0 l)])
  (fun(_,_,i)=>3 - i) (a,[],0) ⟨⟨by simp,by simp,by simp⟩,⟨by simp,by simp⟩,.inl ⟨rfl,rfl⟩⟩ ?_ ?_
 · refine(Entails.nil 3 3 201 7 (rowF ratF rat0 []) rfl rfl (by decide)).trans (Entails.mk' [(1000000,1000000),(3,3)] rfl rfl ⟨lr,lr,SV.le_lit rfl rfl,lr,lr,trivial⟩ ⟨rr,rr,trivial⟩)
 rintro⟨b,l,i⟩ ⟨⟨p1,p2,p3⟩,p4,p5⟩;have p5:i=0∧l= []∨1≤i∧ratI (i - 1) 6000 l:=p5;have p1:a≤b:=p1;have p2:b≤a+30*i:=p2;have p3:i≤3:=p3;have e1:(i:Int).toNat=i:=Int.toNat_natCast i;have p4:allK ratM (3*i) l:=p4;have hc3:c3.length=3:=rfl;have hl1:l.length≤3*i:=p4.1;rcases Nat.lt_or_ge i 3 with hi|hi
 · have p6:∀f,ratI i f l:=fun f=>by
    rcases p5 with⟨e1,e2⟩|⟨e1,e2⟩
    · rw[e2];exact⟨fun j hj=>absurd hj (by simp),.inl rfl⟩
    · exact ratI_up e2 (by omega)
   conv=>whnf
   repeat' (first|(refine CallX.of (s33 n L hL _ ?_ ?_ [0,0,0,3] ?_ ?_) [(1000000,1000000)] rfl ⟨lr,SV.le_lit rfl rfl,trivial⟩ ⟨rr,trivial⟩ rfl rfl ?_;rotate_right;rintro x rout ⟨⟨u1,hu1,rfl⟩,⟨c,c1,c2,rfl⟩⟩;have hw1:=pkD hu1 (by decide);refine⟨rfl,?_⟩;conv=>whnf)|(refine CallX.of (s33 n L hL _ ?_ ?_ [0,1,1,2,3] ?_ ?_) [(1000000,1000000)] rfl ⟨lr,SV.le_lit rfl rfl,trivial⟩ ⟨rr,trivial⟩ rfl rfl ?_;rotate_right;rintro x rout ⟨⟨u2,hu2,rfl⟩,⟨c,c1,c2,rfl⟩⟩;refine⟨rfl,?_⟩;conv=>whnf)|((first|(refine br_intro ?_ ?_<;>intro hb<;>try simp only[brs]at hb)|refine rAx hT 12 oKTnA63_12 ?_|omega|refine sAx ?_|decide|assumption)<;>conv=>whnf))
   all_goals try(exfalso;omega)
   have hw2:0≤u2∧u2≤3:=by simp only[List.mem_cons,List.not_mem_nil,or_false]at hu2;omega
   have hw3:u1≤5000:=by omega
   have hkk:(c3.getD (i:Int).toNat []).length≤8:=mem_len (getD_mem (by omega)) rfl;obtain⟨cc,hcc⟩:∃cc:Int,cc=c:=⟨_,rfl⟩;obtain⟨ky,hky⟩:∃ky,ky=c3.getD (i:Int).toNat []:=⟨_,rfl⟩
   refine LoopX.rule hT (C:= []) (ι:=Int×List Rat×Int×Nat) (fun(d,m,f,k)=>(cc≤d∧d≤cc+6*k∧(k:Int)≤u2)∧allK ratM (3*i+k) m∧0≤f∧f≤5000∧ratI i f m)
    (fun(d,m,f,k)=>mkSt [(0,.ptr 1000000 0),(3,.buf 3),(5,.d (.str ky)),(6,.d (.int .i64 f)),(8,.d (strs c3)),(9,.d (.int .i64 3)),(10,.d (.int .i64 i)),(19,.d (.int .i64 u2)),(20,.d (.int .i64 k))] [(1000000,strm n L d),(3,seqB 201 7 ratF rat0 m)])
    (fun(_,_,_,k)=>u2.toNat - k) (cc,l,u1,0) ⟨⟨by simp,by simp,by show((0:Nat):Int)≤u2;omega⟩,p4,by show 0≤u1;omega,by show u1≤5000;omega,p6 u1⟩ (by subst hcc hky;exact(by exact eAx [(1000000,1000000),(3,3)])) ?_
   rintro⟨d,m,f,k⟩ ⟨⟨q1,q2,q3⟩,q4,q5,q6,q7⟩;have q7:ratI i f m:=q7;have q1:cc≤d:=q1;have q2:d≤cc+6*k:=q2;have q3:(k:Int)≤u2:=q3;have q4:allK ratM (3*i+k) m:=q4;have q5:0≤f:=q5;have q6:f≤5000:=q6;have hm1:m.length≤3*i+k:=q4.1;conv=>whnf
   repeat' (first|(refine CallX.of (s33 n L hL _ ?_ ?_ [1,5,20,4000] ?_ ?_) [(1000000,1000000)] rfl ⟨lr,SV.le_lit rfl rfl,trivial⟩ ⟨rr,trivial⟩ rfl rfl ?_;rotate_right;rintro x rout ⟨⟨u3,hu3,rfl⟩,⟨c,c1,c2,rfl⟩⟩;have hw4:0≤u3∧u3≤4000:=(by simp only[List.mem_cons,List.not_mem_nil,or_false]at hu3;omega);refine⟨rfl,?_⟩;conv=>whnf)|(refine CallX.of (s33 n L hL _ ?_ ?_ [-1,5,10,10,0] ?_ ?_) [(1000000,1000000)] rfl ⟨lr,SV.le_lit rfl rfl,trivial⟩ ⟨rr,trivial⟩ rfl rfl ?_;rotate_right;rintro x rout ⟨⟨u4,hu4,rfl⟩,⟨c,c1,c2,rfl⟩⟩;refine⟨rfl,?_⟩;conv=>whnf)|(refine CallX.of (s33 n L hL _ ?_ ?_ [-1,50,50,70,40] ?_ ?_) [(1000000,1000000)] rfl ⟨lr,SV.le_lit rfl rfl,trivial⟩ ⟨rr,trivial⟩ rfl rfl ?_;rotate_right;rintro x rout ⟨⟨u5,hu5,rfl⟩,⟨c,c1,c2,rfl⟩⟩;refine⟨rfl,?_⟩;conv=>whnf)|(refine CallX.of (s33 n L hL _ ?_ ?_ [-1,70,90,100] ?_ ?_) [(1000000,1000000)] rfl ⟨lr,SV.le_lit rfl rfl,trivial⟩ ⟨rr,trivial⟩ rfl rfl ?_;rotate_right;rintro x rout ⟨⟨u6,hu6,rfl⟩,⟨c,c1,c2,rfl⟩⟩;refine⟨rfl,?_⟩;conv=>whnf)|(refine CallX.of (s33 n L hL _ ?_ ?_ [-1,200,250,300] ?_ ?_) [(1000000,1000000)] rfl ⟨lr,SV.le_lit rfl rfl,trivial⟩ ⟨rr,trivial⟩ rfl rfl ?_;rotate_right;rintro x rout ⟨⟨u7,hu7,rfl⟩,⟨c,c1,c2,rfl⟩⟩;refine⟨rfl,?_⟩;conv=>whnf)|(refine CallX.of (s33 n L hL _ ?_ ?_ [0,0,0,2] ?_ ?_) [(1000000,1000000)] rfl ⟨lr,SV.le_lit rfl rfl,trivial⟩ ⟨rr,trivial⟩ rfl rfl ?_;rotate_right;rintro x rout ⟨⟨u8,hu8,rfl⟩,⟨c,c1,c2,rfl⟩⟩;have hw8:0≤u8∧u8≤2:=(by simp only[List.mem_cons,List.not_mem_nil,or_false]at hu8;omega);refine⟨rfl,?_⟩;conv=>whnf)|((first|(refine And.intro (by show inI64 (min (f+u3) 4001+u8);unfold inI64;omega) ?_)|(refine br_intro ?_ ?_<;>intro hb<;>try simp only[brs]at hb)|refine rAx hT 12 oKTnA63_12 ?_|omega|refine sAx ?_|decide|assumption)<;>conv=>whnf))
   · exact⟨(c,m,i+1),⟨⟨by omega,by show _≤a+30*((i+1:Nat):Int);omega,by omega⟩,allK_le q4 (by omega),.inr ⟨by omega,by show ratI (i+1 - 1) 6000 m;rw[Nat.add_sub_cancel];exact ratI_to q7 (by omega)⟩⟩,by show 3 - (i+1)<3 - i;omega,(by exact eAx [(1000000,1000000),(3,3)])⟩
   · have hnm:nums ⟨ky,f,min (f+u3) 4001,u4,u5,u6,u7⟩:=by
      simp only[List.mem_cons,List.not_mem_nil,or_false]at hu4 hu5 hu6 hu7;refine⟨?_,?_,?_,?_⟩<;>unfold numO<;>dsimp only<;>omega
     exact⟨(_,m++ [⟨ky,f,min (f+u3) 4001,u4,u5,u6,u7⟩],min (f+u3) 4001+u8,k+1),⟨⟨by omega,by show _≤cc+6*((k+1:Nat):Int);omega,by show((k+1:Nat):Int)≤u2;omega⟩,allK_snoc q4 (by omega) (by show ky.length≤8;rw[hky];exact hkk),by show 0≤min (f+u3) 4001+u8;omega,by show min (f+u3) 4001+u8≤5000;omega,ratI_snoc (x:=⟨ky,f,min (f+u3) 4001,u4,u5,u6,u7⟩) q7 hi (by rw[hky,e1]) rfl q5 (by show f<min (f+u3) 4001;simp only[cond_false]at*;omega) (by show min (f+u3) 4001≤4001;omega) hnm (by show min (f+u3) 4001≤min (f+u3) 4001+u8;omega)⟩,by show u2.toNat - (k+1)<u2.toNat - k;omega,
      Entails.mk' [(1000000,1000000),(3,54)] rfl rfl ⟨lr,lr,lr,lr,lr,lr,lr,lr,lr,trivial⟩ ⟨rr,Res.le_snocF rfl,trivial⟩⟩
   · exact⟨(d,m,i+1),⟨⟨by omega,by show _≤a+30*((i+1:Nat):Int);omega,by omega⟩,allK_le q4 (by omega),.inr ⟨by omega,by show ratI (i+1 - 1) 6000 m;rw[Nat.add_sub_cancel];exact ratI_to q7 (by omega)⟩⟩,by show 3 - (i+1)<3 - i;omega,(by exact eAx [(1000000,1000000),(3,3)])⟩
 · conv=>whnf
   repeat' (first|((first|(refine br_intro ?_ ?_<;>intro hb<;>try simp only[brs]at hb)|refine rAx hT 12 oKTnA63_12 ?_|omega|refine sAx ?_|decide|assumption)<;>conv=>whnf))
   all_goals try(exfalso;omega)
   have hle:ratsE l=0:=by
    unfold ratsE;rw[if_neg (by omega)];rcases p5 with⟨e1,e2⟩|⟨e1,e2⟩
    · omega
    · exact firstAt_zero e2.ok
   refine .ret _ ?_;conv=>whnf
   exact⟨[(3,seqB 201 7 ratF rat0 l),(1000000,strm n L _)],⟨l,b,⟨allK_le p4 (by omega),hle⟩,⟨by omega,by omega⟩,rfl,rfl⟩,rr,rr,trivial⟩
def clsI (i:Nat)(l:List Cls):Prop:=l.length=4∧∀j,j<4→(l.getD j cls0).key=(cls4.getD j cls0).key∧((l.getD j cls0).up= []∨j<i∧∃k,k<j∧(l.getD j cls0).up=(cls4.getD k cls0).key)
theorem clsI_K {i:Nat}{l:List Cls}(h:clsI i l):∀x ∈ l,clsK x:=fun x hx=>by
 obtain⟨j,hj,rfl⟩:=mem_getD (d:=cls0) hx;obtain⟨h1,h2⟩:=h.2 j (by have:=h.1;omega);have hk:∀k,k<4→(cls4.getD k cls0).key.length≤8:=by decide
 have hj4:j<4:=by have:=h.1;omega
 refine⟨by rw[h1];exact hk j hj4,?_⟩;rcases h2 with e|⟨_,k,hk1,e⟩
 · rw[e];simp
 · rw[e];exact hk k (by omega)
theorem clsI_E {i:Nat}{l:List Cls}(h:clsI i l):clssE l=0:=by
 obtain⟨h1,h2⟩:=h
 match l,h1 with
 | [a, b,c,d],_=>
   obtain⟨a1,a2⟩:=h2 0 (by omega);obtain⟨b1,b2⟩:=h2 1 (by omega);obtain⟨c1,c2⟩:=h2 2 (by omega);obtain⟨d1,d2⟩:=h2 3 (by omega);obtain⟨ak,au⟩:=a;obtain⟨bk,bu⟩:=b;obtain⟨ck,cu⟩:=c;obtain⟨dk,du⟩:=d;simp only[List.getD_cons_zero,List.getD_cons_succ]at a1 a2 b1 b2 c1 c2 d1 d2;have ha:au= []:=by rcases a2 with e|⟨_,k,hk,_⟩;exact e;omega
   have hb:bu= []∨bu=(cls4.getD 0 cls0).key:=by
    rcases b2 with e|⟨_,k,hk,e⟩
    · exact .inl e
    · have:k=0:=by omega
      subst this;exact .inr e
   have hc:cu= []∨cu=(cls4.getD 0 cls0).key∨cu=(cls4.getD 1 cls0).key:=by
    rcases c2 with e|⟨_,k,hk,e⟩
    · exact .inl e
    · rcases(show k=0∨k=1 by omega)with r|r<;>subst r
      · exact .inr (.inl e)
      · exact .inr (.inr e)
   have hd:du= []∨du=(cls4.getD 0 cls0).key∨du=(cls4.getD 1 cls0).key∨du=(cls4.getD 2 cls0).key:=by
    rcases d2 with e|⟨_,k,hk,e⟩
    · exact .inl e
    · rcases(show k=0∨k=1∨k=2 by omega)with r|r|r<;>subst r
      · exact .inr (.inl e)
      · exact .inr (.inr (.inl e))
      · exact .inr (.inr (.inr e))
   subst a1 b1 c1 d1 ha;rcases hb with e|e<;>subst e<;>rcases hc with e|e|e<;>subst e<;>rcases hd with e|e|e|e<;>subst e<;>decide+kernel
theorem clsI_upd {i:Nat}{l:List Cls}(h:clsI i l)(hi:i<4){j:Nat}(hj:j<i):clsI (i+1) (updL l i cls0 fun y=>{y with up:=(l.getD j cls0).key}):=by
 refine⟨by unfold updL;rw[List.length_set];exact h.1,fun q hq=> ?_⟩;have hl:=h.1;unfold updL;rw[List.getD_eq_getElem?_getD,List.getElem?_set]
 by_cases e:i=q
 · subst e;rw[if_pos rfl,if_pos (by omega)];exact⟨(h.2 i hi).1,.inr ⟨by omega,j,hj,(h.2 j (by omega)).1⟩⟩
 · rw[if_neg e,←List.getD_eq_getElem?_getD];obtain⟨h1,h2⟩:=h.2 q hq;exact⟨h1,h2.imp id fun h3=>⟨by omega,h3.2⟩⟩
theorem clsI_skip {i:Nat}{l:List Cls}(h:clsI i l):clsI (i+1) l:=⟨h.1,fun q hq=>⟨(h.2 q hq).1,(h.2 q hq).2.imp id fun h3=>⟨by omega,h3.2⟩⟩⟩
set_option maxHeartbeats 4000000 in
theorem gClss (n:Nat)(L:Nat→Int)(hL:Rok n L)(a:Int)(h0:0≤a)(ha:a≤2^38):
 FSpec Tryz.prog 19 [.ptr 1000000 0] [(1000000,strm n L a)] (fun y r=>∃l:List Cls,∃b,clsI 4 l∧(a≤b∧b≤a+8)∧y= .buf 9∧r= [(9,seqB 159 2 clsF cls0 l),(1000000,strm n L b)]):=by
 refine spec_of hT (C:= [9]) Tryz.func19 rfl Tryz.call19 rfl rfl rfl ?_;conv=>whnf
 refine LoopX.rule hT (C:= []) (ι:=Int×List Cls×Nat) (fun(b,l,i)=>(a≤b∧b≤a+2*i)∧i≤4∧clsI i l)
  (fun(b,l,i)=>mkSt [(0,.ptr 1000000 0),(3,.buf 9),(11,.d (.int .i64 4)),(12,.d (.int .i64 i))] [(1000000,strm n L b),(9,seqB 159 2 clsF cls0 l)])
  (fun(_,_,i)=>4 - i) (a,cls4,0) ⟨⟨by simp,by simp⟩,by simp,rfl,by decide⟩ ?_ ?_
 · exact Entails.mk' [(1000000,1000000),(9,9)] rfl rfl ⟨lr,lr,lr,lr,trivial⟩ ⟨rr,Res.le_lit rfl rfl,trivial⟩
 rintro⟨b,l,i⟩ ⟨⟨p1,p2⟩,p3,p45⟩;have p45:clsI i l:=p45;have p1:a≤b:=p1;have p2:b≤a+2*i:=p2;have p3:i≤4:=p3;have p4:l.length=4:=p45.1;have e1:(i:Int).toNat=i:=Int.toNat_natCast i;conv=>whnf
 repeat' (first|(refine CallX.of (s84 n L hL _ ?_ ?_ 3 ?_) [(1000000,1000000)] rfl ⟨lr,lr,trivial⟩ ⟨rr,trivial⟩ rfl rfl ?_;rotate_right;rintro x rout ⟨⟨w,rfl⟩,⟨c,c1,c2,rfl⟩⟩;refine⟨rfl,?_⟩;conv=>whnf)|(refine CallX.of (s86 n L hL _ ?_ ?_ _ ?_) [(1000000,1000000)] rfl ⟨lr,lr,trivial⟩ ⟨rr,trivial⟩ rfl rfl ?_;rotate_right;rintro x rout ⟨⟨j,hj1,hj2,hj3,rfl⟩,⟨c,c1,c2,rfl⟩⟩;refine⟨rfl,?_⟩;conv=>whnf)|((first|(refine br_intro ?_ ?_<;>intro hb<;>try simp only[brs]at hb)|omega|refine sAx ?_|decide|assumption)<;>conv=>whnf))
 · have p5:=clsI_K p45;have hu:clsK (l.getD j.toNat cls0):=p5 _ (getD_mem (by omega))
   refine⟨(c+1,updL l i cls0 (fun y=>{y with up:=(l.getD j.toNat cls0).key}),i+1),⟨⟨by omega,by show _≤a+2*((i+1:Nat):Int);omega⟩,by omega,clsI_upd p45 (by omega) (by omega)⟩,by show 4 - (i+1)<4 - i;omega,
    Entails.mk' [(1000000,1000000),(9,9)] rfl rfl ⟨lr,lr,lr,lr,trivial⟩ ⟨rr,?_,trivial⟩⟩
   exact Res.le_upd (fun y:Cls=>{y with up:=(l.getD j.toNat cls0).key}) (fun _=>rfl)
 · exact⟨(c,l,i+1),⟨⟨by omega,by show _≤a+2*((i+1:Nat):Int);omega⟩,by omega,clsI_skip p45⟩,by show 4 - (i+1)<4 - i;omega,(by exact eAx [(1000000,1000000),(9,9)])⟩
 · exact⟨(b,l,i+1),⟨⟨p1,by show _≤a+2*((i+1:Nat):Int);omega⟩,by omega,clsI_skip p45⟩,by show 4 - (i+1)<4 - i;omega,(by exact eAx [(1000000,1000000),(9,9)])⟩
 · refine .ret _ ?_;conv=>whnf
   exact⟨[(9,seqB 159 2 clsF cls0 l),(1000000,strm n L _)],⟨l,b,by rw[show(4:Nat)=i by omega];exact p45,⟨by omega,by omega⟩,rfl,rfl⟩,rr,rr,trivial⟩
set_option maxHeartbeats 4000000 in
theorem gRTariff (n:Nat)(L:Nat→Int)(hL:Rok n L)(a:Int)(h0:0≤a)(ha:a≤2^33):
 FSpec Tryz.prog 21 [.ptr 1000000 0] [(1000000,strm n L a)] (fun y r=>(∃t:Tar,(tarM t∧tarE t=0)∧y=tar t)∧Moved n L a 2200 r):=by
 refine spec_of hT (C:= []) Tryz.func21 rfl Tryz.call21 rfl rfl rfl ?_;conv=>whnf
 refine LoopX.rule hT (C:= []) (ι:=Int×Nat) (fun(b,i)=>a≤b∧b≤a+250*i∧i≤8)
  (fun(b,i)=>mkSt [(0,.ptr 1000000 0),(2,.ptr 2 0),(4,.d (.int .i64 i))] [(1000000,strm n L b),(2,.cells 38 [.d .nilsl,.d .nilsl,.d .nilsl,.d .nilsl,.d .nilsl])])
  (fun(_,i)=>8 - i) (a,0) ⟨by simp,by simp,by simp⟩ (by exact eAx [(1000000,1000000),(2,2)]) ?_
 rintro⟨b,i⟩ ⟨p1,p2,p3⟩;have p1:a≤b:=p1;have p2:b≤a+250*i:=p2;have p3:i≤8:=p3;conv=>whnf
 repeat' (first|(refine CallX.of (yTariff n L hL _ ?_ ?_) [(1000000,1000000)] rfl ⟨lr,trivial⟩ ⟨rr,trivial⟩ rfl rfl ?_;rotate_right;rintro x rout ⟨⟨t,ht,rfl⟩,⟨c,c1,c2,rfl⟩⟩;refine⟨rfl,?_⟩;conv=>whnf)|(refine CallX.pure (y84 _ ht.ok) ⟨lr,trivial⟩ rfl ?_;conv=>whnf)|(refine CallX.of (gRates n L hL _ ?_ ?_) [(1000000,1000000),(3,14)] rfl ⟨lr,trivial⟩ ⟨rr,trivial⟩ rfl rfl ?_;rotate_right;rintro x rout ⟨l,c,⟨hl,hlE⟩,⟨c1,c2⟩,rfl,rfl⟩;refine⟨rfl,?_⟩;conv=>whnf)|((first|(refine br_intro ?_ ?_<;>intro hb<;>try simp only[brs]at hb)|omega|refine sAx ?_|decide|assumption)<;>conv=>whnf))
 all_goals try omega
 · refine .ret _ ?_;conv=>whnf
   exact⟨[(1000000,strm n L _)],⟨⟨t,⟨ht,by simpa using hb⟩,rfl⟩,_,by omega,by omega,rfl⟩,rr,trivial⟩
 · exact⟨(c,i+1),⟨by omega,by show _≤a+250*((i+1:Nat):Int);omega,by omega⟩,by show 8 - (i+1)<8 - i;omega,(by exact eAx [(1000000,1000000),(2,2)])⟩
 · refine .freeze _ 14 201 7 _ _ rfl (.ent _ _ (Entails.froCell 2 14 7 _ 0 _ rfl rfl rfl) (.weak _ ?_));conv=>whnf
   exact⟨tar ⟨l,[],[],[],[]⟩,[(1000000,strm n L _)],SV.le_agg ⟨lr,SV.le_nilS,SV.le_nilS,SV.le_nilS,SV.le_nilS,trivial⟩,⟨⟨⟨l,[],[],[],[]⟩,⟨⟨allK_le hl (by omega),⟨by simp,by simp⟩,⟨by simp,by simp⟩,⟨by simp,by simp⟩,⟨by simp,by simp⟩⟩,by unfold tarE;rw[hlE];rfl⟩,rfl⟩,_,by omega,by omega,rfl⟩,rr,trivial⟩
def vehI (i:Nat)(l:List Veh):Prop:=l.length=i∧∀j,j<i→(l.getD j veh0).key=vk3.getD j []∧((l.getD j veh0).cls= [109,105,110,105]∨(l.getD j veh0).cls= [109,105,100,105])
theorem vehI_snoc {i:Nat}{l:List Veh}(h:vehI i l){k c:List UInt8}(hk:k=vk3.getD i [])(hc:c ∈ [[109,105,110,105],[109,105,110,105],[109,105,100,105]]):vehI (i+1) (l++ [⟨k,c⟩]):=by
 refine⟨by rw[List.length_append,h.1];rfl,fun j hj=> ?_⟩;have hl:=h.1;rcases Nat.lt_or_ge j l.length with q|q
 · rw[getD_left q];exact h.2 j (by omega)
 · have:j=l.length:=by omega
   subst this;rw[getD_last];refine⟨by rw[hl];exact hk,?_⟩;simp only[List.mem_cons,List.not_mem_nil,or_false]at hc;show c=_∨c=_;rcases hc with e|e|e
   · exact .inl e
   · exact .inl e
   · exact .inr e
theorem clIx_hit {cl:List Cls}(h:clsI 4 cl){c:List UInt8}(hc:c= [109,105,110,105]∨c= [109,105,100,105]):¬clIx cl c<0:=by
 have h3:=(h.2 3 (by omega)).1;have h2:=(h.2 2 (by omega)).1;have hl:=h.1;unfold clIx;rcases hc with e|e
 · have:=ixF_pos (p:=fun i=>(cl.getD i cls0).key==c) (n:=cl.length) (k:=3) (by omega) (by rw[h3,e];decide);omega
 · have:=ixF_pos (p:=fun i=>(cl.getD i cls0).key==c) (n:=cl.length) (k:=2) (by omega) (by rw[h2,e];decide);omega
theorem houE_right {cl:List Cls}{l:List Veh}{t:Tar}{d:Dea}(hc:clsI 4 cl)(hv:vehI 3 l)(ht:tarE t=0)(hd:deaE d=0):houE ⟨⟨st2,cl,l,[]⟩,t,d⟩=0:=by
 have h1:fltE0 ⟨st2,cl,l,[]⟩=0:=by
  unfold fltE0
  dsimp only
  rw[clsI_E hc,show stasE st2=0 by decide+kernel,if_neg (by have:=hv.1;omega)];rfl
 have h2:firstAt (vehE1 ⟨st2,cl,l,[]⟩) l.length=0:=by
  refine firstAt_zero fun j hj=> ?_
  have hl:=hv.1;obtain⟨k1,k2⟩:=hv.2 j (by omega);have hk:∀j,j<3→isKeyB (vk3.getD j [])=true∧(0<j→strLe (vk3.getD j []) (vk3.getD (j - 1) [])=false):=by decide+kernel
  obtain⟨q1,q2⟩:=hk j (by omega);unfold vehE1
  dsimp only
  rw[k1,q1,if_neg (by simp),if_neg (fun c=>by
   rw[(hv.2 (j - 1) (by omega)).1,q2 c.1]at c;exact absurd c.2 (by simp)),if_neg (clIx_hit hc k2)]
 have h3:fltE ⟨st2,cl,l,[]⟩=0:=by
  unfold fltE;rw[h1,if_neg (fun c=>c rfl)]
  dsimp only
  rw[h2,if_neg (fun c=>c rfl)];rfl
 unfold houE
 dsimp only
 rw[h3,ht,hd];rfl
set_option maxHeartbeats 4000000 in
theorem gRHouse (n:Nat)(L:Nat→Int)(hL:Rok n L)(a:Int)(h0:0≤a)(ha:a≤2^32):
 FSpec Tryz.prog 4 [.ptr 1000000 0] [(1000000,strm n L a)] (fun y r=>(∃h:Hou,((houM h∧houE h=0)∧vehI 3 h.flt.veh)∧y=hou h)∧Moved n L a 2400 r):=by
 refine spec_of hT (C:= []) Tryz.func4 rfl Tryz.call4 rfl rfl rfl ?_;conv=>whnf
 repeat' (first|(refine CallX.of (gClss n L hL _ ?_ ?_) [(1000000,1000000),(9,10)] rfl ⟨lr,trivial⟩ ⟨rr,trivial⟩ rfl rfl ?_;rotate_right;rintro x rout ⟨cl,c,hcl,⟨c1,c2⟩,rfl,rfl⟩;refine⟨rfl,?_⟩;conv=>whnf)|((first|(refine br_intro ?_ ?_<;>intro hb<;>try simp only[brs]at hb)|refine rAx hT 5 oKTnA4_5 ?_|refine rAx hT 7 oKTnA4_7 ?_|omega|refine sAx ?_|decide|assumption)<;>conv=>whnf))
 all_goals try omega
 obtain⟨cc,hcc⟩:∃cc:Int,cc=c:=⟨_,rfl⟩;have hclb:clsB cl:=⟨by have:=hcl.1;omega,clsI_K hcl⟩
 refine LoopX.rule hT (C:= []) (ι:=Int×List Veh×Nat) (fun(b,l,i)=>(cc≤b∧b≤cc+i∧i≤3)∧allK vehK i l∧vehI i l)
  (fun(b,l,i)=>mkSt [(0,.ptr 1000000 0),(2,.ptr 2 0),(3,.ptr 3 0),(12,.d (strs vk3)),(13,.d (.int .i64 3)),(14,.d (.int .i64 i))] [(1000000,strm n L b),(3,.cells 31 [.d (stas st2),.buf 10,.buf 20,.d .nilsl]),(10,seqB 159 2 clsF cls0 cl),(20,seqB 94 2 vehF veh0 l),(2,.cells 42 ([.d .nilsl,.d .nilsl,.d .nilsl,.d .nilsl,.d .nilsl,.d .nilsl,.d .nilsl,.d .nilsl,.d .nilsl]++(deaF dea0).map .d))])
  (fun(_,_,i)=>3 - i) (cc,[],0) ⟨⟨by simp,by simp,by simp⟩,⟨by simp,by simp⟩,rfl,by simp⟩ ?_ ?_
 · subst hcc
   exact(Entails.nilCell 3 20 94 2 2 (rowF vehF veh0 []) rfl rfl rfl (by decide) rfl).trans (Entails.mk' [(1000000,1000000),(3,3),(10,10),(20,20),(2,2)] rfl rfl ⟨lr,lr,lr,SV.le_lit rfl rfl,lr,lr,trivial⟩ ⟨rr,Res.le_cells rfl (by
    intro i x y hx hy
    match i with
    |0=>cases hx;cases hy;exact SV.le_lit rfl rfl
    |1=>cases hx;cases hy;exact lr
    |2=>cases hx;cases hy;exact lr
    |3=>cases hx;cases hy;exact lr
    |i+4=>cases hx),rr,rr,rr,trivial⟩)
 rintro⟨b,l,i⟩ ⟨⟨p1,p2,p3⟩,p4,p5⟩;have p5:vehI i l:=p5;have p1:cc≤b:=p1;have p2:b≤cc+i:=p2;have p3:i≤3:=p3;have p4:allK vehK i l:=p4;have hc3:vk3.length=3:=rfl;have hl1:l.length≤i:=p4.1;have hkk:(i:Int)<3→(vk3.getD (i:Int).toNat []).length≤8:=fun h=>mem_len (getD_mem (by omega)) rfl
 conv=>whnf
 repeat' (first|(refine CallX.of (s15 n L hL _ ?_ ?_ [[109,105,110,105],[109,105,110,105],[109,105,100,105]] (by simp) (by simp)) [(1000000,1000000)] rfl ⟨lr,SV.le_lit rfl rfl,trivial⟩ ⟨rr,trivial⟩ rfl rfl ?_;rotate_right;rintro x rout ⟨⟨v1,hv1,rfl⟩,⟨c,c1,c2,rfl⟩⟩;refine⟨rfl,?_⟩;conv=>whnf)|(refine CallX.of (gRTariff n L hL _ ?_ ?_) [(1000000,1000000)] rfl ⟨lr,trivial⟩ ⟨rr,trivial⟩ rfl rfl ?_;rotate_right;rintro x rout ⟨⟨t,⟨ht,htE⟩,rfl⟩,⟨c,c1,c2,rfl⟩⟩;refine⟨rfl,?_⟩;conv=>whnf)|(refine CallX.of (yRDeal n L hL _ ?_ ?_) [(1000000,1000000)] rfl ⟨lr,trivial⟩ ⟨rr,trivial⟩ rfl rfl ?_;rotate_right;rintro x rout ⟨⟨d,hd,rfl⟩,⟨c,c1,c2,rfl⟩⟩;refine⟨rfl,?_⟩;conv=>whnf)|((first|(refine br_intro ?_ ?_<;>intro hb<;>try simp only[brs]at hb)|refine rAx hT 5 oKTnA4_5 ?_|refine rAx hT 7 oKTnA4_7 ?_|omega|refine sAx ?_|decide|assumption)<;>conv=>whnf))
 all_goals try omega
 · exact⟨(c,l++ [⟨vk3.getD (i:Int).toNat [],v1⟩],i+1),⟨⟨by omega,by show _≤cc+((i+1:Nat):Int);omega,by omega⟩,allK_snoc p4 (by omega) ⟨hkk (by omega),mem_len hv1 rfl⟩,vehI_snoc p5 (by rw[Int.toNat_natCast]) hv1⟩,by show 3 - (i+1)<3 - i;omega,
    Entails.mk' [(1000000,1000000),(3,3),(10,10),(20,26),(2,2)] rfl rfl ⟨lr,lr,lr,lr,lr,lr,trivial⟩ ⟨rr,rr,rr,Res.le_snocF rfl,rr,trivial⟩⟩
 · refine .freeze _ 10 159 2 _ _ rfl (.freeze _ 20 94 2 _ _ rfl (.ent _ _ (Entails.froCell 2 10 2 _ 1 _ rfl rfl rfl) (.ent _ _ (Entails.froCell 2 20 2 _ 2 _ rfl rfl rfl) (.weak _ ?_))));conv=>whnf
   exact⟨hou ⟨⟨st2,cl,l,[]⟩,t,d⟩,[(1000000,strm n L _)],SV.le_agg ⟨lr,lr,lr,SV.le_nilS,lr,lr,lr,lr,lr,lr,lr,lr,lr,lr,lr,lr,trivial⟩,⟨⟨⟨⟨st2,cl,l,[]⟩,t,d⟩,⟨⟨⟨⟨⟨by show st2.length≤4;decide,fun x hx=>by
    simp only[st2,List.mem_cons,List.not_mem_nil,or_false]at hx;rcases hx with rfl|rfl
    · show([115,49]:List UInt8).length≤8;decide
    · show([115,50]:List UInt8).length≤8;decide⟩,hclb,allK_le p4 (by omega),⟨by simp,by simp⟩⟩,ht⟩,houE_right hcl (by rw[show(3:Nat)=i by omega];exact p5) htE hd⟩,by show vehI 3 l;rw[show(3:Nat)=i by omega];exact p5⟩,rfl⟩,_,by omega,by omega,rfl⟩,rr,trivial⟩
def plT:List Plt:= [⟨0,[118,49],[65,66,49]⟩,⟨0,[118,50],[65,66,50]⟩]
def fltT (f:Flt):Flt:={f with plt:=plT}
theorem fltT_ok {f:Flt}(k:fltOk f):fltOk (fltT f):=⟨k.sta,k.cls,k.veh,by show plT.length≤2^20;decide,by
 intro p hp;simp only[fltT,plT,List.mem_cons,List.not_mem_nil,or_false]at hp;rcases hp with rfl|rfl
 all_goals exact⟨by decide,by decide,by decide⟩⟩
theorem fltT_E {f:Flt}(h:fltE f=0)(hv:vehI 3 f.veh):fltE (fltT f)=0:=by
 have hix:∀j,j<3→0≤veIx f.veh (vk3.getD j []):=fun j hj=>by
  unfold veIx;exact ixF_pos (k:=j) (by rw[hv.1];exact hj) (by rw[(hv.2 j hj).1];simp)
 unfold fltE at h ⊢;have e0:fltE0 (fltT f)=fltE0 f:=rfl;have e1:vehE1 (fltT f)=vehE1 f:=rfl;have e2:(fltT f).veh=f.veh:=rfl;rw[e0,e1,e2];split at h
 · contradiction
 · rename_i q0;rw[if_neg q0];split at h
   · contradiction
   · rename_i q1;rw[if_neg q1,if_neg (by show ¬ 1000<plT.length;decide)];refine firstAt_zero fun j hj=> ?_
     have hj:j<2:=hj;have h1:=hix 0 (by decide);have h2:=hix 1 (by decide);unfold pltE1;rw[show(fltT f).plt=plT from rfl,e2]
     match j with
     | 0=>
       rw[if_neg (by decide),if_neg (by show ¬veIx f.veh [118,49]<0;exact Int.not_lt.2 h1),if_neg (by decide),if_neg (by decide),if_neg (by decide)]
     | 1=>
       rw[if_neg (by decide),if_neg (by show ¬veIx f.veh [118,50]<0;exact Int.not_lt.2 h2),if_neg (by decide),if_neg (by decide),if_neg (by decide)]
theorem withK_one (v:List UInt8)(h:Hir)(t:Int):withK v [h] t=if occ v h t=true then(h.key,true)else([],false):=by
 unfold withK
 cases q:occ v h t with
 |true=>rw[List.find?_cons_of_pos (by simpa using q)];simp
 |false=>rw[List.find?_cons_of_neg (by simp[q])];simp
section
variable {v:List UInt8} {a b:Int} {l:List Hir}
end
theorem pas_next {l:List Pas}(h:formE l=0){i:Nat}(hi:i+1<l.length):(l.getD i pa0).tm≤(l.getD (i+1) pa0).tm:=by
 have:=(form_srt h).2.1 (i+1) hi;unfold pasE at this;rw[Nat.add_sub_cancel]at this
 by_cases q:0<i+1∧0≤pasCmp (l.getD i pa0) (l.getD (i+1) pa0)
 · simp only[if_pos q]at this;repeat' split at this
   all_goals omega
 · have q2:pasCmp (l.getD i pa0) (l.getD (i+1) pa0)<0:=by omega
   unfold pasCmp at q2
   by_cases c:(l.getD (i+1) pa0).tm<(l.getD i pa0).tm
   · have:cmpI (l.getD i pa0).tm (l.getD (i+1) pa0).tm=1:=by unfold cmpI;rw[if_neg (by omega),if_pos c]
     rw[this]at q2;simp[firstE]at q2
   · omega
theorem pas_mono {l:List Pas}(h:formE l=0){i:Nat}:∀ {j:Nat},i≤j→j<l.length→(l.getD i pa0).tm≤(l.getD j pa0).tm:=by
 intro j hij hj
 induction j with
 | zero => have:i=0:=by omega
           subst this;exact Int.le_refl _
 | succ j ih=>
   by_cases q:i=j+1
   · subst q;exact Int.le_refl _
   · exact Int.le_trans (ih (by omega) (by omega)) (pas_next h hj)
theorem dblM_tm {D:Int}{l:List Pas}(h:formE l=0):∀ (i:Nat) (q:Seen) (t:Int),dblM D l i q=some t→∀j,i≤j→j<l.length→t≤(l.getD j pa0).tm:=by
 intro i
 induction i with
 |zero=>intro q t ht;simp[dblM]at ht
 | succ i ih=>
   intro q t ht j hij hj;unfold dblM at ht;split at ht
   · exact ih q t ht j (by omega) hj
   · dsimp only at ht
     split at ht
     · cases ht;exact pas_mono h (by omega) hj
     · exact ih q t ht j (by omega) hj
theorem dbl_no {l:List Pas}(h:formE l=0){i:Nat}(hi:i<l.length):dblB 0 l i=false:=by
 rw[dblB_eq]
 cases e:dblM 0 l i ((l.getD i pa0).plate,(l.getD i pa0).gate)with
 |none=>rfl
 | some t=>
   have:=dblM_tm h i _ t e i (Nat.le_refl _) hi;show(true&&decide ((l.getD i pa0).tm - t<0))=false;rw[Bool.true_and,decide_eq_false_iff_not];omega
theorem plt_key {f:Flt}(h:fltE f=0):∀e ∈ f.plt,isKeyB e.veh=true:=by
 intro e he;obtain⟨j,hj,rfl⟩:=mem_getD (d:=plt0) he;have h1:=fltE_plt h j hj;unfold pltE1 at h1;have h2:0≤veIx f.veh (f.plt.getD j plt0).veh:=by grind
 have hb:=ixF_bd (p:=fun i=>(f.veh.getD i veh0).key==(f.plt.getD j plt0).veh) (n:=f.veh.length);have h3:=hb.2.2 h2;have h4:=hb.2.1;have h5:=fltE_veh h (ixF (fun i=>(f.veh.getD i veh0).key==(f.plt.getD j plt0).veh) f.veh.length).toNat (by unfold veIx at h2;omega);unfold vehE1 at h5;simp only[beq_iff_eq]at h3;rw[h3]at h5
 cases k:isKeyB (f.plt.getD j plt0).veh with
 |true=>rfl
 |false=>rw[if_pos k]at h5;omega
theorem wear_key {f:Flt}(h:fltE f=0){p:List UInt8}{t:Int}(w:wearV f.plt p t≠ []):isKeyB (wearV f.plt p t)=true:=by
 unfold wearV at w ⊢
 cases hq:findP (worn f.plt t) p with
 |none=>rw[hq]at w;exact absurd rfl w
 | some e=>
   have he:=(findP_some hq).1
   have hm:e ∈ f.plt:=by
    unfold worn early at he;exact(List.mem_filter.1 (List.mem_filter.1 he).1).1
   exact plt_key h e hm
theorem own_hit {f:Flt}{h:List Hir}(E2:hirsE h=0){t:Int}(p:List UInt8)(q:ownR f.plt h p t≠ []):∃i,i<h.length∧keyIx h (ownR f.plt h p t)=i∧(h.getD i hi0).key=ownR f.plt h p t∧withK (wearV f.plt p t) [h.getD i hi0] t=(ownR f.plt h p t,true)∧wearV f.plt p t≠ []:=by
 unfold ownR at q ⊢
 by_cases w:wearV f.plt p t= []
 · rw[if_pos w]at q;exact absurd rfl q
 · rw[if_neg w]at q ⊢;rw[hir_with]at q ⊢
   by_cases c:hirIx h (wearV f.plt p t) t<0
   · rw[if_pos c]at q;exact absurd rfl q
   · rw[if_neg c]at q ⊢;have hb:=hirIx_bd h (wearV f.plt p t) t;have hi:(hirIx h (wearV f.plt p t) t).toNat<h.length:=by omega
     refine⟨_,hi,key_ix E2 hi,rfl,?_,w⟩;have hb2:=ixF_bd (p:=fun i=>occ (wearV f.plt p t) (h.getD i hi0) t) (n:=h.length);rw[withK_one,if_pos (show occ (wearV f.plt p t) (h.getD (hirIx h (wearV f.plt p t) t).toNat hi0) t=true from hb2.2.2 (by unfold hirIx at c;omega))]
def cgx (f:Flt)(h:List Hir)(g:List Gate)(l:List Pas)(i:Nat):Cgx:=⟨ownR f.plt h (l.getD i pa0).plate (trueT g (l.getD i pa0)),wearV f.plt (l.getD i pa0).plate (trueT g (l.getD i pa0)),i,(l.getD i pa0).cents⟩
def cgL (f:Flt)(h:List Hir)(g:List Gate)(D:Int)(l:List Pas)(n:Nat):List Cgx:=((List.range n).filter fun i=> !dblB D l i).map (cgx f h g l)
theorem cgL_succ (f:Flt)(h:List Hir)(g:List Gate)(D:Int)(l:List Pas)(n:Nat):cgL f h g D l (n+1)=cgL f h g D l n++(if dblB D l n=true then []else [cgx f h g l n]):=by
 unfold cgL;rw[List.range_succ,List.filter_append,List.map_append];congr 1
 cases q:dblB D l n<;>simp[q]
theorem cgL_len (f:Flt)(h:List Hir)(g:List Gate)(D:Int)(l:List Pas)(n:Nat):(cgL f h g D l n).length≤n:=by
 unfold cgL;rw[List.length_map];exact Nat.le_trans (List.length_filter_le _ _) (by simp)
def cgE (f:Flt)(h:List Hir)(g:List Gate)(D C F:Int)(l:List Pas):Int:=firstE [fltE f,hirsE h,tollE D C F,chkE g l]
theorem cgE_eq (f:Flt)(h:List Hir)(g:List Gate)(D C F:Int)(l:List Pas):firstE [offE f h,tollE D C F,chkE g l]=cgE f h g D C F l:=by
 unfold cgE offE;simp only[firstE];grind
theorem cgE_zero {f:Flt}{h:List Hir}{g:List Gate}{D C F:Int}{l:List Pas}(q:cgE f h g D C F l=0):fltE f=0∧hirsE h=0∧chkE g l=0∧-1≤C∧C≤1000000:=by
 unfold cgE at q;simp only[firstE]at q;have hT:tollE D C F=0→-1≤C∧C≤1000000:=fun z=>by unfold tollE at z;grind
 grind
theorem form_cents {l:List Pas}(h:formE l=0):∀p ∈ l,0≤p.cents∧p.cents≤1000000:=by
 unfold formE at h;split at h
 · cases h
 intro p hp;obtain⟨j,hj,rfl⟩:=mem_getD (d:=pa0) hp;have:=firstAt_all h j hj;unfold pasE at this;grind
theorem chk_form {g:List Gate}{l:List Pas}(h:chkE g l=0):formE l=0:=by
 unfold chkE at h;split at h
 · exact absurd h (by assumption)
 · split at h
   · exact absurd h (by assumption)
   · rename_i q;simpa using q
theorem cgL_all {f:Flt}{h:List Hir}{g:List Gate}{l:List Pas}(hF:formE l=0):cgL f h g 0 l l.length=(List.range l.length).map (cgx f h g l):=by
 unfold cgL;rw[List.filter_eq_self.2 (fun i hi=>by rw[dbl_no hF (List.mem_range.1 hi)];rfl)]
theorem cgL_full {f:Flt}{h:List Hir}{g:List Gate}{l:List Pas}(hF:formE l=0):(cgL f h g 0 l l.length).length=l.length:=by
 rw[cgL_all hF];simp
theorem cgL_at {f:Flt}{h:List Hir}{g:List Gate}{l:List Pas}(hF:formE l=0){i:Nat}(hi:i<l.length):(cgL f h g 0 l l.length).getD i cg0=cgx f h g l i:=by
 rw[cgL_all hF,List.getD_eq_getElem?_getD];simp[hi]
theorem hir_key {h:List Hir}(E2:hirsE h=0){i:Nat}(hi:i<h.length):isKeyB (h.getD i hi0).key=true:=by
 unfold hirsE at E2;split at E2
 · omega
 · have:=firstAt_all E2 i hi;unfold hirsE1 at this;have h1:hirE (h.getD i hi0)=0:=by grind
   unfold hirE at h1;grind
theorem cgL_fine {f:Flt}{h:List Hir}{g:List Gate}{l:List Pas}(E1:fltE f=0)(E2:hirsE h=0)(E3:chkE g l=0):cxsE (cgL f h g 0 l l.length)=0:=by
 have hF:=chk_form E3;have hn:=(form_zero hF).1;unfold cxsE;rw[cgL_full hF,if_neg (by omega)];refine firstAt_zero fun i hi=> ?_
 unfold cxE;rw[cgL_at hF hi];have hc:=form_cents hF _ (getD_mem (x:=pa0) hi)
 have k1:¬ ((cgx f h g l i).hir≠ []∧isKeyB (cgx f h g l i).hir=false):=by
  rintro⟨q1,q2⟩;obtain⟨k,hk,_,e,_⟩:=own_hit E2 _ q1;have:=hir_key E2 hk;rw[e]at this;rw[show(cgx f h g l i).hir=ownR f.plt h (l.getD i pa0).plate (trueT g (l.getD i pa0))from rfl,this]at q2;cases q2
 have k2:¬ ((cgx f h g l i).veh≠ []∧isKeyB (cgx f h g l i).veh=false):=by
  rintro⟨q1,q2⟩;rw[show(cgx f h g l i).veh=wearV f.plt (l.getD i pa0).plate (trueT g (l.getD i pa0))from rfl,wear_key E1 q1]at q2;cases q2
 rw[if_neg (fun q=>q.elim k1 k2),if_neg (by show ¬ ((i:Int)<0);omega)]
 rw[if_neg (by
  rintro⟨q1,q2⟩;rw[cgL_at hF (by omega:i - 1<l.length)]at q2;have q2:(i:Int)≤((i - 1:Nat):Int):=q2
  omega),if_neg (by show ¬ ¬ (0≤(l.getD i pa0).cents∧(l.getD i pa0).cents≤1000000);exact fun c=>c hc)]
def undS (l:List Cgx)(n:Nat):Int:=((l.take n).map fun c=>if c.hir= []then 0 else c.cents).sum
def bilS (c:List Cgx)(h:List Hir)(n:Nat):Int:=((h.take n).map fun y=>cxSum c y.key).sum
theorem bil_all {f:Flt}{h:List Hir}{g:List Gate}{l:List Pas}(E2:hirsE h=0)(hF:formE l=0):bilS (cgL f h g 0 l l.length) h h.length=undS (cgL f h g 0 l l.length) l.length:=by
 have hn:(h.map (·.key)).Nodup:=List.pairwise_map.2 ((key_sorted E2).2.imp fun{a b} (hlt:Op.bytesLess a.key b.key=true) (e:a.key=b.key)=>by rw[e,less_irr]at hlt;cases hlt)
 have he:([]:List UInt8) ∉ h.map (·.key):=fun q=>by
  obtain⟨x,hx,e⟩:=List.mem_map.1 q;exact(key_sorted E2).1 x hx e
 have:=bill_none ((cgL f h g 0 l l.length).map fun c=>(c.hir,c.cents)) ([]:List UInt8) hn he (by
  intro c hc q;obtain⟨x,hx,rfl⟩:=List.mem_map.1 hc;obtain⟨i,hi,rfl⟩:=mem_getD (d:=cg0) hx;rw[cgL_full hF]at hi;rw[cgL_at hF hi]at q ⊢;obtain⟨k,hk,_,e,_⟩:=own_hit E2 _ q
  exact List.mem_map.2 ⟨_,getD_mem hk,e⟩)
 rw[List.map_map,List.map_map]at this;have hXl:=cgL_full (f:=f) (h:=h) (g:=g) hF;generalize cgL f h g 0 l l.length=X at this hXl ⊢;unfold bilS undS;rw[List.take_length,←hXl,List.take_length];refine Eq.trans ?_ (this.trans ?_)
 · congr 1
   refine List.map_congr_left fun y _=> ?_
   show cxSum _ y.key=_;show _=(List.map (fun c:List UInt8×Int=>if c.1=y.key then c.2 else 0) (List.map (fun c:Cgx=>(c.hir,c.cents)) X)).sum;unfold cxSum;rw[List.map_map];rfl
 · congr 1
theorem z72 (f:Flt)(hk:fltOk f)(h:List Hir)(hh:hiOk h):FSpec Tryz.prog 36 [flt f,.d (hirs h)] [] (fun x r=>x= .d (.int .i64 (offE f h))∧r= []):=by
 have h3:=s105 [fltE f,hirsE h] (by simp);rw[show firstE [fltE f,hirsE h]=offE f h from rfl]at h3;refine spec_of hT (C:= []) Tryz.func36 rfl Tryz.call36 rfl rfl rfl ?_;conv=>whnf
 repeat' (first|(refine CallX.exact (z114 f hk) rfl rfl ?_;rotate_right;conv=>whnf)|(refine CallX.exact (z124 h hh) rfl rfl ?_;rotate_right;conv=>whnf)|((first|refine CallX.pure h3 ⟨SV.le_lit (by rfl) (by rfl),trivial⟩ rfl ?_|(refine br_intro ?_ ?_<;>intro hb<;>try simp only[brs]at hb)|omega|refine sAx ?_|decide|assumption)<;>conv=>whnf))
 refine .ret _ ?_;conv=>whnf
 refine⟨[],⟨?_,rfl⟩,trivial⟩;conv=>lhs;whnf
theorem s90 (g:List Gate)(l:List Pas)(hg:gOk g)(hl:pOk l):FSpec Tryz.prog 10 [.d (gates g),.d (pass l)] [] (fun x r=>x= .d (.int .i64 (chkE g l))∧r= []):=by
 have hF:firstE [gatesE g,formE l]=if gatesE g≠0 then gatesE g else formE l:=by
  simp only[firstE];grind
 refine spec_of hT (C:= []) Tryz.func10 rfl Tryz.call10 rfl rfl rfl ?_;conv=>whnf
 repeat' (first|(refine CallX.exact (s88 g hg) rfl rfl ?_;rotate_right;conv=>whnf)|(refine CallX.exact (s152 l hl) rfl rfl ?_;rotate_right;conv=>whnf)|((first|refine CallX.pure (s105 [_,_] (by simp)) ⟨SV.le_lit (by rfl) (by rfl),trivial⟩ rfl ?_|(refine br_intro ?_ ?_<;>intro hb<;>try simp only[brs]at hb)|omega|refine sAx ?_|decide|assumption)<;>conv=>whnf))
 · refine .ret _ ?_;conv=>whnf
   refine⟨[],⟨?_,rfl⟩,trivial⟩;conv=>lhs;whnf
   congr 2;unfold chkE;rw[hF]at hb ⊢;grind
 rw[hF]at hb;have hb1:gatesE g=0:=by grind
 have hb2:formE l=0:=by grind
 obtain⟨n1,n2⟩:=gates_zero hb1;obtain⟨n3,n4⟩:=form_zero hb2;have hE:chkE g l=firstAt (onG g l) l.length:=by unfold chkE;rw[if_neg (by omega),if_neg (by omega)]
 rw[hE];refine LoopX.rule hT (C:= []) (ι:=Nat) (fun i=>i≤l.length∧∀j,j<i→onG g l j=0) (fun i=>mkSt [(0,.d (gates g)),(17,.d (pass l)),(18,.d (.int .i64 l.length)),(19,.d (.int .i64 i))] []) (fun i=>l.length - i) 0 ⟨by omega,by omega⟩ (by exact eAx []) ?_;rintro i ⟨p1,p2⟩;have e1:(i:Int).toNat=i:=Int.toNat_natCast i;have hp:(i:Int)<l.length→0≤(l.getD (i:Int).toNat pa0).tm∧(l.getD (i:Int).toNat pa0).tm≤5761439:=fun hi=>n4 _ (getD_mem (by omega))
 have hbad:∀e:Int,i<l.length→e≠0→onG g l i=e→firstAt (onG g l) l.length=e:=fun e h h1 h2=>firstAt_eq h p2 h1 h2
 conv=>whnf
 repeat' (first|(refine CallX.exact (s153 g hg.1 _) rfl rfl ?_;rotate_right;conv=>whnf)|(refine CallX.exact (s155 g hg.1 (l.getD (i:Int).toNat pa0) ?_ ?_ ?_) rfl rfl ?_;rotate_right;conv=>whnf)|(refine CallX.exact (s154 _) rfl rfl ?_;rotate_right;conv=>whnf)|((first|(refine br_intro ?_ ?_<;>intro hb<;>try simp only[brs]at hb)|omega|refine sAx ?_|decide|assumption)<;>conv=>whnf))
 all_goals try(first|omega|(intro q hq;have:=n2 q hq;omega)|(rw[Int.toNat_natCast];omega))
 all_goals first
  |(refine⟨i+1,⟨by omega,first_step p2 (by clear p2 hbad;simp only[e1]at*;unfold onG;grind)⟩,by omega,(by exact eAx [])⟩)
  | (refine .ret _ ?_
     conv=>whnf
     refine⟨[],⟨?_,rfl⟩,trivial⟩;conv=>lhs;whnf
     congr 2
     first
      |exact(hbad _ (by omega) (by decide) (by clear p2 hbad;simp only[e1]at*;unfold onG;grind)).symm
      | (have:i=l.length:=by omega
         subst this
         rw[firstAt_zero p2]))
def oKChA9_1:OL:= [(0,[]),(1,[0]),(3,[0,1]),(5,[0,1,3]),(6,[0,1,3,5]),(2,[3,5,6]),(4,[5,6]),(7,[]),(8,[]),(9,[]),(10,[])]
def oKChA9_10:OL:= [(0,[]),(1,[0]),(2,[0,1]),(3,[0]),(4,[0]),(5,[0]),(6,rg 6),(7,rg 7),(8,rg 8),(9,rg 7),(10,rg 7),(11,rg 6),(12,[]),(13,[]),(14,[]),(15,[14]),(16,[15]),(17,[])]
def oKChA9_11:OL:= [(0,[]),(1,[0]),(2,[0,1]),(4,[0,1,2]),(5,[0,1,2,4]),(6,[0,1,2,4,5]),(7,[0,1,2,4,5,6]),(8,[0,1,2,4,5]),(9,[0,1,2,4,5]),(10,[0,1,2,4,5]),(3,[0,4,5,6,7,8,9,10]),(11,[0]),(12,[0]),(13,[]),(14,[])]
def oKChA9_29:OL:= [(0,[]),(1,[]),(2,[]),(3,[]),(4,rg 4),(5,rg 5),(6,rg 6),(7,rg 7),(8,rg 7),(9,rg 7),(10,rg 7),(11,rg 6),(12,rg 6),(13,rg 6),(18,rg 14),(19,[0,1,2,3,4,5,6,7,8,9,10,11,12,13,18]),(23,[0,1,2,3,4,5,6,7,8,9,10,11,12,13,18,19]),(14,[0,1,2,3,4,18,19,23]),(15,[0,1,2,3,18,19,23]),(16,[0,1,2,3,18,19,23]),(17,[0,1,2,3,18,19,23]),(20,[0,1,2,3,4,23,15,16,17]),(21,[0,1,2,3,4,23,15,16,17]),(22,[23]),(24,[])]
def oKChA9_30:OL:= [(0,[]),(1,[0]),(2,[0]),(3,[0]),(4,[0]),(5,rg 5),(6,rg 5),(7,rg 7),(8,rg 8),(9,rg 7),(10,rg 5),(11,[0]),(12,[]),(13,[]),(14,[])]
def oKChA9_31:OL:= [(0,[]),(1,[0]),(2,[]),(3,[0,1,2]),(4,[0,1,2]),(5,[0,1,2]),(6,[0,1,2]),(7,[]),(8,[2,7]),(9,[2,7]),(10,[])]
abbrev cgB (X:List Cgx):Res:=seqB 66 4 cgF cg0 X
set_option maxHeartbeats 8000000 in
theorem c53n (f:Flt)(hk:fltOk f)(h:List Hir)(hh:hiOk h)(hlg:∀x ∈ h,x.legs.length≤2^40)(g:List Gate)(hg:gOk g)(D C F:Int)(hC:C= -1)(l:List Pas)(hl:pOk l)(hn:l.length<20):
 FSpec Tryz.prog 9 [flt f,.d (hirs h),.d (gates g),.agg [.d (.int .i64 D),.d (.int .i64 C),.d (.int .i64 F)],.d (pass l)] [] (fun y r=>y=(if cgE f h g D C F l≠0 then .tup [.d .nilsl,.d (.int .i64 (cgE f h g D C F l))]else .tup [.d (cgxs (cgL f h g D l l.length)),.d (.int .i64 0)])∧r= []):=by
 have h3:=s105 [offE f h,tollE D C F,chkE g l] (by simp);rw[cgE_eq]at h3;have hhl:h.length≤2^40:=hh.1;refine spec_of hT (C:= []) Tryz.func9 rfl Tryz.call9 rfl rfl rfl ?_;conv=>whnf
 repeat' (first|(refine CallX.exact (z72 f hk h hh) rfl rfl ?_;rotate_right;conv=>whnf)|(refine CallX.exact (s66 D C F) rfl rfl ?_;rotate_right;conv=>whnf)|(refine CallX.exact (s90 g l hg hl) rfl rfl ?_;rotate_right;conv=>whnf)|((first|refine CallX.pure h3 ⟨SV.le_lit (by rfl) (by rfl),trivial⟩ rfl ?_|(refine br_intro ?_ ?_<;>intro hb<;>try simp only[brs]at hb)|refine rAx hT 1 oKChA9_1 ?_|refine rAx hT 10 oKChA9_10 ?_|refine rAx hT 11 oKChA9_11 ?_|refine rAx hT 29 oKChA9_29 ?_|refine rAx hT 30 oKChA9_30 ?_|refine rAx hT 31 oKChA9_31 ?_|omega|refine sAx ?_|decide|assumption)<;>conv=>whnf))
 · refine .ret _ ?_;conv=>whnf
   refine⟨[],⟨?_,rfl⟩,trivial⟩;rw[if_pos hb];rfl
 have E0:cgE f h g D C F l=0:=hb;rw[if_neg (by omega)];obtain⟨E1,E2,E3,c1,c2⟩:=cgE_zero E0;have hon:=chk_on E3;obtain⟨⟨n1,n2⟩,n3,n4⟩:=chk_zero E3;obtain⟨hs,hpl⟩:=fltE_srt E1;obtain⟨O,hO⟩:∃O,O=(hend f.plt).out:=⟨_,rfl⟩;have hOl:∀q,(O q).length≤1000:=fun q=>by rw[hO];exact Nat.le_trans (hend_len _ _) hpl
 refine oAx (z73 f hpl hs h) [(6,30)] ?_;rintro x rout ⟨rfl,rfl⟩;refine⟨rfl,?_⟩;rw[←hO];conv=>whnf
 repeat' (first|(refine CallX.exact (s130 D C F l n3 n4) rfl rfl ?_;rotate_right;conv=>whnf)|((first|(refine br_intro ?_ ?_<;>intro hb<;>try simp only[brs]at hb)|refine rAx hT 1 oKChA9_1 ?_|refine rAx hT 10 oKChA9_10 ?_|refine rAx hT 11 oKChA9_11 ?_|refine rAx hT 29 oKChA9_29 ?_|refine rAx hT 30 oKChA9_30 ?_|refine rAx hT 31 oKChA9_31 ?_|omega|refine sAx ?_|decide|assumption)<;>conv=>whnf))
 refine LoopX.rule hT (C:= []) (ι:=Nat) (fun i=>i≤l.length) (fun i=>mkSt [(7,.ptr 7 0),(8,.ptr 8 0),(9,.ptr 9 0),(13,.ptr 13 0),(14,.ptr 14 0),(45,.d (seqD 1 bF false (fillA false (dblB D l) l.length l.length))),(46,.d (.int .i64 l.length)),(47,.d (.int .i64 i))] [(7,.cells 55 [.d (gates g)]),(8,.cells 62 [.d (.int .i64 D),.d (.int .i64 C),.d (.int .i64 F)]),(9,.cells 56 [.d (pass l)]),(13,.cells 126 [.mp 30,.d (hirs h)]),(30,mF O),(14,.cells 58 [.buf 200]),(200,cgB (cgL f h g D l i))]) (fun i=>l.length - i) 0 (by omega) ?_ ?_
 · refine(Entails.nilCell 14 200 66 4 0 (rowF cgF cg0 []) rfl rfl rfl (by decide) rfl).trans ?_;exact Entails.mk' [(7,7),(8,8),(9,9),(13,13),(30,30),(14,14),(200,200)] rfl rfl ⟨lr,lr,lr,lr,lr,lr,SV.le_int (by rw[fillA_length]),lr,trivial⟩ ⟨rr,rr,rr,rr,rr,rr,rr,trivial⟩
 intro i p1;have e1:(i:Int).toNat=i:=Int.toNat_natCast i;have hcl:=cgL_len f h g D l i;rcases Nat.lt_or_ge i l.length with hi|hi
 · have hc2:=n4 (l.getD (i:Int).toNat pa0) (getD_mem (by omega));have ho2:=hon i hi;rw[←e1]at ho2;have hfg:(fillA false (dblB D l) l.length l.length).getD (i:Int).toNat false=dblB D l i:=by rw[e1];exact fillA_get hi
   have hfl:(fillA false (dblB D l) l.length l.length).length=l.length:=fillA_length;have hbd:=ownK_bd (O (l.getD (i:Int).toNat pa0).plate) h (trueT g (l.getD (i:Int).toNat pa0));have hw:=look_wear E1 (by omega:trueT g (l.getD (i:Int).toNat pa0)<5761440) (l.getD (i:Int).toNat pa0).plate;have hown:=own_key E1 E2 (by omega:trueT g (l.getD (i:Int).toNat pa0)<5761440) (l.getD (i:Int).toNat pa0).plate;rw[←hO]at hw hown;conv=>whnf
   repeat' (first|(refine CallX.exact (s155 g (by omega) (l.getD (i:Int).toNat pa0) ⟨by omega,by omega⟩ (fun x hx=>by have:=n2 x hx;omega) ho2.1) rfl rfl ?_;rotate_right;conv=>whnf)|((first|(refine CallX.of (z74 (fun p=> !(O p).isEmpty) (fun p=>vF (O p)) (O (l.getD (i:Int).toNat pa0).plate) h hhl hlg (l.getD (i:Int).toNat pa0).plate (trueT g (l.getD (i:Int).toNat pa0)) (Nat.le_trans (hOl _) (by decide)) (vF_or _)) [(1000001,30)] rfl ⟨lr,lr,lr,trivial⟩ ⟨rr,trivial⟩ rfl rfl ?_;rintro x rout ⟨rfl,rfl⟩;refine⟨rfl,?_⟩)|(refine oAx (z113 (fun p=> !(O p).isEmpty) (fun p=>vF (O p)) h (ownK (O (l.getD (i:Int).toNat pa0).plate) h (trueT g (l.getD (i:Int).toNat pa0))) hbd.2) [(1000001,30)] ?_;rintro x rout ⟨rfl,rfl⟩;refine⟨rfl,?_⟩)|(refine br_intro ?_ ?_<;>intro hb<;>try simp only[brs]at hb)|refine rAx hT 1 oKChA9_1 ?_|refine rAx hT 10 oKChA9_10 ?_|refine rAx hT 11 oKChA9_11 ?_|refine rAx hT 29 oKChA9_29 ?_|refine rAx hT 30 oKChA9_30 ?_|refine rAx hT 31 oKChA9_31 ?_|omega|refine sAx ?_|decide|assumption)<;>conv=>whnf))
   · have hB:dblB D l i=true:=by rw[←hfg];exact hb
     refine⟨i+1,by omega,by omega,?_⟩;rw[cgL_succ,if_pos hB,List.append_nil];exact Entails.mk' [(7,7),(8,8),(9,9),(13,13),(30,30),(14,14),(200,200)] rfl rfl ⟨lr,lr,lr,lr,lr,lr,lr,lr,trivial⟩ ⟨rr,rr,rr,rr,rr,rr,rr,trivial⟩
   · have hB:dblB D l i=false:=by rw[←hfg];exact hb
     have hkey:(if ownK (O (l.getD (i:Int).toNat pa0).plate) h (trueT g (l.getD (i:Int).toNat pa0))<0 then []else(h.getD (ownK (O (l.getD (i:Int).toNat pa0).plate) h (trueT g (l.getD (i:Int).toNat pa0))).toNat hi0).key)=ownR f.plt h (l.getD (i:Int).toNat pa0).plate (trueT g (l.getD (i:Int).toNat pa0)):=by
      rcases hown with⟨q1,q2⟩|⟨q1,q2,_,_⟩
      · rw[if_pos q1,q2]
      · rw[if_neg (by omega),q2]
     have hx:cgx f h g l i=⟨if ownK (O (l.getD (i:Int).toNat pa0).plate) h (trueT g (l.getD (i:Int).toNat pa0))<0 then []else(h.getD (ownK (O (l.getD (i:Int).toNat pa0).plate) h (trueT g (l.getD (i:Int).toNat pa0))).toNat hi0).key,lookV (O (l.getD (i:Int).toNat pa0).plate) (trueT g (l.getD (i:Int).toNat pa0)),i,(l.getD (i:Int).toNat pa0).cents⟩:=by
      rw[hkey,hw,e1];rfl
     refine⟨i+1,by omega,by omega,?_⟩;have hcs:cgL f h g D l (i+1)=cgL f h g D l i++ [cgx f h g l i]:=by rw[cgL_succ,if_neg (by rw[hB];simp)]
     rw[hcs,hx];exact Entails.mk' [(7,7),(8,8),(9,9),(13,13),(30,30),(14,14),(200,82)] rfl rfl ⟨lr,lr,lr,lr,lr,lr,lr,lr,trivial⟩ ⟨rr,rr,rr,rr,rr,rr,Res.le_snocF (by rfl),trivial⟩
 · have hil:i=l.length:=by omega
   rw[hil];rw[hil]at hcl;obtain⟨X,hX⟩:∃X,X=cgL f h g D l l.length:=⟨_,rfl⟩;rw[←hX];rw[←hX]at hcl;conv=>whnf
   repeat' (first|((first|(refine br_intro ?_ ?_<;>intro hb<;>try simp only[brs]at hb)|refine rAx hT 1 oKChA9_1 ?_|refine rAx hT 10 oKChA9_10 ?_|refine rAx hT 11 oKChA9_11 ?_|refine rAx hT 29 oKChA9_29 ?_|refine rAx hT 30 oKChA9_30 ?_|refine rAx hT 31 oKChA9_31 ?_|omega|refine sAx ?_|decide|assumption)<;>conv=>whnf))
   all_goals try(exfalso;omega)
   · refine .freeze _ 200 66 4 _ _ rfl (.weak _ ?_);conv=>whnf
     exact⟨.tup [.d (cgxs X),.d (.int .i64 0)],[],SV.le_tup ⟨lr,lr,trivial⟩,⟨by rw[hX],rfl⟩,trivial⟩
theorem chk_one {g:List Gate}{l:List Pas}(h:chkE g l=0){p:Pas}(hp:p ∈ l):chkE g [p]=0:=by
 obtain⟨j,hj,rfl⟩:=mem_getD (d:=pa0) hp
 have h1:gatesE g=0:=by
  unfold chkE at h;split at h
  · exact absurd h (by assumption)
  · omega
 have h2:=chk_form h;have h3:=chk_on h j hj
 have h4:pasE l j=0:=by
  unfold formE at h2;split at h2
  · cases h2
  · exact firstAt_all h2 j hj
 have e:([l.getD j pa0].getD 0 pa0)=l.getD j pa0:=rfl
 have h5:pasE [l.getD j pa0] 0=0:=by
  unfold pasE at h4 ⊢;rw[e];grind
 have h6:formE [l.getD j pa0]=0:=by
  unfold formE;rw[if_neg (by simp)]
  exact firstAt_zero (fun i hi => by have:i=0:=by simp at hi;omega
                                     subst this;exact h5)
 unfold chkE;rw[if_neg (by omega),if_neg (by omega)];refine firstAt_zero (fun i hi=> ?_);have:i=0:=by simp at hi;omega
 subst this;unfold onG;rw[e,if_neg (by omega),if_neg (by omega)]
theorem c61 (g:List Gate)(hg:gOk g)(p:Pas)(hl:pOk [p])(h:chkE g [p]=0):FSpec Tryz.prog 12 [.d (gates g),.agg ((paF p).map .d)] [] (fun x r=>x= .tup [.d (.int .i64 (trueT g p)),.d (.int .i64 0)]∧r= []):=by
 have C:=s90 g [p] hg hl;rw[h]at C;obtain⟨⟨n1,n2⟩,n3,n4⟩:=chk_zero h;have n5:=n4 p (by simp);have n6:=chk_on h 0 (by simp);refine spec_of hT (C:= []) Tryz.func12 rfl Tryz.call12 rfl rfl rfl ?_;conv=>whnf
 repeat' (first|(refine CallX.pure C ⟨lr,SV.le_lit (by rfl) (by rfl),trivial⟩ rfl ?_;conv=>whnf)|(refine CallX.exact (s155 g (by omega) p ⟨by omega,by omega⟩ (fun x hx=>by have:=n2 x hx;omega) n6.1) rfl rfl ?_;rotate_right;conv=>whnf)|((first|(refine br_intro ?_ ?_<;>intro hb<;>try simp only[brs]at hb)|omega|refine sAx ?_|decide|assumption)<;>conv=>whnf))
 refine .ret _ ?_;conv=>whnf
 refine⟨[],⟨congrArg SV.tup ?_,rfl⟩,trivial⟩;repeat' (refine cons_eq ?_ ?_)
 all_goals (conv=>lhs;whnf)
 all_goals try(with_reducible rfl)
def ownE (f:Flt)(h:List Hir)(p:List UInt8)(t:Int):Int:=firstE [fltE f,hirsE h,if(!isPlateB p)=true then 3 else 0,if 0≤t∧t≤5761439 then 0 else 1]
theorem ownE_eq (f:Flt)(h:List Hir)(p:List UInt8)(t:Int):firstE [offE f h,if(!isPlateB p)=true then 3 else 0,if 0≤t∧t≤5761439 then 0 else 1]=ownE f h p t:=by
 unfold ownE offE;simp only[firstE];grind
theorem ownE_zero {f:Flt}{h:List Hir}{p:List UInt8}{t:Int}(q:ownE f h p t=0):fltE f=0∧hirsE h=0∧isPlateB p=true∧0≤t∧t≤5761439:=by
 unfold ownE at q;simp only[firstE]at q;grind
set_option maxHeartbeats 4000000 in
theorem z42 (f:Flt)(hk:fltOk f)(h:List Hir)(hh:hiOk h)(hg:∀x ∈ h,x.legs.length≤2^40)(p:List UInt8)(hp:p.length≤2^40)(t:Int):
 FSpec Tryz.prog 13 [flt f,.d (hirs h),.d (.str p),.d (.int .i64 t)] [] (fun y r=>y=(if ownE f h p t≠0 then .tup [.d (.str []),.d (.str []),.d (.int .i64 (ownE f h p t))]else .tup [.d (.str (wearV f.plt p t)),.d (.str (ownR f.plt h p t)),.d (.int .i64 0)])∧r= []):=by
 have h3:=s105 [offE f h,if(!isPlateB p)=true then 3 else 0,if 0≤t∧t≤5761439 then 0 else 1] (by simp);rw[ownE_eq]at h3;have hhl:h.length≤2^40:=hh.1;refine spec_of hT (C:= []) Tryz.func13 rfl Tryz.call13 rfl rfl rfl ?_;conv=>whnf
 repeat' (first|(refine CallX.exact (z72 f hk h hh) rfl rfl ?_;rotate_right;conv=>whnf)|(refine CallX.exact (s185 p hp) rfl rfl ?_;rotate_right;conv=>whnf)|(refine CallX.exact (s107 _ _) rfl rfl ?_;rotate_right;conv=>whnf)|(refine CallX.exact (sMoment t) rfl rfl ?_;rotate_right;conv=>whnf)|((first|refine CallX.pure h3 ⟨SV.le_lit (by rfl) (by rfl),trivial⟩ rfl ?_|(refine br_intro ?_ ?_<;>intro hb<;>try simp only[brs]at hb)|omega|refine sAx ?_|decide|assumption)<;>conv=>whnf))
 · refine .ret _ ?_;conv=>whnf
   refine⟨[],⟨?_,rfl⟩,trivial⟩;rw[if_pos hb];rfl
 have E0:ownE f h p t=0:=hb;obtain⟨E1,E2,_,t1,t2⟩:=ownE_zero E0;obtain⟨hs,hpl⟩:=fltE_srt E1;have hw:=look_wear E1 (by omega:t<5761440) p;have hown:=own_key E1 E2 (by omega:t<5761440) p;obtain⟨O,hO⟩:∃O,O=(hend f.plt).out:=⟨_,rfl⟩;have hOl:∀q,(O q).length≤1000:=fun q=>by rw[hO];exact Nat.le_trans (hend_len _ _) hpl
 have hbd:=ownK_bd (O p) h t;refine oAx (z73 f hpl hs h) [(6,31)] ?_;rintro x rout ⟨rfl,rfl⟩;refine⟨rfl,?_⟩;rw[←hO];rw[←hO]at hw hown;conv=>whnf
 repeat' (first|((first|(refine CallX.of (z74 (fun p=> !(O p).isEmpty) (fun p=>vF (O p)) (O p) h hhl hg p t (Nat.le_trans (hOl _) (by decide)) (vF_or _)) [(1000001,31)] rfl ⟨lr,lr,lr,trivial⟩ ⟨rr,trivial⟩ rfl rfl ?_;rintro x rout ⟨rfl,rfl⟩;refine⟨rfl,?_⟩)|(refine oAx (z113 (fun p=> !(O p).isEmpty) (fun p=>vF (O p)) h (ownK (O p) h t) hbd.2) [(1000001,31)] ?_;rintro x rout ⟨rfl,rfl⟩;refine⟨rfl,?_⟩)|(refine br_intro ?_ ?_<;>intro hb<;>try simp only[brs]at hb)|omega|refine sAx ?_|decide|assumption)<;>conv=>whnf))
 rw[if_neg (by omega)];refine .ret _ ?_;conv=>whnf
 refine⟨[],⟨congrArg SV.tup ?_,rfl⟩,trivial⟩;repeat' (refine cons_eq ?_ ?_)
 all_goals (conv=>lhs;whnf)
 all_goals try(with_reducible rfl)
 · rw[hw]
 · rcases hown with⟨q1,q2⟩|⟨q1,q2,_,_⟩
   · rw[if_pos q1,q2]
   · rw[if_neg (by omega),q2]
end Go.Proofs.YtjibpcoeghlnoaaGreatDoor
namespace Go.Eng
open Go Go.Proofs Go.Sort Go.RowKit
def sF1':List UInt8→List DV:=fun s=> [.str s]
def sortS (l:List (List UInt8)):List (List UInt8):=l.mergeSort fun x y=>decide (x≤y)
theorem sortS_perm (l:List (List UInt8)):(sortS l).Perm l:=List.mergeSort_perm _ _
theorem sortS_length (l:List (List UInt8)):(sortS l).length=l.length:=(sortS_perm l).length_eq
theorem sortS_sorted (l:List (List UInt8)):(sortS l).Pairwise fun x y=>x≤y:=by
 have:=List.pairwise_mergeSort (le:=fun x y:List UInt8=>decide (x≤y)) (fun a b c h1 h2=>by simp only[decide_eq_true_eq]at*;exact List.le_trans h1 h2) (fun a b=>by simp only[Bool.or_eq_true,decide_eq_true_eq];exact List.le_total a b) l;exact this.imp (fun h=>by simpa using h)
theorem sortS_eq {l m:List (List UInt8)}(h:l.Perm m):sortS l=sortS m:=
 List.Perm.eq_of_pairwise (le:=fun x y:List UInt8=>x≤y) (fun x y _ _ h1 h2=>List.le_antisymm h1 h2) (sortS_sorted l) (sortS_sorted m) ((sortS_perm l).trans (h.trans (sortS_perm m).symm))
theorem FSpec.sortS {P:Program}{f:FuncId}{e:TypeId}(henter:∀args w,(callFunc f args).run P w= .ok (.enter f args) w)(l:List (List UInt8))
 (hn:∀w,Calls P f #[.slice none 0 0] w fun e' w' =>e' = .returned (.tuple #[])∧w' =w)
 (hc:∀ (blk cap:Nat) (w:World),Holds encStr w blk 0 l.toArray→blk<w.heap.size→Calls P f #[.slice (some ⟨blk,0,none⟩) l.length cap] w fun e' w' =>e' = .returned (.tuple #[])∧∃n os,w' =grow (putRow encStr (Sort.ahead w n) blk 0 (Go.Eng.sortS l).toArray) os):
 FSpec P f [.buf 1000001] [(1000001,seqB e 1 sF1' [] l)] (fun y r=>y= .tup []∧r= [(1000001,seqB e 1 sF1' [] (Go.Eng.sortS l))]):=by
 refine⟨henter,fun G β w vs hpre hvl hvd=> ?_⟩
 match vs,hvl with
 | [v],_=>
   have hv:=hvd 0 _ _ rfl rfl
   cases hv with|buf _ _ hb _=>
   have hR:lookL [(1000001,seqB e 1 sF1' [] l)] 1000001=some (seqB e 1 sF1' [] l):=by simp[lookL]
   have hrow:∀ {q:List (List UInt8)} d r,lookL [(1000001,seqB e 1 sF1' [] q)] d=some r→d=1000001∧r=seqB e 1 sF1' [] q:=by
    intro q d r hr;simp only[lookL]at hr
    cases hq:Nat.beq d 1000001 with
    |false=>rw[show(d.beq 1000001)=false from hq]at hr;cases hr
    |true=>rw[show(d.beq 1000001)=true from hq]at hr;cases hr;exact⟨Nat.eq_of_beq_eq_true hq,rfl⟩
   obtain⟨v',xs,hv',hown,_,_,hden⟩:=hpre.rs _ _ hR;rw[hb]at hv';cases hv';rcases hown.2 with⟨rfl,hz⟩|⟨g,cap,cur,rfl,hg,hh,hnc,hcm,hcz,htake⟩
   · have hl0:l= []:=List.length_eq_zero_iff.1 hz;subst hl0;refine(hn w).mono ?_;rintro e' w' ⟨rfl,rfl⟩;refine⟨.tuple #[],.tup [],[(1000001,seqB e 1 sF1' [] (Go.Eng.sortS []))],G,β,rfl,⟨rfl,rfl⟩,⟨Hp.le_refl G,Env.le_refl β,fun b o ho=>hpre.gw b o ho,fun b o ho=>.inl ho,⟨rfl,rfl,rfl,Nat.le_refl _,fun b hlt hT=>rfl⟩,fun d r hr=> ?_,fun d d' r r' _ _ _ e1 e2 _ _ _ _ _ _=> ?_,fun d r u b e1 _ hu hbk=> ?_⟩,.tup [] [] rfl (fun i x v hx=>by simp at hx)⟩
     · rw[show Go.Eng.sortS []= []by simp[Go.Eng.sortS]]at hr;exact hpre.rs d r hr
     · rw[(hrow d r e1).1,(hrow d' r' e2).1]
     · obtain⟨rfl,rfl⟩:=hrow d r e1;rw[hb]at hu;cases hu;exact absurd (hbk.plain rfl) (by simp[blk])
   have hxs:xs=l.map encStr:=by
    apply List.ext_getElem
    · rw[hown.1];simp
    intro i hi hi';have hil:i<l.length:=by simpa using hi'
    obtain⟨u,hu,hd⟩:=hden i 0 (.str (l.getD i [])) hil rfl;rw[Nat.mul_one,Nat.add_zero,List.getElem?_eq_getElem hi]at hu;cases hu;generalize xs[i]=z at hd;cases hd;simp[List.getD_eq_getElem?_getD,hil]
   have hgs:g<w.heap.size:=(Array.getElem?_eq_some_iff.1 hh).1;have hho:=holds_of_block (ss:=l) hh (by rw[←hxs,←htake,Nat.mul_one]);refine(hc g cap w hho hgs).mono ?_;rintro e' w' ⟨rfl,n,os,rfl⟩;have hgb:=grownBy_sorted (w:=w) (g:=g) (n:=n) (os:=os) (Go.Eng.sortS l).toArray;have hrs:=ownsRow_sorted (w:=w) (base:=0) (cap:=cap) (n:=n) (os:=os) (sortS_length l) (Nat.zero_le _) hh hnc hcm hcz;have hTin:Tin w β (lookL [(1000001,seqB e 1 sF1' [] l)]) g:=⟨1000001,_,_,hR,rfl,hb,.of rfl⟩;have hGg:G g=none:=hpre.og _ _ _ g hR rfl hb (.of rfl);refine⟨.tuple #[],.tup [],_,G,β,rfl,⟨rfl,rfl⟩,⟨Hp.le_refl G,Env.le_refl β,fun b o ho=> ?_,fun b o ho=>.inl ho,⟨hgb.os,hgb.tape,hgb.output,hgb.size,fun b hlt hT=> ?_⟩,fun d r hr=> ?_,fun d d' r r' _ _ _ e1 e2 _ _ _ _ _ _=> ?_,fun d r u b e1 _ hu hbk=> ?_⟩,.tup [] [] rfl (fun i x v hx=>by simp at hx)⟩
   · have hw:=hpre.gw b o ho;rw[hgb.block b (Array.getElem?_eq_some_iff.1 hw).1 (fun q=>by cases q;rw[hGg]at ho;cases ho)];exact hw
   · exact hgb.block b hlt (fun q=>by cases q;exact hT hTin)
   · obtain⟨rfl,rfl⟩:=hrow d r hr;refine⟨_,_,hb,by rw[sortS_length];exact hrs,by omega,fun i hi=>rfl,fun i j x hi hx=> ?_⟩
     have hj:j=0:=by
      have:=(List.getElem?_eq_some_iff.1 hx).1;simp[rowF,sF1']at this;omega
     subst hj;simp[rowF,sF1']at hx;subst hx;exact⟨encStr ((Go.Eng.sortS l).getD i []),by rw[Nat.mul_one,Nat.add_zero];simp[List.getD_eq_getElem?_getD,hi],.str _⟩
   · rw[(hrow d r e1).1,(hrow d' r' e2).1]
   · obtain⟨rfl,rfl⟩:=hrow d r e1;rw[hb]at hu;cases hu;cases hbk.plain rfl;exact⟨hGg,.inl hTin⟩
end Go.Eng
set_option maxRecDepth 20000
namespace Go.Proofs.YtjibpcoeghlnoaaGreatDoor
open Go Go.Eng
theorem KB_stampQ {ks:List KK}{has:List DV→Bool}{clock:Nat}{kb:List (List DV×Nat)}(hk:KB ks has clock kb){p q:List DV×Nat}(hp:p ∈ kb)(hq:q ∈ kb):(p.2=q.2↔p.1=q.1):=by
 obtain⟨i,hi,rfl⟩:=List.getElem_of_mem hp;obtain⟨j,hj,rfl⟩:=List.getElem_of_mem hq
 have h1:∀i j (hi:i<kb.length) (hj:j<kb.length),i<j→kb[i].2<kb[j].2:=fun i j hi hj hij=>by
  have:=List.pairwise_iff_getElem.1 hk.ki i j (by simpa using hi) (by simpa using hj) hij;simpa using this
 have h2:∀i j (hi:i<kb.length) (hj:j<kb.length),i<j→kb[i].1≠kb[j].1:=fun i j hi hj hij e=>by
  have:=List.pairwise_iff_getElem.1 hk.kd i j (by simpa using hi) (by simpa using hj) hij;simp only[List.getElem_map]at this;rw[e]at this;rw[keyEq_refl (hk.kw _ (List.getElem_mem hj))]at this;cases this
 rcases Nat.lt_trichotomy i j with q|q|q
 · exact⟨fun e=>absurd e (Nat.ne_of_lt (h1 i j hi hj q)),fun e=>absurd e (h2 i j hi hj q)⟩
 · subst q;exact⟨fun _=>rfl,fun _=>rfl⟩
 · exact⟨fun e=>absurd e.symm (Nat.ne_of_lt (h1 j i hj hi q)),fun e=>absurd e.symm (h2 j i hj hi q)⟩
open Classical in
noncomputable def keysS (has:List UInt8→Bool):List (List UInt8):=
 if h:∃K:List (List UInt8),K.Nodup∧∀k,k ∈ K↔has k=true then sortS (Classical.choose h)else []
theorem keysS_eq {has:List UInt8→Bool}{K:List (List UInt8)}(h1:K.Nodup)(h2:∀k,k ∈ K↔has k=true):sortS K=keysS has:=by
 have h:∃K:List (List UInt8),K.Nodup∧∀k,k ∈ K↔has k=true:=⟨K,h1,h2⟩;unfold keysS;rw[dif_pos h];have hc:=Classical.choose_spec h;exact sortS_eq ((List.perm_ext_iff_of_nodup h1 hc.1).2 fun k=>by rw[h2 k,hc.2 k])
theorem keysS_len {has:List UInt8→Bool}{L:List (List UInt8)}(hL:∀k,has k=true→k ∈ L):(keysS has).length≤L.length:=by
 unfold keysS;split
 · rename_i h;have hc:=Classical.choose_spec h;rw[sortS_length];exact nodup_le _ _ hc.1 fun k hk=>hL k ((hc.2 k).1 hk)
 · simp
theorem wSortS (l:List (List UInt8))(hl:l.length<2^40):FSpec Tryz.prog 76 [.buf 1000001] [(1000001,seqB 9 1 sF1' [] l)] (fun y r=>y= .tup []∧r= [(1000001,seqB 9 1 sF1' [] (sortS l))]):=by
 have e:Tryz.lays190_ren.f 190=76:=rfl;refine FSpec.sortS Tryz.call76 l (fun w=> ?_) (fun blk cap w hH hb=> ?_)
 · have:=Any.slices_Sort_string_none Tryz.lays190 none 0 w;rw[e]at this;exact this
 · have:=Any.slices_Sort_string Tryz.lays190 blk 0 cap l w hH hb (by omega);rw[e]at this;exact this
def isAtoi (s:List UInt8):Bool:=match Lib.atoiAll s with| .ok n=>Lib.itoa n==s|_=>false
def numN (s:List UInt8):Int:=match Lib.atoiAll s with| .ok n=>n| .range=>Lib.atoiSat s|_=>0
def numOk (s:List UInt8):Bool:=isAtoi s&&decide ((Lib.trimPrefix s [45]).length≤9)
def digs:List UInt8:= [48,49,50,51,52,53,54,55,56,57]
theorem digit_mem (u:Nat)(h:u<10):digs.contains (UInt8.ofNat (48+u))=true:=by
 have:∀u,u<10→digs.contains (UInt8.ofNat (48+u))=true:=by decide
 exact this u h
theorem dec_digits:∀ (n u:Nat),u<n→Lib.decDigits u≠ []∧∀b ∈ Lib.decDigits u,digs.contains b=true:=by
 intro n
 induction n with
 |zero=>intro u h;omega
 | succ n ih=>
   intro u hu;rw[Lib.decDigits];split
   · rename_i h;exact⟨by simp,fun b hb=>by rw[List.mem_singleton]at hb;subst hb;exact digit_mem u h⟩
   · rename_i h;refine⟨by simp,fun b hb=> ?_⟩;rcases List.mem_append.1 hb with q|q
     · exact(ih (u/10) (by omega)).2 b q
     · rw[List.mem_singleton]at q;subst q;exact digit_mem _ (Nat.mod_lt _ (by decide))
theorem trim_itoa (n:Int):Lib.trimPrefix (Lib.itoa n) [45]=Lib.decDigits n.natAbs:=by
 unfold Lib.itoa;split
 · rename_i h;simp[Lib.trimPrefix,Lib.hasPrefix]
 · rename_i h;have hn:n.toNat=n.natAbs:=by omega
   rw[hn];obtain⟨h1,h2⟩:=dec_digits (n.natAbs+1) n.natAbs (by omega)
   cases hd:Lib.decDigits n.natAbs with
   |nil=>exact absurd hd h1
   | cons b r=>
     have hb:=h2 b (by rw[hd];exact List.mem_cons_self);have hne:b≠45:=fun e=>by subst e;revert hb;decide
     have hne':¬ 45=b:=fun e=>hne e.symm
     simp[Lib.trimPrefix,Lib.hasPrefix,hne']
theorem dec_bd:∀ (k u:Nat),(Lib.decDigits u).length≤k→u<10 ^ k:=by
 intro k
 induction k with
 | zero=>
   intro u h;have:=(dec_digits (u+1) u (by omega)).1
   exact absurd (List.eq_nil_of_length_eq_zero (by omega)) this
 | succ k ih=>
   intro u h;rw[Lib.decDigits]at h;split at h
   · rename_i hu;have:1≤10 ^ k:=Nat.one_le_pow _ _ (by decide);rw[Nat.pow_succ];omega
   · have:=ih (u/10) (by simp at h;omega);rw[Nat.pow_succ];omega
theorem numN_bd {s:List UInt8}(h:numOk s=true): -10 ^ 9≤numN s∧numN s≤10 ^ 9:=by
 unfold numOk isAtoi at h;rw[Bool.and_eq_true]at h;unfold numN;split at h
 · rename_i n hn;have he:Lib.itoa n=s:=by simpa using h.1
   have h9:=of_decide_eq_true h.2;rw[←he,trim_itoa]at h9;have:=dec_bd 9 _ h9;rw[hn];show -10 ^ 9≤n∧n≤10 ^ 9;omega
 · cases h.1
theorem lxF_pos {p:Nat→Bool}{n k:Nat}(hk:k<n)(h:p k=true):0≤ixF p n:=by
 have hb:=ixF_bd (p:=p) (n:=n);rcases Int.lt_or_le (ixF p n) 0 with q|q
 · exfalso
   have hn :∀m,ixF p m<0→∀j,j<m→p j=false:=by
    intro m
    induction m with
    |zero=>intro _ j hj;omega
    | succ m ih=>
      intro hm j hj;rw[ixF]at hm;split at hm
      · rename_i hz
        by_cases hjm:j=m
        · subst hjm;split at hm
          · omega
          · rename_i hf;simpa using hf
        · exact ih (by omega) j (by omega)
      · rename_i hz;have:=(ixF_bd (p:=p) (n:=m)).1;omega
   rw[hn n q k hk]at h;cases h
 · exact q
theorem ix_mem (l:List (List UInt8))(v:List UInt8):decide (0≤ixF (fun i=>l.getD i []==v) l.length)=decide (v ∈ l):=by
 rw[decide_eq_decide];constructor
 · intro h;have:=ixF_bd (p:=fun i=>l.getD i []==v) (n:=l.length);rw[←eq_of_beq (this.2.2 h)];exact getD_mem (by omega)
 · intro h;obtain⟨j,hj,rfl⟩:=mem_getD (d:= []) h;exact lxF_pos hj (by simp)
theorem lz143 (l:List (List UInt8))(hl:l.length≤2^40)(v:List UInt8):FSpec Tryz.prog 204 [.d (strs l),.d (.str v)] [] (fun x r=>x= .d (.int .i64 (ixF (fun i=>l.getD i []==v) l.length))∧r= []):=by
 refine spec_of hT (C:= []) Tryz.func204 rfl Tryz.call204 rfl rfl rfl ?_;conv=>whnf
 refine LoopX.rule hT (C:= []) (ι:=Nat) (fun i=>i≤l.length∧∀j,j<i→(l.getD j []==v)=false) (fun i=>mkSt [(0,.d (strs l)),(1,.d (.str v)),(7,.d (.int .i64 l.length)),(8,.d (.int .i64 i))] []) (fun i=>l.length - i) 0 ⟨by simp,fun j hj=>absurd hj (Nat.not_lt_zero j)⟩ (by exact eAx []) ?_;rintro i ⟨p1,p2⟩;have e1:(i:Int).toNat=i:=Int.toNat_natCast i;conv=>whnf
 repeat' (first|((first|(refine br_intro ?_ ?_<;>intro hb<;>try simp only[brs]at hb)|omega|refine sAx ?_|decide|assumption)<;>conv=>whnf))
 · refine .ret _ ?_;conv=>whnf
   refine⟨[],⟨?_,rfl⟩,trivial⟩;conv=>lhs;whnf
   congr 2
   exact(ixF_hit (by omega) p2 (by rw[←hb];simp)).symm
 · exact⟨i+1,⟨by omega,all_step p2 (beq_eq_false_iff_ne.2 fun q=>hb q.symm)⟩,by omega,(by exact eAx [])⟩
 · refine .ret _ ?_;conv=>whnf
   refine⟨[],⟨?_,rfl⟩,trivial⟩;conv=>lhs;whnf
   congr 2
   have:i=l.length:=by omega
   subst this;exact(ixF_none p2).symm
theorem lz78 (l:List (List UInt8))(hl:l.length≤2^40)(v:List UInt8):FSpec Tryz.prog 172 [.d (strs l),.d (.str v)] [] (fun x r=>x= .d (.bool (decide (v ∈ l)))∧r= []):=by
 refine spec_of hT (C:= []) Tryz.func172 rfl Tryz.call172 rfl rfl rfl ?_;conv=>whnf
 repeat' (first|(refine CallX.exact (lz143 l hl v) rfl rfl ?_;rotate_right;conv=>whnf)|((first|(refine br_intro ?_ ?_<;>intro hb<;>try simp only[brs]at hb)|omega|refine sAx ?_|decide|assumption)<;>conv=>whnf))
 refine .ret _ ?_;conv=>whnf
 refine⟨[],⟨?_,rfl⟩,trivial⟩;conv=>lhs;whnf
 rw[←ix_mem]
theorem atoi_bd {s:List UInt8}{v:Int}(h:Lib.atoiAll s= .ok v): -9223372036854775808≤v∧v≤9223372036854775807:=by
 unfold Lib.atoiAll at h;split at h
 · cases h
 · simp only at h;split at h
   · cases h
   · cases h
   · split at h
     · cases h
     · split at h
       · cases h
       · cases h;rename_i h1 h2;split
         · rename_i hq;simp[hq]at h2;omega
         · rename_i hq;simp[hq]at h1;omega
theorem lz129 (s:List UInt8)(hs:s.length≤2^40):FSpec Tryz.prog 188 [.d (.str s)] kx (fun x r=>x= .tup [.d (.int .i64 (numN s)),.d (.bool (numOk s))]∧r=kx):=by
 refine spec_of hT (C:= []) Tryz.func188 rfl Tryz.call188 rfl rfl rfl ?_;conv=>whnf
 refine oAx (zAtoi s hs) [(1000009,1000009)] ?_;rintro x rout ⟨hx,rfl⟩;unfold atoiX at hx
 cases hA:Lib.atoiAll s with
 | ok v=>
   rw[hA]at hx;simp only at hx;subst hx;obtain⟨hv0,hv1⟩:=atoi_bd hA;refine⟨rfl,?_⟩;conv=>whnf
   repeat' (first|(refine CallX.exact (zTrimP s [45]) rfl rfl ?_;rotate_right;conv=>whnf)|((first|refine CallX.kn (zItoa v hv0 hv1) rfl rfl rfl rfl ?_|(refine br_intro ?_ ?_<;>intro hb<;>try simp only[brs]at hb)|omega|refine sAx ?_|decide|assumption)<;>conv=>whnf))
   · refine .ret _ ?_;conv=>whnf
     refine⟨kx,⟨congrArg SV.tup ?_,rfl⟩,rr,trivial⟩;repeat' (refine cons_eq ?_ ?_)
     all_goals (conv=>lhs;whnf)
     all_goals try(with_reducible rfl)
     · unfold numN;rw[hA]
     · unfold numOk isAtoi;rw[hA];simp[hb];omega
   · refine .ret _ ?_;conv=>whnf
     refine⟨kx,⟨congrArg SV.tup ?_,rfl⟩,rr,trivial⟩;repeat' (refine cons_eq ?_ ?_)
     all_goals (conv=>lhs;whnf)
     all_goals try(with_reducible rfl)
     · unfold numN;rw[hA]
     · unfold numOk isAtoi;rw[hA];simp[hb]
 | range=>
   rw[hA]at hx;simp only at hx;obtain⟨t,p,rfl⟩:=hx;refine⟨rfl,?_⟩;conv=>whnf
   repeat' (first|((first|(refine br_intro ?_ ?_<;>intro hb<;>try simp only[brs]at hb)|omega|refine sAx ?_|decide|assumption)<;>conv=>whnf))
   refine .ret _ ?_;conv=>whnf
   refine⟨kx,⟨congrArg SV.tup ?_,rfl⟩,rr,trivial⟩;repeat' (refine cons_eq ?_ ?_)
   all_goals (conv=>lhs;whnf)
   all_goals try(with_reducible rfl)
   · unfold numN;rw[hA]
   · unfold numOk isAtoi;rw[hA];rfl
 | _=>
   rw[hA]at hx;simp only at hx;obtain⟨t,p,rfl⟩:=hx;refine⟨rfl,?_⟩;conv=>whnf
   repeat' (first|((first|(refine br_intro ?_ ?_<;>intro hb<;>try simp only[brs]at hb)|omega|refine sAx ?_|decide|assumption)<;>conv=>whnf))
   refine .ret _ ?_;conv=>whnf
   refine⟨kx,⟨congrArg SV.tup ?_,rfl⟩,rr,trivial⟩;repeat' (refine cons_eq ?_ ?_)
   all_goals (conv=>lhs;whnf)
   all_goals try(with_reducible rfl)
   · unfold numN;rw[hA]
   · unfold numOk isAtoi;rw[hA];rfl
end Go.Proofs.YtjibpcoeghlnoaaGreatDoor
