/- BooksBalance is proved: for every input the law returns true, and its argument reads afterwards as it read before. Conditions: those of the given row alone. -/
import Derived.Test.YtodakofifpaljaaGreatDoorBbConQua
import Derived.Test.YtodakofifpaljaaGreatDoorBbEngTwo
import Derived.Test.YtodakofifpaljaaGreatDoorBbEngMap
import Derived.Test.YtodakofifpaljaaGreatDoorBbConTwo
import Derived.Test.YtodakofifpaljaaGreatDoorBbConTri
import Derived.Test.YtodakofifpaljaaGreatDoorBbConOne
import Derived.Lib.ItoaNum
import Derived.Lib.AtoiAll
import Derived.Lib.Strings
set_option linter.unusedVariables false
set_option linter.unusedSimpArgs false
set_option maxRecDepth 20000
namespace Go.Proofs.YtodakofifpaljaaGreatDoor
open Go Go.Eng
theorem IF:∀ (k u:Nat),u<10 ^ (k+1)→(Lib.decDigits u).length≤k+1:=by
 intro k
 induction k with
 | zero=>
   intro u h
   rw[Lib.decDigits,dif_pos (by omega)];simp
 | succ k ih=>
   intro u h;rw[Lib.decDigits];split
   · simp
   · have:=ih (u/10) (by rw[Nat.pow_succ]at h;omega);simp;omega
theorem FQ {n:Int}(h0: -2^60≤n)(h1:n≤2^60):(Lib.itoa n).length≤20:=by
 have key:∀u:Nat,u≤2^60→(Lib.decDigits u).length≤19:=fun u hu=>IF 18 u (by omega)
 unfold Lib.itoa;split
 · have:=key n.natAbs (by omega);simp;omega
 · have:=key n.toNat (by omega);omega
set_option maxHeartbeats 4000000 in
theorem PI (n :Nat)(L:Nat→Int)(hL:sB n L)(a:Int)(h0:0≤a)(ha:a≤2^37)(at':Int)(hq1: -2^40≤at')(hq2:at'≤2^40):
 ai Tryz.prog 41 [.ptr 1000000 0,.d (.int .i64 at')] [(1000000,bj n L a),(1000009,KX)] (fun y r=>(∃t:List UInt8,t.length≤2^10∧y= .d (.str t))∧Kq n L a 20 r):=by
 have hI:∀k:Int,-2^60≤k→k≤2^60→(Lib.itoa k).length≤20:=fun k h1 h2=>FQ h1 h2
 refine af hT (C:= []) Tryz.func41 rfl Tryz.call41 rfl rfl rfl ?_;conv=>whnf
 repeat' (first|(refine fz.of (ua n L hL _ ?_ ?_ [[118,49],[118,49],[118,50],[118,51],[110,111,110,101]] (by simp) (by simp)) [(1000000,1000000)] rfl ⟨lr,aj rfl rfl,trivial⟩ ⟨rr,trivial⟩ rfl rfl ?_;rotate_right;rintro x rout ⟨⟨u0,hu0,rfl⟩,⟨c,c1,c2,rfl⟩⟩;have hw0:=bV hu0 rfl;refine⟨rfl,?_⟩;conv=>whnf)|(refine fz.of (ua n L hL _ ?_ ?_ [[115,49],[115,49],[115,49],[115,50],[115,57]] (by simp) (by simp)) [(1000000,1000000)] rfl ⟨lr,aj rfl rfl,trivial⟩ ⟨rr,trivial⟩ rfl rfl ?_;rotate_right;rintro x rout ⟨⟨u1,hu1,rfl⟩,⟨c,c1,c2,rfl⟩⟩;have hw1:=bV hu1 rfl;refine⟨rfl,?_⟩;conv=>whnf)|(refine fz.of (ua n L hL _ ?_ ?_ [[104,49],[104,49],[104,50],[104,51],[65]] (by simp) (by simp)) [(1000000,1000000)] rfl ⟨lr,aj rfl rfl,trivial⟩ ⟨rr,trivial⟩ rfl rfl ?_;rotate_right;rintro x rout ⟨⟨u2,hu2,rfl⟩,⟨c,c1,c2,rfl⟩⟩;have hw2:=bV hu2 rfl;refine⟨rfl,?_⟩;conv=>whnf)|(refine fz.of (ua n L hL _ ?_ ?_ [[115,104,111,112],[100,111,110,101],[99,111,109,101],[103,111,110,101]] (by simp) (by simp)) [(1000000,1000000)] rfl ⟨lr,aj rfl rfl,trivial⟩ ⟨rr,trivial⟩ rfl rfl ?_;rotate_right;rintro x rout ⟨⟨u3,hu3,rfl⟩,⟨c,c1,c2,rfl⟩⟩;have hw3:=bV hu3 rfl;refine⟨rfl,?_⟩;conv=>whnf)|(refine fz.of (ua n L hL _ ?_ ?_ [[115,50],[115,49],[115,57]] (by simp) (by simp)) [(1000000,1000000)] rfl ⟨lr,aj rfl rfl,trivial⟩ ⟨rr,trivial⟩ rfl rfl ?_;rotate_right;rintro x rout ⟨⟨u4,hu4,rfl⟩,⟨c,c1,c2,rfl⟩⟩;have hw4:=bV hu4 rfl;refine⟨rfl,?_⟩;conv=>whnf)|(refine fz.of (ua n L hL _ ?_ ?_ [[109,105,110,105],[109,105,100,105],[110,111,110,101]] (by simp) (by simp)) [(1000000,1000000)] rfl ⟨lr,aj rfl rfl,trivial⟩ ⟨rr,trivial⟩ rfl rfl ?_;rotate_right;rintro x rout ⟨⟨u5,hu5,rfl⟩,⟨c,c1,c2,rfl⟩⟩;have hw5:=bV hu5 rfl;refine⟨rfl,?_⟩;conv=>whnf)|(refine fz.of (ua n L hL _ ?_ ?_ [[53,48],[49,48,48],[49,48,49]] (by simp) (by simp)) [(1000000,1000000)] rfl ⟨lr,aj rfl rfl,trivial⟩ ⟨rr,trivial⟩ rfl rfl ?_;rotate_right;rintro x rout ⟨⟨u6,hu6,rfl⟩,⟨c,c1,c2,rfl⟩⟩;have hw6:=bV hu6 rfl;refine⟨rfl,?_⟩;conv=>whnf)|(refine fz.of (ua n L hL _ ?_ ?_ [[48],[49,48,48],[57,57,57,57,57,48]] (by simp) (by simp)) [(1000000,1000000)] rfl ⟨lr,aj rfl rfl,trivial⟩ ⟨rr,trivial⟩ rfl rfl ?_;rotate_right;rintro x rout ⟨⟨u7,hu7,rfl⟩,⟨c,c1,c2,rfl⟩⟩;have hw7:=bV hu7 rfl;refine⟨rfl,?_⟩;conv=>whnf)|(refine fz.of (ua n L hL _ ?_ ?_ [[56],[52],[57]] (by simp) (by simp)) [(1000000,1000000)] rfl ⟨lr,aj rfl rfl,trivial⟩ ⟨rr,trivial⟩ rfl rfl ?_;rotate_right;rintro x rout ⟨⟨u8,hu8,rfl⟩,⟨c,c1,c2,rfl⟩⟩;have hw8:=bV hu8 rfl;refine⟨rfl,?_⟩;conv=>whnf)|(refine fz.of (ua n L hL _ ?_ ?_ [[53],[51,48,48],[52,48,48]] (by simp) (by simp)) [(1000000,1000000)] rfl ⟨lr,aj rfl rfl,trivial⟩ ⟨rr,trivial⟩ rfl rfl ?_;rotate_right;rintro x rout ⟨⟨u9,hu9,rfl⟩,⟨c,c1,c2,rfl⟩⟩;have hw9:=bV hu9 rfl;refine⟨rfl,?_⟩;conv=>whnf)|(refine fz.of (ua n L hL _ ?_ ?_ [[56],[50]] (by simp) (by simp)) [(1000000,1000000)] rfl ⟨lr,aj rfl rfl,trivial⟩ ⟨rr,trivial⟩ rfl rfl ?_;rotate_right;rintro x rout ⟨⟨u10,hu10,rfl⟩,⟨c,c1,c2,rfl⟩⟩;have hw10:=bV hu10 rfl;refine⟨rfl,?_⟩;conv=>whnf)|(refine fz.of (jL n L hL _ ?_ ?_ [10,60,1440,2000,-5] (by simp) (by simp)) [(1000000,1000000)] rfl ⟨lr,aj rfl rfl,trivial⟩ ⟨rr,trivial⟩ rfl rfl ?_;rotate_right;rintro x rout ⟨⟨n1,hn1,rfl⟩,⟨c,c1,c2,rfl⟩⟩;have hm1:=Fl hn1 rfl;have hm1a:=hm1.1;have hm1b:=hm1.2;refine⟨rfl,?_⟩;conv=>whnf)|(refine fz.of (jL n L hL _ ?_ ?_ [0,10,100] (by simp) (by simp)) [(1000000,1000000)] rfl ⟨lr,aj rfl rfl,trivial⟩ ⟨rr,trivial⟩ rfl rfl ?_;rotate_right;rintro x rout ⟨⟨n2,hn2,rfl⟩,⟨c,c1,c2,rfl⟩⟩;have hm2:=Fl hn2 rfl;have hm2a:=hm2.1;have hm2b:=hm2.2;refine⟨rfl,?_⟩;conv=>whnf)|(refine fz.of (EP n L hL _ ?_ ?_ _ ?_) [(1000000,1000000)] rfl ⟨lr,lr,trivial⟩ ⟨rr,trivial⟩ rfl rfl ?_;rotate_right;rintro x rout ⟨⟨j,hj1,hj2,hj3,rfl⟩,⟨c,c1,c2,rfl⟩⟩;refine⟨rfl,?_⟩;conv=>whnf)|((first|refine lW (Jw _ (by omega) (by omega)) rfl rfl rfl rfl ?_|(refine fz.of (ua n L hL _ (by omega) (by omega) [_,_,_,_,_,_,_,_] (by simp) (by simp)) [(1000000,1000000)] rfl ⟨lr,aj rfl rfl,trivial⟩ ⟨rr,trivial⟩ rfl rfl ?_;rintro x rout ⟨⟨z,hz,rfl⟩,⟨c9,c91,c92,rfl⟩⟩;refine⟨rfl,?_⟩)|(refine And.intro (by simp only[List.length_append,List.toList_toArray,List.length_cons,List.length_nil];have i1:=hI (at'+n1) (by omega) (by omega);first|omega|(have i2:=hI (at'+n2) (by omega) (by omega);omega)) ?_)|(refine aa ?_ ?_<;>intro hb<;>try simp only[az]at hb)|omega|refine aA ?_|decide|assumption)<;>conv=>whnf))
 all_goals refine .ret _ ?_
 all_goals conv=>whnf
 all_goals refine⟨[(1000000,bj n L _),(1000009,KX)],⟨⟨_,?_,rfl⟩,⟨_,?_,?_,rfl⟩⟩,rr,rr,trivial⟩
 all_goals first
  |omega
  | (have i1:=hI (at'+n1) (by omega) (by omega)
     first
      | (simp only[List.length_append,List.toList_toArray,List.length_cons,List.length_nil]
         first
          |omega
          |(have i2:=hI (at'+n2) (by omega) (by omega);omega))
      | (simp only[List.mem_cons,List.not_mem_nil,or_false]at hz
         rcases hz with rfl|rfl|rfl|rfl|rfl|rfl|rfl|rfl<;>simp only[List.length_append,List.toList_toArray,List.length_cons,List.length_nil]<;>omega))
def vN:OL:= [(0,[]),(1,[0]),(2,[0,1]),(3,[0,1,2]),(4,[0,1]),(5,rg 5),(6,rg 6),(9,rg 7),(7,[0,1,2,3,4,9]),(8,[9]),(10,[])]
abbrev OU (l:List bx):aY:=aM 129 4 iu dQ l
def bW:List DV→List UInt8
 | [.str s]=>s
 |_=> []
abbrev QJ (g:List UInt8→Int):aY:=.map false false [.str] [.int .i64 0] (fun K=>decide (0<g (bW K))) (fun K=> [.int .i64 (g (bW K))])
def JE (g:List UInt8→Int)(x:List UInt8):List UInt8→Int:=fun s=>if s=x then g x+1 else g s
theorem fa {K:List DV}(h:wk [.str] K=true):∃s,K= [.str s]:=by
 match K,h with
 | [.str s],_=>exact⟨s,rfl⟩
theorem K5 {g:List UInt8→Int}{x:List UInt8}(h0:∀k,0≤g k):
 aY.le (.map false false [.str] [.int .i64 0] (fun q=>ay q [.str x]||decide (0<g (bW q))) (fun q=>bif ay q [.str x]then [.int .i64 (g x+1)]else [.int .i64 (g (bW q))])) (QJ (JE g x)):=bC fun K hK=>by
 obtain⟨s,rfl⟩:=fa hK
 have e:ay [.str s] [.str x]=decide (s=x):=by
  rw[Bool.eq_iff_iff];simp[ay,dl]
 rw[e];show(decide (s=x)||decide (0<g s))=decide (0<JE g x s)∧(bif decide (s=x)then [DV.int .i64 (g x+1)]else [.int .i64 (g s)])= [.int .i64 (JE g x s)];unfold JE
 by_cases q:s=x
 · subst q;have:=h0 s;simp;omega
 · simp[q]
theorem m9 (x:List UInt8):ay [.str x] [.str x]=true:=by simp[ay,dl]
def Gz (x:bx):Prop:=(x.desk.length≤8∧x.words.length≤2^10)∧Bd x
theorem NW {u:Int}(h:u ∈ ([0,1,5,10,100,500]:List Int)):0≤u∧u≤500:=by
 simp only[List.mem_cons,List.not_mem_nil,or_false]at h;omega
set_option maxHeartbeats 4000000 in
theorem Q0 (n:Nat)(L:Nat→Int)(hL:sB n L)(a:Int)(h0:0≤a)(ha:a≤2^36)(m:Int)(hm1:0≤m)(hm2:m≤20):
 ai Tryz.prog 20 [.ptr 1000000 0,.d (.int .i64 m)] [(1000000,bj n L a),(1000009,KX)] (fun y r=>∃l:List bx,∃b,dW Gz m.toNat l∧(a≤b∧b≤a+1000)∧y= .buf 5∧r= [(5,OU l),(1000000,bj n L b),(1000009,KX)]):=by
 refine af hT (C:= []) Tryz.func20 rfl Tryz.call20 rfl rfl rfl ?_;conv=>whnf
 refine ah hT (C:= []) (ι:=Int×List bx×Nat×Int×(List UInt8→Int)) (fun(b,l,k,t,g)=>(a≤b∧b≤a+50*k∧(k:Int)≤m)∧dW Gz k l∧(0≤t∧t≤2000*k)∧(∀s,0≤g s∧g s≤k))
  (fun(b,l,k,t,g)=>aN [(0,.ptr 1000000 0),(5,.buf 5),(6,.d (.int .i64 t)),(7,.mp 7),(11,.d (.int .i64 m)),(12,.d (.int .i64 k))] [(1000000,bj n L b),(1000009,KX),(5,OU l),(7,QJ g)])
  (fun(_,_,k,_,_)=>30 - k) (a,[],0,0,fun _=>0) ⟨⟨by simp,by simp,by simpa using hm1⟩,⟨by simp,by simp⟩,⟨by simp,by simp⟩,by simp⟩ ?_ ?_
 · refine(dv.nil 5 5 129 4 (aV iu dQ []) rfl rfl (by decide)).trans (ae [(1000000,1000000),(1000009,1000009),(5,5),(7,10)] rfl rfl ⟨lr,lr,lr,lr,lr,lr,trivial⟩ ⟨rr,rr,rr,bC (fun key hk=> ?_),trivial⟩);obtain⟨s,rfl⟩:=fa hk;exact⟨rfl,rfl⟩
 rintro⟨b,l,k,t,g⟩ ⟨⟨p1,p2,p3⟩,q1,⟨q2,q3⟩,q4⟩;have p1:a≤b:=p1;have p2:b≤a+50*k:=p2;have p3:(k:Int)≤m:=p3;have q2:0≤t:=q2;have q3:t≤2000*k:=q3;have hl1:=q1.1;conv=>whnf
 repeat' (first|(refine fz.of (jL n L hL _ ?_ ?_ [0,1,5,10,100,500] (by simp) (by simp)) [(1000000,1000000)] rfl ⟨lr,aj rfl rfl,trivial⟩ ⟨rr,trivial⟩ rfl rfl ?_;rotate_right;rintro x rout ⟨⟨u1,hu1,rfl⟩,⟨c,c1,c2,rfl⟩⟩;have hb1:=NW hu1;have hb2:=hb1.1;have hb3:=hb1.2;refine⟨rfl,?_⟩;conv=>whnf)|(refine fz.of (ua n L hL _ ?_ ?_ [[100,49],[100,49],[100,50],[100,51]] (by simp) (by simp)) [(1000000,1000000)] rfl ⟨lr,aj rfl rfl,trivial⟩ ⟨rr,trivial⟩ rfl rfl ?_;rotate_right;rintro x rout ⟨⟨u2,hu2,rfl⟩,⟨c,c1,c2,rfl⟩⟩;have hg2:=q4 u2;have hg3:0≤g (bW [DV.str u2]):=hg2.1;have hg4:g (bW [DV.str u2])≤k:=hg2.2;have hw2:=bV hu2 rfl;refine⟨rfl,?_⟩;conv=>whnf)|(refine fz.of (ua n L hL _ ?_ ?_ [[],[65]] (by simp) (by simp)) [(1000000,1000000)] rfl ⟨lr,aj rfl rfl,trivial⟩ ⟨rr,trivial⟩ rfl rfl ?_;rotate_right;rintro x rout ⟨⟨u3,hu3,rfl⟩,⟨c,c1,c2,rfl⟩⟩;have hw3:=bV hu3 rfl;refine⟨rfl,?_⟩;conv=>whnf)|(refine fz.of (ua n L hL _ ?_ ?_ [[],[97,10],[195]] (by simp) (by simp)) [(1000000,1000000)] rfl ⟨lr,aj rfl rfl,trivial⟩ ⟨rr,trivial⟩ rfl rfl ?_;rotate_right;rintro x rout ⟨⟨u4,hu4,rfl⟩,⟨c,c1,c2,rfl⟩⟩;have hw4:=bV hu4 rfl;refine⟨rfl,?_⟩;conv=>whnf)|(refine fz.of (oe n L hL _ ?_ ?_ 0 1000 ?_ ?_ ?_) [(1000000,1000000)] rfl ⟨lr,lr,lr,trivial⟩ ⟨rr,trivial⟩ rfl rfl ?_;rotate_right;rintro x rout ⟨⟨u5,hk1,hk2,rfl⟩,⟨c,c1,c2,rfl⟩⟩;refine⟨rfl,?_⟩;conv=>whnf)|(refine fz.of (oe n L hL _ ?_ ?_ 1 1000000 ?_ ?_ ?_) [(1000000,1000000)] rfl ⟨lr,lr,lr,trivial⟩ ⟨rr,trivial⟩ rfl rfl ?_;rotate_right;rintro x rout ⟨⟨u6,hk3,hk4,rfl⟩,⟨c,c1,c2,rfl⟩⟩;refine⟨rfl,?_⟩;conv=>whnf)|(refine fz.of (CD n L hL _ ?_ ?_ _ ?_) [(1000000,1000000)] rfl ⟨lr,lr,trivial⟩ ⟨rr,trivial⟩ rfl rfl ?_;rotate_right;rintro x rout ⟨⟨f,rfl⟩,⟨c,c1,c2,rfl⟩⟩;refine⟨rfl,?_⟩;conv=>whnf)|(refine fz.of (EP n L hL _ ?_ ?_ _ ?_) [(1000000,1000000)] rfl ⟨lr,lr,trivial⟩ ⟨rr,trivial⟩ rfl rfl ?_;rotate_right;rintro x rout ⟨⟨j,hj1,hj2,hj3,rfl⟩,⟨c,c1,c2,rfl⟩⟩;refine⟨rfl,?_⟩;conv=>whnf)|((first|(refine fz.of (PI n L hL _ (by omega) (by omega) (t+u1) (by omega) (by omega)) [(1000000,1000000),(1000009,1000009)] rfl ⟨lr,lr,trivial⟩ ⟨rr,rr,trivial⟩ rfl rfl ?_;rintro x rout ⟨⟨w,hw,rfl⟩,⟨c5,c51,c52,rfl⟩⟩;refine⟨rfl,?_⟩)|refine And.intro (rfl:aK _=some [DV.int .i64 0]) ?_)<;>conv=>whnf)|(simp only[Nat.beq_refl,cond_true];conv=>whnf)|(rw[m9,cond_true];conv=>whnf)|((first|(refine aa ?_ ?_<;>intro hb<;>try simp only[az]at hb)|refine aw hT 9 vN ?_|omega|refine aA ?_|decide|assumption)<;>conv=>whnf))
 all_goals first
  | (refine⟨(_,_,k+1,_,JE g u2),?_,?_,ae [(1000000,1000000),(1000009,1000009),(5,62),(7,7)] rfl rfl ⟨lr,lr,lr,lr,lr,lr,trivial⟩ ⟨rr,rr,aR (x:=⟨_,_,_,_⟩) rfl,K5 (fun s=>(q4 s).1),trivial⟩⟩
     · dsimp only
       refine⟨⟨by omega,by omega,by omega⟩,fi q1 (Nat.le_refl _) ⟨⟨?_,?_⟩,⟨?_,?_⟩,?_,?_⟩,⟨by omega,by omega⟩,fun s=> ?_⟩
       · first
          |exact hw2
          |exact hw3
       · first
          |exact hw
          |exact Nat.le_trans hw4 (by omega)
       · (try dsimp only);omega
       · (try dsimp only);omega
       · (try dsimp only);omega
       · (try dsimp only);omega
       · have z1:=q4 s;have z2:=q4 u2;show 0≤JE g u2 s∧JE g u2 s≤((k+1:Nat):Int);unfold JE;split<;>omega
     · show 30 - (k+1)<30 - k;omega)
  |skip
 refine cj (Ms 44 gg l (by omega) (fun p q hp hq=>NM p q (q1.2 p hp).2 (q1.2 q hq).2)) [(1000001,5)] ?_;rintro x rout ⟨rfl,e,he,rfl⟩;refine⟨rfl,?_⟩;have he1:=he.1;conv=>whnf
 repeat' (first|((first|(refine aa ?_ ?_<;>intro hb<;>try simp only[az]at hb)|refine aw hT 9 vN ?_|omega|refine aA ?_|decide|assumption)<;>conv=>whnf))
 refine .ret _ ?_;conv=>whnf
 exact⟨[(5,OU e),(1000000,bj n L b),(1000009,KX)],⟨e,b,⟨by omega,fun p hp=>q1.2 p (he.2 p hp)⟩,⟨by omega,by omega⟩,rfl,rfl⟩,rr,rr,rr,trivial⟩
theorem CT {l:List bx}{k:Nat}(h:dW Gz k l)(hk:k≤2^20):Ci l:=
 ⟨by have:=h.1;omega,fun x hx=>by
   obtain⟨⟨h1,h2⟩,h3⟩:=h.2 x hx
   exact⟨⟨by omega,by omega⟩,h3⟩⟩
end Go.Proofs.YtodakofifpaljaaGreatDoor
namespace Go.Eng
open Go
variable {A:nv} {G:Hp} {β:fk} {s:St} {t:Array Value} {w:World}
theorem wX.ent {P:Program}{id:Nat}{ops:Array Oper}{k:St→Prop}{s s':St}(he:dv s s')(h:wX P id ops k s'):wX P id ops k s:=
 ⟨fun A a w hN hm=>h.wp A a w hN (he.imp A a w hm)⟩
theorem MG.counted (h:MG A G β s t w){d:Nat}{ag va:Bool}{ks:List KK}{zr:List DV}{has:List DV→Bool}{val:List DV→List DV}(hd:s.res d=some (.map ag va ks zr has val)):
 ∃clock kb,KB ks has clock kb∧MG A G β (s.app ⟨none,.any,[(d,some (.mapB ag va ks zr has val clock kb))],[]⟩) t w:=by
 obtain⟨r,es,clock,l,hb,hh,hl,hw,hI,hf⟩:=h.rs _ _ hd;exact⟨clock,_,y3 hl hw hI hf,h.change (d:=d) (r':=.mapB ag va ks zr has val clock ((l.map (·.1)).zip (es.toList.map (·.born)))) (v:=.map (some r)) (w':=w) hd rfl rfl hb rfl rfl rfl rfl (fun _ _=>rfl) ⟨r,es,l,hb,hh,hl,hw,hI,rfl,hf⟩⟩
theorem pA {P:Program}{id:Nat}{ops:Array Oper}{k:St→Prop}{s:St}(d:Nat){ag va:Bool}{ks:List KK}{zr:List DV}{has:List DV→Bool}{val:List DV→List DV}(hd:s.res d=some (.map ag va ks zr has val))
 (h:∀clock kb,KB ks has clock kb→wX P id ops k (s.app ⟨none,.any,[(d,some (.mapB ag va ks zr has val clock kb))],[]⟩)):wX P id ops k s:=by
 refine⟨fun A a w hN=> ?_⟩;rintro⟨h0,G,β,hm⟩;obtain⟨clock,kb,hk,hm'⟩:=hm.counted hd;exact(h clock kb hk).wp A a w hN ⟨h0,G,β,hm'⟩
theorem dv.unc {s:St}(d:Nat){ag va:Bool}{ks:List KK}{zr:List DV}{has:List DV→Bool}{val:List DV→List DV}{clock:Nat}{kb:List (List DV×Nat)}(hd:s.res d=some (.mapB ag va ks zr has val clock kb)):
 dv s (s.app ⟨none,.any,[(d,some (.map ag va ks zr has val))],[]⟩):=by
 refine⟨fun A a w=> ?_⟩;rintro⟨h0,G,β,h⟩;obtain⟨r,es,l,hb,hh,hl,hw,hI,hkb,hf⟩:=h.rs _ _ hd;exact⟨h0,G,β,h.change (d:=d) (r':=.map ag va ks zr has val) (v:=.map (some r)) (w':=w) hd rfl rfl hb rfl rfl rfl rfl (fun _ _=>rfl) ⟨r,es,clock,l,hb,hh,hl,hw,hI,hf⟩⟩
theorem wX.unc {P:Program}{id:Nat}{ops:Array Oper}{k:St→Prop}{s:St}(d:Nat){ag va:Bool}{ks:List KK}{zr:List DV}{has:List DV→Bool}{val:List DV→List DV}{clock:Nat}{kb:List (List DV×Nat)}(hd:s.res d=some (.mapB ag va ks zr has val clock kb))
 (h:wX P id ops k (s.app ⟨none,.any,[(d,some (.map ag va ks zr has val))],[]⟩)):wX P id ops k s:=.ent (.unc d hd) h
theorem lU {α:Type}:∀ (l L:List α),l.Nodup→(∀x ∈ l,x ∈ L)→l.length≤L.length:=by
 intro l
 induction l with
 |nil=>intro L _ _;simp
 | cons x l ih=>
   intro L hn hL;obtain⟨A,B,rfl⟩:=List.append_of_mem (hL x (by simp));rw[List.nodup_cons]at hn
   have:=ih (A++B) hn.2 (fun y hy=>by
    have h1:=hL y (by simp[hy]);rw[List.mem_append,List.mem_cons]at h1;rcases h1 with q|q|q
    · exact List.mem_append_left _ q
    · subst q;exact absurd hy hn.1
    · exact List.mem_append_right _ q)
   simp at this ⊢;omega
theorem KB.le {ks:List KK}{has:List DV→Bool}{clock:Nat}{kb:List (List DV×Nat)}(h:KB ks has clock kb):∀ (L:List (List DV)),(∀key,wk ks key=true→has key=true→key ∈ L)→kb.length≤L.length:=by
 intro L hL
 have hs:∀x ∈ kb.map (·.1),x ∈ L:=fun x hx=>by
  obtain⟨p,hp,rfl⟩:=List.mem_map.1 hx;exact hL _ (h.kw p hp) ((h.kh _ (h.kw p hp)).2 ⟨p.2,hp⟩)
 have hn:(kb.map (·.1)).Nodup:=by
  have hw:∀x ∈ kb.map (·.1),wk ks x=true:=fun x hx=>by
   obtain⟨p,hp,rfl⟩:=List.mem_map.1 hx;exact h.kw p hp
  refine List.Pairwise.imp_of_mem (fun{a b} ha _ hab=> ?_) h.kd;rintro rfl;rw[bJ (hw a ha)]at hab;cases hab
 have:=lU _ _ hn hs;simpa using this
theorem lC {s:St}(c d j:Nat){ce:TypeId}{l:List SV}{k n:Nat}{g:Nat→List DV}(hc:s.res c=some (.cells ce l))(hj:l[j]? =some (.buf d))(hd:s.res d=some (.fro k n g)):
 dv s (s.app ⟨none,.any,[(c,some (.cells ce (l.set j (.d (.ro k n g)))))],[]⟩):=by
 refine⟨fun A a w=> ?_⟩;rintro⟨h0,G,β,h⟩;obtain⟨b,vs,hb,hh,hl,hv⟩:=h.rs _ _ hc;obtain⟨v,hv1,hv2⟩:=h.rs _ _ hd;refine⟨h0,G,β,h.change (d:=c) (r':=.cells ce (l.set j (.d (.ro k n g)))) (v:=.pointer (some ⟨b,0,none⟩)) (w':=w) hc rfl rfl hb rfl rfl rfl rfl (fun _ _=>rfl) ⟨b,vs,hb,hh,by simpa using hl,fun i x u hx hu=> ?_⟩⟩
 by_cases q:i=j
 · subst q;have hlt:i<l.length:=(List.getElem?_eq_some_iff.1 hj).1;rw[List.getElem?_set_self hlt]at hx;cases hx;have:=hv i _ u hj hu
   cases this with|buf _ _ hb2 _=>
   rw[hv1]at hb2;cases hb2;exact .d _ _ hv2
 · rw[List.getElem?_set_ne (fun e=>q e.symm)]at hx;exact hv i x u hx hu
end Go.Eng
set_option maxRecDepth 20000
namespace Go.Proofs.YtodakofifpaljaaGreatDoor
open Go Go.Eng
def Aj:OL:= [(0,[]),(1,[]),(2,[0,1]),(3,[]),(4,[])]
def BH:OL:= [(0,[]),(1,[]),(2,[]),(3,[0,1,2]),(4,[])]
def xK:OL:= [(0,[]),(1,[]),(2,[]),(3,[0,1,2]),(4,[])]
def yK:OL:= [(0,[]),(1,[]),(2,[0,1]),(3,[0,1,2]),(4,[2]),(5,[])]
def Bl:OL:= [(0,[]),(1,[]),(2,[]),(3,[]),(4,rg 4),(5,rg 4),(6,[]),(7,rg 7),(12,rg 8),(8,[12]),(9,[12]),(10,[12]),(11,[12,10]),(13,[11]),(14,[])]
def Bq:OL:= [(0,[]),(1,[]),(2,[]),(3,[]),(4,rg 4),(5,rg 4),(6,rg 6),(7,rg 6),(8,rg 4),(9,[]),(11,rg 10),(12,rg 10),(10,[11,12]),(13,[]),(14,[]),(15,[]),(16,[])]
def BO:OL:= [(0,[]),(1,[]),(2,[]),(3,[]),(4,rg 4),(5,rg 4),(6,rg 6),(7,rg 6),(8,rg 6),(9,rg 6),(10,rg 10),(11,rg 10),(12,rg 6),(13,rg 13),(14,rg 6),(15,rg 6),(16,rg 6),(17,[0,1,2,3,4,5,16]),(18,[17])]
def B7:OL:= [(0,[]),(1,[]),(2,[]),(3,[]),(4,rg 4),(5,rg 4),(6,rg 6),(7,rg 6),(8,rg 4),(9,[])]
def BR:OL:= [(0,[]),(1,[0]),(2,[0]),(3,[0]),(4,[0]),(5,rg 5),(6,rg 5),(7,[0]),(8,[]),(9,[]),(10,[])]
structure Mp (α:Type) where
 has:List UInt8→Bool
 val:List UInt8→α
def Mp.put {α:Type}(m:Mp α)(x:List UInt8)(v:α):Mp α:=⟨fun s=>decide (s=x)||m.has s,fun s=>if s=x then v else m.val s⟩
def Mp.del {α:Type}(m:Mp α)(x:List UInt8)(z:α):Mp α:=⟨fun s=> !decide (s=x)&&m.has s,fun s=>if s=x then z else m.val s⟩
def Mp.nil {α:Type}(z:α):Mp α:=⟨fun _=>false,fun _=>z⟩
abbrev e8 {α:Type}(va:Bool)(z:List DV)(f:α→List DV)(m:Mp α):aY:=.map false va [.str] z (fun K=>m.has (bW K)) (fun K=>f (m.val (bW K)))
theorem m7 (s x:List UInt8):ay [.str s] [.str x]=decide (s=x):=by
 rw[Bool.eq_iff_iff];simp[ay,dl]
theorem fK {α:Type}{va:Bool}{z:List DV}{f:α→List DV}{m:Mp α}{x:List UInt8}{v:α}:
 aY.le (.map false va [.str] z (fun q=>ay q [.str x]||m.has (bW q)) (fun q=>bif ay q [.str x]then f v else f (m.val (bW q)))) (e8 va z f (m.put x v)):=bC fun K hK=>by
 obtain⟨s,rfl⟩:=fa hK;rw[m7];refine⟨rfl,?_⟩;show(bif decide (s=x)then f v else f (m.val s))=f (if s=x then v else m.val s)
 by_cases q:s=x<;>simp[q]
theorem wy {α:Type}{va:Bool}{z:α}{f:α→List DV}{m:Mp α}{x:List UInt8}:
 aY.le (.map false va [.str] (f z) (fun q=> !ay q [.str x]&&m.has (bW q)) (fun q=>bif ay q [.str x]then f z else f (m.val (bW q)))) (e8 va (f z) f (m.del x z)):=bC fun K hK=>by
 obtain⟨s,rfl⟩:=fa hK;rw[m7];refine⟨rfl,?_⟩;show(bif decide (s=x)then f z else f (m.val s))=f (if s=x then z else m.val s)
 by_cases q:s=x<;>simp[q]
structure AU where
 key:List UInt8
 cls:List UInt8
 frm:Int
 to:Int
 made:Int
 pct:Int
def lO:AU→List DV:=fun b=> [.str b.key,.str b.cls,.int .i64 b.frm,.int .i64 b.to,.int .i64 b.made,.int .i64 b.pct]
def lJ:AU:=⟨[],[],0,0,0,0⟩
abbrev D9 (l:List AU):DV:=dD 6 lO lJ l
structure cO where
 tm:Int
 veh:List UInt8
 st:List UInt8
 kind:Int
 to:List UInt8
def iB:cO→List DV:=fun x=> [.int .i64 x.tm,.str x.veh,.str x.st,.int .i64 x.kind,.str x.to]
def dt:cO:=⟨0,[],[],0,[]⟩
abbrev wP (l:List cO):DV:=dD 5 iB dt l
abbrev Hi (l:List cO):aY:=aM 198 5 iB dt l
structure ES where
 k:Int
 st:List UInt8
 sin:Int
def kB:ES→List DV:=fun s=> [.int .i64 s.k,.str s.st,.int .i64 s.sin]
def oC:ES:=⟨0,[],0⟩
structure BI where
 ent:Int
 why:Int
def QR:BI→List DV:=fun r=> [.int .i64 r.ent,.int .i64 r.why]
def QO:BI:=⟨0,0⟩
abbrev Jt (l:List BI):aY:=aM 195 2 QR QO l
def gG (s:ES)(x:cO):Bool:=
 if x.kind=1 then decide (s.k=0)else if x.kind=2 then decide (s.k=1)&&decide (s.st=x.st)else if x.kind=3 then decide (s.k=2)
 else if x.kind=4 then decide (s.k=1)&&decide (s.st=x.st)else if x.kind=5 then decide (s.k=3)&&decide (s.st=x.st)
 else if x.kind=6 then decide (s.k=1)&&decide (s.st=x.st)else if x.kind=7 then decide (s.k=4)&&decide (s.st=x.st)
 else if x.kind=8 then decide (s.k=1)&&decide (s.st=x.st)else false
def lM (s:ES)(x:cO):ES:=
 if gG s x then(if x.kind=2 then⟨2,[],x.tm⟩else if x.kind=4 then⟨3,x.st,x.tm⟩else if x.kind=6 then⟨4,x.to,x.tm⟩else if x.kind=8 then⟨5,[],x.tm⟩else⟨1,x.st,x.tm⟩)else s
def Rk:Option cy→DV
 |some h=>legs h.legs
 |none=>.nilsl
def dO (o:Option cy):List DV:= [.str (o.elim [] (·.key)),.str (o.elim [] (·.drv)),.int .i64 (o.elim 0 (·.frm)),.int .i64 (o.elim 0 (·.to)),Rk o]
theorem dq {va:Bool}{row row':List DV}{k:SV→Prop}(h:row=row')(hk:lS va row' k):lS va row k:=by rw[h];exact hk
structure dA where
 sts:Mp ES
 log:List cO
 ats:List UInt8→Int→Bool
 bks:Mp AU
 his:Mp (Option cy)
 paid:Mp Int
 ref:List BI
def pH:List UInt8→List DV:=fun s=> [.str s]
def Er:Int→List DV:=fun n=> [.int .i64 n]
def Hj:Bool→List DV:=fun b=> [.bool b]
def atH (a:List UInt8→Int→Bool):List DV→Bool
 | [.str v,.int .i64 t]=>a v t
 |_=>false
abbrev Ft (a:List UInt8→Int→Bool):aY:=.map true false [.str,.int .i64] [.bool false] (atH a) (fun K=> [.bool (atH a K)])
def Da (a:List UInt8→Int→Bool)(v:List UInt8)(t:Int):List UInt8→Int→Bool:=fun w u=>(decide (w=v)&&decide (u=t))||a w u
theorem Ic {a:List UInt8→Int→Bool}{v:List UInt8}{t:Int}:
 aY.le (.map true false [.str,.int .i64] [.bool false] (fun q=>ay q [.str v,.int .i64 t]||atH a q) (fun q=>bif ay q [.str v,.int .i64 t]then [.bool true]else [.bool (atH a q)])) (Ft (Da a v t)):=bC fun K hK=>by
 obtain⟨s,n,rfl⟩:=CF hK
 have e:ay [.str s,.int .i64 n] [.str v,.int .i64 t]=(decide (s=v)&&decide (n=t)):=by
  rw[Bool.eq_iff_iff];simp[ay,dl]
 rw[e];refine⟨rfl,?_⟩;show(bif decide (s=v)&&decide (n=t)then [DV.bool true]else [.bool (a s n)])= [.bool ((decide (s=v)&&decide (n=t))||a s n)];cases (decide (s=v)&&decide (n=t))<;>rfl
abbrev uN (h:ed):List SV:=Nm h.flt++uA h.tar++(wW h.dea).map .d
abbrev Ku (h:ed):aY:=.cells 101 (uN h++ [.mp 1000002,.mp 1000003,.mp 1000004,.buf 1000005,.mp 1000006,.mp 1000007,.mp 1000008,.mp 1000010,.buf 1000011])
abbrev iS (h:ed)(vm:Mp (List UInt8))(sm:Mp Bool)(s:dA):List (Nat×aY):=
 [(1000001,Ku h),(1000002,e8 false [.str []] pH vm),(1000003,e8 false [.bool false] Hj sm),(1000004,e8 true (kB oC) kB s.sts),(1000005,Hi s.log),(1000006,Ft s.ats),(1000007,e8 true (lO lJ) lO s.bks),(1000008,e8 true (dO none) dO s.his),(1000010,e8 false [.int .i64 0] Er s.paid),(1000011,Jt s.ref)]
set_option maxHeartbeats 2000000 in
theorem Kt (s:ES)(x:cO):ai Tryz.prog 246 [.agg ((kB s).map .d),.agg ((iB x).map .d)] [] (fun y r=>y= .tup [.agg ((kB (lM s x)).map .d),.d (.bool (gG s x))]∧r= []):=by
 refine af hT (C:= []) Tryz.func246 rfl Tryz.call246 rfl rfl rfl ?_;conv=>whnf
 repeat' (first|((first|(refine aa ?_ ?_<;>intro hb<;>try simp only[az]at hb)|refine aw hT 3 Aj ?_|refine aw hT 6 BH ?_|refine aw hT 10 xK ?_|refine aw hT 16 yK ?_|omega|refine aA ?_|decide|assumption)<;>conv=>whnf))
 all_goals
  refine .ret _ ?_;conv=>whnf
  refine⟨[],⟨congrArg SV.tup ?_,rfl⟩,trivial⟩;repeat' (refine bD ?_ ?_)
  all_goals (conv=>lhs;whnf)
  all_goals try(with_reducible rfl)
 all_goals first
  |rfl
  |(simp[lM,gG,kB, *];done)
  |(simp[lM,gG,kB, *];rfl)
abbrev Jq (h:ed):aY:=.cells 101 (uN h++ [.mp 1000002,.mp 1000003,.mp 1000004,.buf 50,.mp 1000006,.mp 1000007,.mp 1000008,.mp 1000010,.buf 1000011])
abbrev cR (h:ed)(vm:Mp (List UInt8))(sm:Mp Bool)(s:dA):List (Nat×aY):=
 [(1000001,Jq h),(1000002,e8 false [.str []] pH vm),(1000003,e8 false [.bool false] Hj sm),(1000004,e8 true (kB oC) kB s.sts),(50,Hi s.log),(1000006,Ft s.ats),(1000007,e8 true (lO lJ) lO s.bks),(1000008,e8 true (dO none) dO s.his),(1000010,e8 false [.int .i64 0] Er s.paid),(1000011,Jt s.ref)]
def g9 (s:dA)(x:cO):Int:=al [if s.ats x.veh x.tm then 6 else 0,if(!gG (s.sts.val x.veh) x)then 11 else 0]
def gW (s:dA)(x:cO):dA:={s with sts:=s.sts.put x.veh (lM (s.sts.val x.veh) x),ats:=Da s.ats x.veh x.tm,log:=s.log++ [x]}
set_option maxHeartbeats 2000000 in
theorem HE (h:ed)(vm:Mp (List UInt8))(sm:Mp Bool)(s:dA)(x:cO):ai Tryz.prog 199 [.ptr 1000001 0,.agg ((iB x).map .d)] (iS h vm sm s) (fun y r=>y= .d (.int .i64 (g9 s x))∧r=iS h vm sm s):=by
 refine af hT (C:= []) Tryz.func199 rfl Tryz.call199 rfl rfl rfl ?_;conv=>whnf
 repeat' (first|(refine ao (Kt _ x) ⟨lr,lr,trivial⟩ rfl ?_;conv=>whnf)|(refine ac (eK _ _) rfl rfl ?_;rotate_right;conv=>whnf)|((first|refine And.intro (rfl:aK _=some (kB oC)) ?_|refine And.intro (rfl:aK _=some [DV.bool false]) ?_|refine ao (fu [_,_] (by simp)) ⟨aj (by rfl) (by rfl),trivial⟩ rfl ?_|(refine aa ?_ ?_<;>intro hb<;>try simp only[az]at hb)|refine aw hT 1 Bl ?_|refine aw hT 2 Bq ?_|omega|refine aA ?_|decide|assumption)<;>conv=>whnf))
 refine .ret _ ?_;conv=>whnf
 exact⟨iS h vm sm s,⟨rfl,rfl⟩,rr,rr,rr,rr,rr,rr,rr,rr,rr,rr,trivial⟩
set_option maxHeartbeats 2000000 in
theorem F3 (h:ed)(vm:Mp (List UInt8))(sm:Mp Bool)(s:dA)(x:cO)(hl:s.log.length≤2^20):ai Tryz.prog 200 [.ptr 1000001 0,.agg ((iB x).map .d)] (iS h vm sm s) (fun y r=>y= .tup []∧r=cR h vm sm (gW s x)):=by
 refine af hT (C:= []) Tryz.func200 rfl Tryz.call200 rfl rfl rfl ?_;conv=>whnf
 repeat' (first|((first|refine ao (Kt _ x) ⟨lr,lr,trivial⟩ rfl ?_|refine And.intro (rfl:aK _=some (kB oC)) ?_|refine And.intro (rfl:aK _=some [DV.bool false]) ?_|(refine aa ?_ ?_<;>intro hb<;>try simp only[az]at hb)|refine aw hT 1 BO ?_|refine aw hT 2 B7 ?_|refine aw hT 3 BR ?_|omega|refine aA ?_|decide|assumption)<;>conv=>whnf))
 refine .ent _ _ (ae (ts:= []) (rs:=cR h vm sm (gW s x)) [(1000001,1000001),(1000002,1000002),(1000003,1000003),(1000004,1000004),(50,38),(1000006,1000006),(1000007,1000007),(1000008,1000008),(1000010,1000010),(1000011,1000011)] rfl rfl trivial ⟨rr,rr,rr,fK,aR (x:=x) rfl,Ic,rr,rr,rr,rr,trivial⟩) ?_;refine .ret _ ?_;conv=>whnf
 exact⟨_,⟨rfl,rfl⟩,rr,rr,rr,rr,rr,rr,rr,rr,rr,rr,trivial⟩
def p8 (s:List UInt8):Bool:=match Lib.atoiAll s with| .ok n=>Lib.itoa n==s|_=>false
def t6 (s:List UInt8):Int:=match Lib.atoiAll s with| .ok n=>n| .range=>Lib.atoiSat s|_=>0
def ly (s:List UInt8):Bool:=p8 s&&decide ((Lib.trimPrefix s [45]).length≤9)
def KD:List UInt8:= [48,49,50,51,52,53,54,55,56,57]
theorem vM (u:Nat)(h:u<10):KD.contains (UInt8.ofNat (48+u))=true:=by
 have:∀u,u<10→KD.contains (UInt8.ofNat (48+u))=true:=by decide
 exact this u h
theorem t7:∀ (n u:Nat),u<n→Lib.decDigits u≠ []∧∀b ∈ Lib.decDigits u,KD.contains b=true:=by
 intro n
 induction n with
 |zero=>intro u h;omega
 | succ n ih=>
   intro u hu;rw[Lib.decDigits];split
   · rename_i h;exact⟨by simp,fun b hb=>by rw[List.mem_singleton]at hb;subst hb;exact vM u h⟩
   · rename_i h;refine⟨by simp,fun b hb=> ?_⟩;rcases List.mem_append.1 hb with q|q
     · exact(ih (u/10) (by omega)).2 b q
     · rw[List.mem_singleton]at q;subst q;exact vM _ (Nat.mod_lt _ (by decide))
theorem Ei (n:Int):Lib.trimPrefix (Lib.itoa n) [45]=Lib.decDigits n.natAbs:=by
 unfold Lib.itoa;split
 · rename_i h;simp[Lib.trimPrefix,Lib.hasPrefix]
 · rename_i h;have hn:n.toNat=n.natAbs:=by omega
   rw[hn];obtain⟨h1,h2⟩:=t7 (n.natAbs+1) n.natAbs (by omega)
   cases hd:Lib.decDigits n.natAbs with
   |nil=>exact absurd hd h1
   | cons b r=>
     have hb:=h2 b (by rw[hd];exact List.mem_cons_self);have hne:b≠45:=fun e=>by subst e;revert hb;decide
     have hne':¬ 45=b:=fun e=>hne e.symm
     simp[Lib.trimPrefix,Lib.hasPrefix,hne']
theorem KW:∀ (k u:Nat),(Lib.decDigits u).length≤k→u<10 ^ k:=by
 intro k
 induction k with
 | zero=>
   intro u h;have:=(t7 (u+1) u (by omega)).1
   exact absurd (List.eq_nil_of_length_eq_zero (by omega)) this
 | succ k ih=>
   intro u h;rw[Lib.decDigits]at h;split at h
   · rename_i hu;have:1≤10 ^ k:=Nat.one_le_pow _ _ (by decide);rw[Nat.pow_succ];omega
   · have:=ih (u/10) (by simp at h;omega);rw[Nat.pow_succ];omega
theorem Je {s:List UInt8}(h:ly s=true): -10 ^ 9≤t6 s∧t6 s≤10 ^ 9:=by
 unfold ly p8 at h;rw[Bool.and_eq_true]at h;unfold t6;split at h
 · rename_i n hn;have he:Lib.itoa n=s:=by simpa using h.1
   have h9:=of_decide_eq_true h.2;rw[←he,Ei]at h9;have:=KW 9 _ h9;rw[hn];show -10 ^ 9≤n∧n≤10 ^ 9;omega
 · cases h.1
theorem HG {p:Nat→Bool}{n k:Nat}(hk:k<n)(h:p k=true):0≤j7 p n:=by
 have hb:=e6 (p:=p) (n:=n);rcases Int.lt_or_le (j7 p n) 0 with q|q
 · exfalso
   have hn :∀m,j7 p m<0→∀j,j<m→p j=false:=by
    intro m
    induction m with
    |zero=>intro _ j hj;omega
    | succ m ih=>
      intro hm j hj;rw[j7]at hm;split at hm
      · rename_i hz
        by_cases hjm:j=m
        · subst hjm;split at hm
          · omega
          · rename_i hf;simpa using hf
        · exact ih (by omega) j (by omega)
      · rename_i hz;have:=(e6 (p:=p) (n:=m)).1;omega
   rw[hn n q k hk]at h;cases h
 · exact q
theorem Kv (l:List (List UInt8))(v:List UInt8):decide (0≤j7 (fun i=>l.getD i []==v) l.length)=decide (v ∈ l):=by
 rw[decide_eq_decide];constructor
 · intro h;have:=e6 (p:=fun i=>l.getD i []==v) (n:=l.length);rw[←eq_of_beq (this.2.2 h)];exact aq (by omega)
 · intro h;obtain⟨j,hj,rfl⟩:=bQ (d:= []) h;exact HG hj (by simp)
theorem M4 (l:List (List UInt8))(hl:l.length≤2^40)(v:List UInt8):ai Tryz.prog 240 [.d (ir l),.d (.str v)] [] (fun x r=>x= .d (.int .i64 (j7 (fun i=>l.getD i []==v) l.length))∧r= []):=by
 refine af hT (C:= []) Tryz.func240 rfl Tryz.call240 rfl rfl rfl ?_;conv=>whnf
 refine ah hT (C:= []) (ι:=Nat) (fun i=>i≤l.length∧∀j,j<i→(l.getD j []==v)=false) (fun i=>aN [(0,.d (ir l)),(1,.d (.str v)),(7,.d (.int .i64 l.length)),(8,.d (.int .i64 i))] []) (fun i=>l.length - i) 0 ⟨by simp,fun j hj=>absurd hj (Nat.not_lt_zero j)⟩ (by exact bz []) ?_;rintro i ⟨p1,p2⟩;have e1:(i:Int).toNat=i:=Int.toNat_natCast i;conv=>whnf
 repeat' (first|((first|(refine aa ?_ ?_<;>intro hb<;>try simp only[az]at hb)|omega|refine aA ?_|decide|assumption)<;>conv=>whnf))
 · refine .ret _ ?_;conv=>whnf
   refine⟨[],⟨?_,rfl⟩,trivial⟩;conv=>lhs;whnf
   congr 2
   exact(gm (by omega) p2 (by rw[←hb];simp)).symm
 · exact⟨i+1,⟨by omega,bH p2 (beq_eq_false_iff_ne.2 fun q=>hb q.symm)⟩,by omega,(by exact bz [])⟩
 · refine .ret _ ?_;conv=>whnf
   refine⟨[],⟨?_,rfl⟩,trivial⟩;conv=>lhs;whnf
   congr 2
   have:i=l.length:=by omega
   subst this;exact(eG p2).symm
theorem Pg (l:List (List UInt8))(hl:l.length≤2^40)(v:List UInt8):ai Tryz.prog 191 [.d (ir l),.d (.str v)] [] (fun x r=>x= .d (.bool (decide (v ∈ l)))∧r= []):=by
 refine af hT (C:= []) Tryz.func191 rfl Tryz.call191 rfl rfl rfl ?_;conv=>whnf
 repeat' (first|(refine ac (M4 l hl v) rfl rfl ?_;rotate_right;conv=>whnf)|((first|(refine aa ?_ ?_<;>intro hb<;>try simp only[az]at hb)|omega|refine aA ?_|decide|assumption)<;>conv=>whnf))
 refine .ret _ ?_;conv=>whnf
 refine⟨[],⟨?_,rfl⟩,trivial⟩;conv=>lhs;whnf
 rw[←Kv]
theorem IQ {s:List UInt8}{v:Int}(h:Lib.atoiAll s= .ok v): -9223372036854775808≤v∧v≤9223372036854775807:=by
 unfold Lib.atoiAll at h;split at h
 · cases h
 · simp only at h;split at h
   · cases h
   · cases h
   · split at h
     · cases h
     · split at h
       · cases h
       · cases h;rename_i h1 h2;split
         · rename_i hq;simp[hq]at h2;omega
         · rename_i hq;simp[hq]at h1;omega
theorem NB (s:List UInt8)(hs:s.length≤2^40):ai Tryz.prog 198 [.d (.str s)] kx (fun x r=>x= .tup [.d (.int .i64 (t6 s)),.d (.bool (ly s))]∧r=kx):=by
 refine af hT (C:= []) Tryz.func198 rfl Tryz.call198 rfl rfl rfl ?_;conv=>whnf
 refine cj (M6 s hs) [(1000009,1000009)] ?_;rintro x rout ⟨hx,rfl⟩;unfold zE at hx
 cases hA:Lib.atoiAll s with
 | ok v=>
   rw[hA]at hx;simp only at hx;subst hx;obtain⟨hv0,hv1⟩:=IQ hA;refine⟨rfl,?_⟩;conv=>whnf
   repeat' (first|(refine ac (KA s [45]) rfl rfl ?_;rotate_right;conv=>whnf)|((first|refine lW (Jw v hv0 hv1) rfl rfl rfl rfl ?_|(refine aa ?_ ?_<;>intro hb<;>try simp only[az]at hb)|omega|refine aA ?_|decide|assumption)<;>conv=>whnf))
   · refine .ret _ ?_;conv=>whnf
     refine⟨kx,⟨congrArg SV.tup ?_,rfl⟩,rr,trivial⟩;repeat' (refine bD ?_ ?_)
     all_goals (conv=>lhs;whnf)
     all_goals try(with_reducible rfl)
     · unfold t6;rw[hA]
     · unfold ly p8;rw[hA];simp[hb];omega
   · refine .ret _ ?_;conv=>whnf
     refine⟨kx,⟨congrArg SV.tup ?_,rfl⟩,rr,trivial⟩;repeat' (refine bD ?_ ?_)
     all_goals (conv=>lhs;whnf)
     all_goals try(with_reducible rfl)
     · unfold t6;rw[hA]
     · unfold ly p8;rw[hA];simp[hb]
 | range=>
   rw[hA]at hx;simp only at hx;obtain⟨t,p,rfl⟩:=hx;refine⟨rfl,?_⟩;conv=>whnf
   repeat' (first|((first|(refine aa ?_ ?_<;>intro hb<;>try simp only[az]at hb)|omega|refine aA ?_|decide|assumption)<;>conv=>whnf))
   refine .ret _ ?_;conv=>whnf
   refine⟨kx,⟨congrArg SV.tup ?_,rfl⟩,rr,trivial⟩;repeat' (refine bD ?_ ?_)
   all_goals (conv=>lhs;whnf)
   all_goals try(with_reducible rfl)
   · unfold t6;rw[hA]
   · unfold ly p8;rw[hA];rfl
 | _=>
   rw[hA]at hx;simp only at hx;obtain⟨t,p,rfl⟩:=hx;refine⟨rfl,?_⟩;conv=>whnf
   repeat' (first|((first|(refine aa ?_ ?_<;>intro hb<;>try simp only[az]at hb)|omega|refine aA ?_|decide|assumption)<;>conv=>whnf))
   refine .ret _ ?_;conv=>whnf
   refine⟨kx,⟨congrArg SV.tup ?_,rfl⟩,rr,trivial⟩;repeat' (refine bD ?_ ?_)
   all_goals (conv=>lhs;whnf)
   all_goals try(with_reducible rfl)
   · unfold t6;rw[hA]
   · unfold ly p8;rw[hA];rfl
theorem v7 (s p:List UInt8)(hp:p≠ []):(Lib.split s p).length≤s.length+1:=by
 have key:∀ (n:Nat) (s:List UInt8),s.length≤n→∀k,(Lib.splitK p 0 k s).length≤s.length+1:=by
  intro n
  induction n with
  | zero=>
    intro s hs k
    cases k with
    |zero=>simp[Lib.splitK]
    | succ k=>
      unfold Lib.splitK;split
      · simp
      · rename_i h;have:=Lib.drop_shorter hp h
        omega
  | succ n ih=>
    intro s hs k
    cases k with
    |zero=>simp[Lib.splitK]
    | succ k=>
      unfold Lib.splitK;split
      · simp
      · rename_i h;have h1:=Lib.drop_shorter hp h;have h2:=ih (s.drop ((Lib.index s p).toNat+p.length)) (by omega) k;simp only[List.length_cons];omega
 exact key s.length s (Nat.le_refl _) _
theorem vT {s p:List UInt8}{x:List UInt8}(h:x ∈ Lib.split s p):x.length≤s.length:=by
 have key:∀ (k:Nat) (s:List UInt8),∀x ∈ Lib.splitK p 0 k s,x.length≤s.length:=by
  intro k
  induction k with
  |zero=>intro s x hx;simp[Lib.splitK]at hx;subst hx;exact Nat.le_refl _
  | succ k ih=>
    intro s x hx;unfold Lib.splitK at hx;split at hx
    · simp at hx;subst hx;exact Nat.le_refl _
    · rcases List.mem_cons.1 hx with q|q
      · subst q;simp;omega
      · have:=ih _ x q;simp at this;omega
 exact key _ s x h
def nR (l:List (List UInt8)):Bool:= !decide ([] ∈ l)
theorem Ew {sep:List UInt8}{save:Nat}:∀ {k:Nat} {s:List UInt8},Lib.splitK sep save k s≠ []
 |0,s=>by simp[Lib.splitK]
 |k+1,s=>by unfold Lib.splitK;split<;>simp
theorem Lf (s:List UInt8)(hs:s.length≤2^30):ai Tryz.prog 197 [.d (.str s)] kx (fun x r=>x= .tup [.d (ir (Lib.split s [32])),.d (.bool (nR (Lib.split s [32])))]∧r=kx):=by
 have hl:=v7 s [32] (by decide);refine af hT (C:= []) Tryz.func197 rfl Tryz.call197 rfl rfl rfl ?_;conv=>whnf
 repeat' (first|(refine lW (KJ s [32] (by omega) (by decide)) rfl rfl rfl rfl ?_;conv=>whnf)|(refine ac (Pg (Lib.split s [32]) (by omega) []) rfl rfl ?_;rotate_right;conv=>whnf)|((first|(refine aa ?_ ?_<;>intro hb<;>try simp only[az]at hb)|omega|refine aA ?_|decide|assumption)<;>conv=>whnf))
 refine .ret _ ?_;conv=>whnf
 refine⟨kx,⟨congrArg SV.tup ?_,rfl⟩,rr,trivial⟩;repeat' (refine bD ?_ ?_)
 all_goals (conv=>lhs;whnf)
 all_goals try(with_reducible rfl)
 all_goals rfl
structure mh where
 word:List UInt8
 texts:List (List UInt8)
 nums:List Int
def A7 (t:mh):List DV:= [.str t.word,ir t.texts,dC t.nums]
def LI:mh:=⟨[],[],[]⟩
def ul (f:List UInt8)(w:List (List UInt8)):Nat→List (List UInt8)
 |0=> []
 |i+1=>if f.getD i 0=119 then ul f w i++ [w.getD i []]else ul f w i
def uy (f:List UInt8)(w:List (List UInt8)):Nat→List Int
 |0=> []
 |i+1=>if f.getD i 0=119 then uy f w i else uy f w i++ [t6 (w.getD i [])]
theorem Dq (f:List UInt8)(w:List (List UInt8)):∀i,(ul f w i).length≤i
 |0=>by simp[ul]
 | i+1=>by
   have:=Dq f w i;unfold ul;split
   · rw[List.length_append,List.length_singleton];omega
   · omega
theorem Cs (f:List UInt8)(w:List (List UInt8)):∀i,(uy f w i).length≤i
 |0=>by simp[uy]
 | i+1=>by
   have:=Cs f w i;unfold uy;split
   · omega
   · rw[List.length_append,List.length_singleton];omega
def DH (f:List UInt8)(w:List (List UInt8)):Bool:=decide (∀j,j<w.length→(f.getD j 0=119∨ly (w.getD j [])=true))
def iH (w:List (List UInt8)):List UInt8:=w.getD 0 []
def je (fm:Mp (List UInt8))(s:List UInt8):Bool:=
 nR (Lib.split s [32])&&(fm.has (iH (Lib.split s [32]))&&(decide ((Lib.split s [32]).length=1+(fm.val (iH (Lib.split s [32]))).length)&&DH (fm.val (iH (Lib.split s [32]))) ((Lib.split s [32]).drop 1)))
def dw (fm:Mp (List UInt8))(s:List UInt8):mh:=
 ⟨iH (Lib.split s [32]),ul (fm.val (iH (Lib.split s [32]))) ((Lib.split s [32]).drop 1) ((Lib.split s [32]).drop 1).length,uy (fm.val (iH (Lib.split s [32]))) ((Lib.split s [32]).drop 1) ((Lib.split s [32]).drop 1).length⟩
set_option maxHeartbeats 4000000 in
theorem tn (fm:Mp (List UInt8))(hf:∀k,(fm.val k).length≤2^20)(s:List UInt8)(hs:s.length≤2^20):
 ai Tryz.prog 145 [.d (.str s),.mp 1000001] [(1000001,e8 false [.str []] pH fm),(1000009,KX)] (fun y r=>y= .tup [.agg ((A7 (if je fm s then dw fm s else LI)).map .d),.d (.bool (je fm s))]∧r= [(1000001,e8 false [.str []] pH fm),(1000009,KX)]):=by
 obtain⟨W,hW⟩:∃W,W=Lib.split s [32]:=⟨_,rfl⟩;have c1:=Lf s (by omega);have hl:=v7 s [32] (by decide);have hn:Lib.split s [32]≠ []:=Ew;have hmem:∀x ∈ Lib.split s [32],x.length≤s.length:=fun x hx=>vT hx
 have hn1:1≤W.length:=by rw[hW];exact List.length_pos_iff.2 hn
 unfold je dw;rw[←hW]at c1 hl hmem ⊢;refine af hT (C:= []) Tryz.func145 rfl Tryz.call145 rfl rfl rfl ?_;conv=>whnf
 have hfw:=hf (iH W);repeat' (first|((first|refine lW c1 rfl rfl rfl rfl ?_|refine And.intro (rfl:aK _=some [.str []]) ?_|(refine And.intro (by have:=hf (bW [DV.str (W.getD (Int.toNat 0) [])]);unfold aF;omega) ?_)|(refine aa ?_ ?_<;>intro hb<;>try simp only[az]at hb)|omega|refine aA ?_|decide|assumption)<;>conv=>whnf))
 all_goals first
  | (have hE:(nR W&&(fm.has (iH W)&&(decide (W.length=1+(fm.val (iH W)).length)&&DH (fm.val (iH W)) (W.drop 1))))=false:=by
      first
       |(rw[show nR W=false from hb];rfl)
       |(rw[show fm.has (iH W)=false from hb];simp)
       | (have q:¬ (W.length:Int)=1+((fm.val (iH W)).length:Nat):=hb
          rw[show decide (W.length=1+(fm.val (iH W)).length)=false from decide_eq_false (by omega)];simp)
     rw[hE];refine .weak _ ?_;conv=>whnf
     exact⟨.tup [.agg ((A7 LI).map .d),.d (.bool false)],_,bG ⟨cQ ⟨lr,aW,aW,trivial⟩,lr,trivial⟩,⟨rfl,rfl⟩,rr,rr,trivial⟩)
  |skip
 trace_state
 · obtain ⟨f,hfe⟩:∃f,f=fm.val (iH W):=⟨_,rfl⟩;rw[←hfe]at hfw;obtain⟨W1,hW1⟩:∃W1,W1=W.drop 1:=⟨_,rfl⟩;have hl1:W1.length=W.length - 1:=by rw[hW1,List.length_drop]
   have hlf:W1.length=f.length:=by
    have:(W.length:Int)=1+((fm.val (iH W)).length:Nat):=hb;rw[←hfe]at this;omega
   have hm1:∀j,(W1.getD j []).length≤2^40:=fun j=>by
    by_cases hj:j<W1.length
    · have h1:W1.getD j [] ∈ W:=by
       have h2:W1.getD j [] ∈ W1:=by rw[List.getD_eq_getElem?_getD,List.getElem?_eq_getElem hj];exact List.getElem_mem hj
       rw[hW1]at h2 ⊢;exact List.mem_of_mem_drop h2
      have:=hmem _ h1;omega
    · rw[List.getD_eq_getElem?_getD,List.getElem?_eq_none (by omega)];simp
   refine ah hT (C:= []) (ι:=Nat) (fun i=>i≤W1.length∧∀j,j<i→(f.getD j 0=119∨ly (W1.getD j [])=true))
    (fun i=>aN [(4,.ptr 4 0),(8,.d (.str f)),(10,.ptr 10 0),(48,.d (ir W1)),(49,.d (.int .i64 W1.length)),(50,.d (.int .i64 i))] [(1000001,e8 false [.str []] pH fm),(1000009,KX),(4,.cells 254 [.d (.str []),.d .nilsl,.d .nilsl]),(10,.cells 254 [.d (.str (iH W)),.buf 20,.buf 21]),(20,aM 9 1 sF [] (ul f W1 i)),(21,aM 3 1 iF 0 (uy f W1 i))])
    (fun i=>W1.length - i) 0 ⟨by omega,fun j hj=>by omega⟩ ?_ ?_
   · subst hW1 hfe;refine dv.trans (dn 10 20 9 1 1 (aV sF [] []) rfl rfl rfl (by decide) rfl) ?_;refine dv.trans (dn 10 21 3 1 2 (aV iF 0 []) rfl rfl rfl (by decide) rfl) ?_;refine(ae [(1000001,1000001),(1000009,1000009),(4,4),(10,10),(20,20),(21,21)] rfl rfl ⟨lr,lr,lr,An (by rw[List.length_drop];omega),am (by rw[List.length_drop];omega),lr,trivial⟩ ⟨rr,rr,rr,rr,rr,rr,trivial⟩)
   rintro i ⟨p1,p2⟩;have e1:(i:Int).toNat=i:=Int.toNat_natCast i;have htl:=Dq f W1 i;have hnl:=Cs f W1 i;conv=>whnf
   repeat' (first|((first|refine lW (NB (W1.getD (i:Int).toNat []) (hm1 _)) rfl rfl rfl rfl ?_|(refine And.intro (by show(_+1)*16≤_;omega) ?_)|(refine And.intro (by show(_+1)*8≤_;omega) ?_)|(refine aa ?_ ?_<;>intro hb<;>try simp only[az]at hb)|omega|refine aA ?_|decide|assumption)<;>conv=>whnf))
   all_goals first
    | (have hc:f.getD i 0=119:=UInt8.toNat_inj.1 (by have:((f.getD i 0).toNat:Int)=119:=hb;show _=119;omega)
       have hT2:ul f W1 (i+1)=ul f W1 i++ [W1.getD i []]:=by rw[ul,if_pos hc]
       have hN2:uy f W1 (i+1)=uy f W1 i:=by rw[uy,if_pos hc]
       refine⟨i+1,⟨by omega,fun j hj=> ?_⟩,by omega,ae [(1000001,1000001),(1000009,1000009),(4,4),(10,10),(20,63),(21,21)] rfl rfl ⟨lr,lr,lr,lr,lr,lr,trivial⟩ ⟨rr,rr,rr,rr,(by show aY.le _ (aM 9 1 sF [] (ul f W1 (i+1)));rw[hT2];exact aR (x:=W1.getD i []) rfl),(by show aY.le _ (aM 3 1 iF 0 (uy f W1 (i+1)));rw[hN2];exact rr),trivial⟩⟩
       by_cases q:j<i
       · exact p2 j q
       · exact .inl (by rw[show j=i by omega];exact hc))
    | (have hb0:¬ ((f.getD i 0).toNat:Int)=119:=by assumption
       have hc:¬f.getD i 0=119:=fun q=>hb0 (by rw[q];rfl)
       have hk:ly (W1.getD i [])=true:=hb;have hT2:ul f W1 (i+1)=ul f W1 i:=by rw[ul,if_neg hc]
       have hN2:uy f W1 (i+1)=uy f W1 i++ [t6 (W1.getD i [])]:=by rw[uy,if_neg hc]
       refine⟨i+1,⟨by omega,fun j hj=> ?_⟩,by omega,ae [(1000001,1000001),(1000009,1000009),(4,4),(10,10),(20,20),(21,77)] rfl rfl ⟨lr,lr,lr,lr,lr,lr,trivial⟩ ⟨rr,rr,rr,rr,(by show aY.le _ (aM 9 1 sF [] (ul f W1 (i+1)));rw[hT2];exact rr),(by show aY.le _ (aM 3 1 iF 0 (uy f W1 (i+1)));rw[hN2];exact aR (x:=t6 (W1.getD i [])) rfl),trivial⟩⟩
       by_cases q:j<i
       · exact p2 j q
       · exact .inr (by rw[show j=i by omega];exact hk))
    | (have hb0:¬ ((f.getD i 0).toNat:Int)=119:=by assumption
       have hc:¬f.getD i 0=119:=fun q=>hb0 (by rw[q];rfl)
       have hk:ly (W1.getD i [])=false:=hb
       have hE:(nR W&&(fm.has (iH W)&&(decide (W.length=1+(fm.val (iH W)).length)&&DH (fm.val (iH W)) (W.drop 1))))=false:=by
        rw[←hfe,←hW1,show DH f W1=false from decide_eq_false (fun q=>by
         rcases q i (by omega)with r|r
         · exact hc r
         · rw[hk]at r;cases r)]
        simp
       rw[hE];refine .weak _ ?_;conv=>whnf
       exact⟨.tup [.agg ((A7 LI).map .d),.d (.bool false)],_,bG ⟨cQ ⟨lr,aW,aW,trivial⟩,lr,trivial⟩,⟨rfl,rfl⟩,rr,rr,trivial⟩)
    | (have hE:(nR W&&(fm.has (iH W)&&(decide (W.length=1+(fm.val (iH W)).length)&&DH (fm.val (iH W)) (W.drop 1))))=true:=by
        have h1:nR W=true:=by assumption
        have h2:fm.has (iH W)=true:=by assumption
        rw[h1,h2,←hfe,←hW1,show DH f W1=true from decide_eq_true (fun j hj=>p2 j (by omega)),show decide (W.length=1+f.length)=true from decide_eq_true (by omega)];rfl
       rw[hE,if_pos rfl,←hfe,←hW1];have hi:i=W1.length:=by omega
       subst hi;refine .freeze _ 20 9 1 _ _ rfl ?_;refine .freeze _ 21 3 1 _ _ rfl ?_;refine .ent _ _ (lC 4 20 1 rfl rfl rfl) ?_;refine .ent _ _ (lC 4 21 2 rfl rfl rfl) ?_;refine .ret _ ?_;conv=>whnf
       exact⟨_,⟨rfl,rfl⟩,rr,rr,trivial⟩)
def formsM:Mp (List UInt8):=((((((((((((((Mp.nil []).put [101,110,116,101,114] [119,119]).put [115,104,111,112] [119,119]).put [100,111,110,101] [119,119]).put [99,111,109,101] [119,119]).put [103,111,110,101] [119,119]).put [108,101,97,118,101] [119,119,119]).put [98,111,111,107] [119,119,110,110,110]).put [99,97,110,99,101,108] [119]).put [115,116,97,114,116] [119,119,110,119,119,110,110]).put [115,119,97,112] [119,119,110,110,119,110,110]).put [101,120,116,101,110,100] [119,110]).put [99,108,111,115,101] [119,119,110,110]).put [112,97,121] [119,110])
def aU:Mp Int:=(((((((Mp.nil 0).put [101,110,116,101,114] 1).put [115,104,111,112] 4).put [100,111,110,101] 5).put [99,111,109,101] 7).put [103,111,110,101] 8).put [108,101,97,118,101] 6)
theorem IG (s k v b:List UInt8):(bif decide (s=k)then [DV.str v]else [DV.str b])= [DV.str (if s=k then v else b)]:=by by_cases h:s=k<;>simp[h]
theorem Ji (s k:List UInt8)(v b:Int):(bif decide (s=k)then [DV.int .i64 v]else [DV.int .i64 b])= [DV.int .i64 (if s=k then v else b)]:=by by_cases h:s=k<;>simp[h]
theorem EX (v:ByteArray):xi (.string v)= .str v.data.toList:=rfl
theorem JS (v:Int):xi (.int .i64 v)= .int .i64 v:=rfl
set_option maxHeartbeats 4000000 in
theorem lY:ai Tryz.prog 146 [] [] (fun y r=>y= .mp 1∧r= [(1,e8 false [.str []] pH formsM)]):=by
 refine af hT (C:= []) Tryz.func146 rfl Tryz.call146 rfl rfl rfl ?_;conv=>whnf
 repeat' (first|((first|(refine aa ?_ ?_<;>intro hb<;>try simp only[az]at hb)|omega|refine aA ?_|decide|assumption)<;>conv=>whnf))
 refine .ret _ ?_;conv=>whnf
 refine⟨_,⟨rfl,rfl⟩,bC (fun K hK=> ?_),trivial⟩;obtain⟨s,rfl⟩:=fa hK;simp only[EX,m7,IG];exact⟨rfl,rfl⟩
set_option maxHeartbeats 4000000 in
theorem nV:ai Tryz.prog 147 [] [] (fun y r=>y= .mp 1∧r= [(1,e8 false [.int .i64 0] Er aU)]):=by
 refine af hT (C:= []) Tryz.func147 rfl Tryz.call147 rfl rfl rfl ?_;conv=>whnf
 repeat' (first|((first|(refine aa ?_ ?_<;>intro hb<;>try simp only[az]at hb)|omega|refine aA ?_|decide|assumption)<;>conv=>whnf))
 refine .ret _ ?_;conv=>whnf
 refine⟨_,⟨rfl,rfl⟩,bC (fun K hK=> ?_),trivial⟩;obtain⟨s,rfl⟩:=fa hK;simp only[EX,JS,m7,Ji];exact⟨rfl,rfl⟩
def Ca:OL:= [(0,[]),(1,[]),(2,[]),(3,[]),(4,rg 4),(5,rg 4),(6,[]),(7,[]),(8,[]),(9,[8]),(10,[9]),(11,[])]
def Bm:OL:= [(0,[]),(1,[]),(2,[]),(3,[]),(4,[]),(5,[]),(6,[]),(7,[3,4,5,6]),(8,[3,4,5,6]),(9,[]),(10,[]),(11,[]),(12,[]),(13,[]),(14,[]),(15,[]),(16,[]),(17,[]),(18,[]),(19,[15,16,17,18]),(20,[15,16,17,18]),(21,[]),(22,[]),(23,[]),(24,[]),(26,rg 25),(35,[0,1,2,3,4,5,6,7,8,9,10,11,12,13,14,15,16,17,18,19,20,21,22,23,24,26]),(36,[0,1,2,3,4,5,6,7,8,9,10,11,12,13,14,15,16,17,18,19,20,21,22,23,24,26,35]),(25,[26,35,36]),(27,[35,36]),(28,[35,36]),(29,[35,36]),(30,[35,36,28,29]),(31,[35,36,28,29]),(32,[35,36]),(33,[35,36]),(34,[35,36]),(37,[]),(38,[]),(39,[]),(40,[])]
def nf (vm:Mp (List UInt8))(sm:Mp Bool)(s:dA)(x:cO):Int:=
 al [if(!vm.has x.veh||(!sm.val x.st||(decide (x.kind=6)&& !sm.val x.to)))then 8 else 0,if(decide (x.kind=6)&&decide (x.to=x.st))then 14 else 0,g9 s x]
def lL (vm:Mp (List UInt8))(sm:Mp Bool)(s:dA)(x:cO):dA:=if nf vm sm s x=0 then gW s x else s
set_option maxHeartbeats 4000000 in
theorem Pq (h:ed)(vm:Mp (List UInt8))(sm:Mp Bool)(s:dA)(x:cO)(hl:s.log.length≤2^20):
 ai Tryz.prog 148 [.ptr 1000001 0,.agg ((iB x).map .d)] (iS h vm sm s) (fun y r=>y= .d (.int .i64 (nf vm sm s x))∧r=cR h vm sm (lL vm sm s x)):=by
 have c1:=HE h vm sm s x;have c2:=F3 h vm sm s x hl;generalize hC:g9 s x=C at c1;refine af hT (C:= []) Tryz.func148 rfl Tryz.call148 rfl rfl rfl ?_;conv=>whnf
 repeat' (first|((first|(refine cj (c1) L4 ?_;rintro y rout ⟨rfl,rfl⟩;refine⟨rfl,?_⟩)|(refine cj (c2) Ir ?_;rintro y rout ⟨rfl,rfl⟩;refine⟨rfl,?_⟩))<;>conv=>whnf)|(refine ac (eK _ _) rfl rfl ?_;rotate_right;conv=>whnf)|((first|refine And.intro (rfl:aK _=some (kB oC)) ?_|refine And.intro (rfl:aK _=some [.bool false]) ?_|refine And.intro (rfl:aK _=some (pH [])) ?_|refine And.intro (rfl:aK _=some [.str []]) ?_|refine And.intro (rfl:aK _=some (lO lJ)) ?_|refine And.intro (rfl:aK _=some (dO none)) ?_|refine And.intro (rfl:aK _=some [.int .i64 0]) ?_|refine ao (fu [_,_,_] (by simp)) ⟨aj (by rfl) (by rfl),trivial⟩ rfl ?_|(refine aa ?_ ?_<;>intro hb<;>try simp only[az]at hb)|refine aw hT 1 Ca ?_|refine aw hT 3 Bm ?_|omega|refine aA ?_|decide|assumption)<;>conv=>whnf))
 all_goals first
  | (have hS:lL vm sm s x=s:=by
      clear c1 c2;simp only[bW]at*;unfold lL nf;rw[hC]
      first
       |(simp_all [al];done)
       |(simp_all [al];grind)
       |grind [al]
     rw[hS];refine .ent _ _ (ae (ts:= [(4,.d (.int .i64 (nf vm sm s x)))]) (rs:=cR h vm sm (s)) ue rfl rfl ⟨am (by clear c1 c2;simp only[bW]at*;unfold nf;rw[hC];first|(simp_all [al];done)|(simp_all [al];grind)|grind [al]),trivial⟩ ⟨rr,rr,rr,rr,rr,rr,rr,rr,rr,rr,trivial⟩) ?_;refine .ret _ ?_;conv=>whnf
     exact⟨_,⟨rfl,rfl⟩,rr,rr,rr,rr,rr,rr,rr,rr,rr,rr,trivial⟩)
  | (have hS:lL vm sm s x=gW s x:=by
      clear c1 c2;simp only[bW]at*;unfold lL nf;rw[hC]
      first
       |(simp_all [al];done)
       |(simp_all [al];grind)
       |grind [al]
     rw[hS];refine .ent _ _ (ae (ts:= [(4,.d (.int .i64 (nf vm sm s x)))]) (rs:=cR h vm sm (gW s x)) LZ rfl rfl ⟨am (by clear c1 c2;simp only[bW]at*;unfold nf;rw[hC];first|(simp_all [al];done)|(simp_all [al];grind)|grind [al]),trivial⟩ ⟨rr,rr,rr,rr,rr,rr,rr,rr,rr,rr,trivial⟩) ?_;refine .ret _ ?_;conv=>whnf
     exact⟨_,⟨rfl,rfl⟩,rr,rr,rr,rr,rr,rr,rr,rr,rr,rr,trivial⟩)
def tI:OL:= [(0,[]),(1,[]),(3,[0,1]),(7,[0,1,3]),(8,[0,1,3]),(9,[0,1,3]),(10,[0,1,3]),(11,[0,1,3,7,8,9,10]),(12,[0,1,3]),(13,[0,1,3,7,8,9,10,11,12]),(14,[0,1,3]),(15,[0,1,3]),(2,[3,7,8,9,10,11,12,13,14,15]),(4,[7,8,9,10,11,12,13,14,15]),(5,[7,8,9,10,11,12,13,14,15]),(6,[7,8,9,10,11,12,13,14,15]),(16,[]),(17,[]),(18,[]),(19,[])]
def j8 (s:dA)(key:List UInt8)(c:Int):Int:=al [if !s.his.has key then 8 else 0,if !decide (0≤c∧c≤1000000000)then 1 else 0,if 1000000000<s.paid.val key+c then 2 else 0]
def li (s:dA)(key:List UInt8)(c:Int):dA:=if j8 s key c=0 then{s with paid:=s.paid.put key (s.paid.val key+c)}else s
set_option maxHeartbeats 4000000 in
theorem Ox (h:ed)(vm:Mp (List UInt8))(sm:Mp Bool)(s:dA)(key:List UInt8)(c:Int)(hc: -2^40≤c∧c≤2^40)(hp: -2^40≤s.paid.val key∧s.paid.val key≤2^40):
 ai Tryz.prog 151 [.ptr 1000001 0,.d (.str key),.d (.int .i64 c)] (iS h vm sm s) (fun y r=>y= .d (.int .i64 (j8 s key c))∧r=cR h vm sm (li s key c)):=by
 obtain⟨hc1,hc2⟩:=hc;obtain⟨hp1,hp2⟩:=hp;rcases hv:s.his.val key with _|g
 · skip
   refine af hT (C:= []) Tryz.func151 rfl Tryz.call151 rfl rfl rfl ?_;conv=>whnf
   repeat' (first|(refine ac (fA _ _ _) rfl rfl ?_;rotate_right;conv=>whnf)|(refine And.intro (by show aF (s.paid.val key+c);unfold aF;omega) ?_;conv=>whnf)|(refine ac (eK _ _) rfl rfl ?_;rotate_right;conv=>whnf)|((first|(refine And.intro (rfl:aK _=some (dO none)) ?_;refine dq (row':=dO none) (congrArg dO hv) ?_)|refine And.intro (rfl:aK _=some (kB oC)) ?_|refine And.intro (rfl:aK _=some [.bool false]) ?_|refine And.intro (rfl:aK _=some (pH [])) ?_|refine And.intro (rfl:aK _=some [.str []]) ?_|refine And.intro (rfl:aK _=some (lO lJ)) ?_|refine And.intro (rfl:aK _=some (dO none)) ?_|refine And.intro (rfl:aK _=some [.int .i64 0]) ?_|refine ao (fu [_,_,_] (by simp)) ⟨aj (by rfl) (by rfl),trivial⟩ rfl ?_|(refine aa ?_ ?_<;>intro hb<;>try simp only[az]at hb)|refine aw hT 2 tI ?_|omega|refine aA ?_|decide|assumption)<;>conv=>whnf))
   all_goals first
    | (have hS:li s key c=(s):=by
        unfold li j8
        (try simp only[bW]at*);first|(simp_all [al];done)|(simp_all [al];grind)|grind [al]
       rw[hS];refine .ent _ _ (ae (ts:= [(6,.d (.int .i64 (j8 s key c)))]) (rs:=cR h vm sm (s)) ue rfl rfl ⟨am (by unfold j8;(try simp only[bW]at*);first|(simp_all [al];done)|(simp_all [al];grind)|grind [al]),trivial⟩ ⟨rr,rr,rr,rr,rr,rr,rr,rr,rr,rr,trivial⟩) ?_;refine .ret _ ?_;conv=>whnf
       exact⟨_,⟨rfl,rfl⟩,rr,rr,rr,rr,rr,rr,rr,rr,rr,rr,trivial⟩)
    | (have hS:li s key c=({s with paid:=s.paid.put key (s.paid.val key+c)}):=by
        unfold li j8
        (try simp only[bW]at*);first|(simp_all [al];done)|(simp_all [al];grind)|grind [al]
       rw[hS];refine .ent _ _ (ae (ts:= [(6,.d (.int .i64 (j8 s key c)))]) (rs:=cR h vm sm ({s with paid:=s.paid.put key (s.paid.val key+c)})) ue rfl rfl ⟨am (by unfold j8;(try simp only[bW]at*);first|(simp_all [al];done)|(simp_all [al];grind)|grind [al]),trivial⟩ ⟨rr,rr,rr,rr,rr,rr,rr,rr,fK,rr,trivial⟩) ?_;refine .ret _ ?_;conv=>whnf
       exact⟨_,⟨rfl,rfl⟩,rr,rr,rr,rr,rr,rr,rr,rr,rr,rr,trivial⟩)
 · skip
   refine af hT (C:= []) Tryz.func151 rfl Tryz.call151 rfl rfl rfl ?_;conv=>whnf
   repeat' (first|(refine ac (fA _ _ _) rfl rfl ?_;rotate_right;conv=>whnf)|(refine And.intro (by show aF (s.paid.val key+c);unfold aF;omega) ?_;conv=>whnf)|(refine ac (eK _ _) rfl rfl ?_;rotate_right;conv=>whnf)|((first|(refine And.intro (rfl:aK _=some (dO none)) ?_;refine dq (row':=gr g) (congrArg dO hv) ?_)|refine And.intro (rfl:aK _=some (kB oC)) ?_|refine And.intro (rfl:aK _=some [.bool false]) ?_|refine And.intro (rfl:aK _=some (pH [])) ?_|refine And.intro (rfl:aK _=some [.str []]) ?_|refine And.intro (rfl:aK _=some (lO lJ)) ?_|refine And.intro (rfl:aK _=some (dO none)) ?_|refine And.intro (rfl:aK _=some [.int .i64 0]) ?_|refine ao (fu [_,_,_] (by simp)) ⟨aj (by rfl) (by rfl),trivial⟩ rfl ?_|(refine aa ?_ ?_<;>intro hb<;>try simp only[az]at hb)|refine aw hT 2 tI ?_|omega|refine aA ?_|decide|assumption)<;>conv=>whnf))
   all_goals first
    | (have hS:li s key c=(s):=by
        unfold li j8
        (try simp only[bW]at*);first|(simp_all [al];done)|(simp_all [al];grind)|grind [al]
       rw[hS];refine .ent _ _ (ae (ts:= [(6,.d (.int .i64 (j8 s key c)))]) (rs:=cR h vm sm (s)) ue rfl rfl ⟨am (by unfold j8;(try simp only[bW]at*);first|(simp_all [al];done)|(simp_all [al];grind)|grind [al]),trivial⟩ ⟨rr,rr,rr,rr,rr,rr,rr,rr,rr,rr,trivial⟩) ?_;refine .ret _ ?_;conv=>whnf
       exact⟨_,⟨rfl,rfl⟩,rr,rr,rr,rr,rr,rr,rr,rr,rr,rr,trivial⟩)
    | (have hS:li s key c=({s with paid:=s.paid.put key (s.paid.val key+c)}):=by
        unfold li j8
        (try simp only[bW]at*);first|(simp_all [al];done)|(simp_all [al];grind)|grind [al]
       rw[hS];refine .ent _ _ (ae (ts:= [(6,.d (.int .i64 (j8 s key c)))]) (rs:=cR h vm sm ({s with paid:=s.paid.put key (s.paid.val key+c)})) ue rfl rfl ⟨am (by unfold j8;(try simp only[bW]at*);first|(simp_all [al];done)|(simp_all [al];grind)|grind [al]),trivial⟩ ⟨rr,rr,rr,rr,rr,rr,rr,rr,fK,rr,trivial⟩) ?_;refine .ret _ ?_;conv=>whnf
       exact⟨_,⟨rfl,rfl⟩,rr,rr,rr,rr,rr,rr,rr,rr,rr,rr,trivial⟩)
def sd:OL:= [(0,[]),(1,[]),(2,[]),(3,[]),(4,[]),(5,[3,4]),(6,[3,4,5]),(7,[3,4,5]),(8,[3,4]),(9,[3,4]),(10,[3,4]),(11,[]),(12,[]),(13,[])]
theorem OJ (x:ip)(key:List UInt8):ai Tryz.prog 296 [.agg ((As x).map .d),.ptr 1000001 0] [(1000001,xF key)] (fun y r=>y= .d (.bool (x.key==key))∧r= [(1000001,xF key)]):=by
 refine af hT (C:= []) Tryz.func296 rfl Tryz.call296 rfl rfl rfl ?_;conv=>whnf
 refine .ret _ ?_;conv=>whnf
 exact⟨[(1000001,xF key)],⟨rfl,rfl⟩,rr,trivial⟩
theorem LS (l:List ip)(hl:l.length≤2^40)(key:List UInt8):ai Tryz.prog 193 [.d (jk l),.fn 296 [.ptr 1000001 0]] [(1000001,xF key)] (fun x r=>x= .d (.int .i64 (gd l key))∧r= [(1000001,xF key)]):=by
 refine af hT (C:= []) Tryz.func193 rfl Tryz.call193 rfl rfl rfl ?_;conv=>whnf
 refine ah hT (C:= []) (ι:=Nat) (fun i=>i≤l.length∧∀j,j<i→((l.getD j cW).key==key)=false) (fun i=>aN [(0,.d (jk l)),(1,.fn 296 [.ptr 1000001 0]),(7,.d (.int .i64 l.length)),(8,.d (.int .i64 i))] [(1000001,xF key)]) (fun i=>l.length - i) 0 ⟨by omega,by omega⟩ (by exact bz [(1000001,1000001)]) ?_;rintro i ⟨p1,p2⟩;have e1:(i:Int).toNat=i:=Int.toNat_natCast i;conv=>whnf
 repeat' (first|((first|(refine cj (OJ (l.getD (i:Int).toNat cW) key) [(1000001,1000001)] ?_;rintro x rout ⟨rfl,rfl⟩;refine⟨rfl,?_⟩)|(refine aa ?_ ?_<;>intro hb<;>try simp only[az]at hb)|omega|refine aA ?_|decide|assumption)<;>conv=>whnf))
 · refine .ret _ ?_;conv=>whnf
   refine⟨[(1000001,xF key)],⟨?_,rfl⟩,rr,trivial⟩;conv=>lhs;whnf
   congr 2
   exact(gm (by omega) p2 (by simpa using hb)).symm
 · exact⟨i+1,⟨by omega,bH p2 (by simpa using hb)⟩,by omega,(by exact bz [(1000001,1000001)])⟩
 · refine .ret _ ?_;conv=>whnf
   refine⟨[(1000001,xF key)],⟨?_,rfl⟩,rr,trivial⟩;conv=>lhs;whnf
   congr 2
   have:i=l.length:=by omega
   subst this;exact(eG p2).symm
def yw (l:List ip)(key:List UInt8):Bool:=decide (0≤gd l key)
theorem ND (l:List ip)(hl:l.length≤2^40)(key:List UInt8):ai Tryz.prog 295 [.d (jk l),.fn 296 [.ptr 1000001 0]] [(1000001,xF key)] (fun x r=>x= .d (.bool (yw l key))∧r= [(1000001,xF key)]):=by
 refine af hT (C:= []) Tryz.func295 rfl Tryz.call295 rfl rfl rfl ?_;conv=>whnf
 repeat' (first|((first|(refine cj (LS l hl key) [(1000001,1000001)] ?_;rintro x rout ⟨rfl,rfl⟩;refine⟨rfl,?_⟩)|(refine aa ?_ ?_<;>intro hb<;>try simp only[az]at hb)|omega|refine aA ?_|decide|assumption)<;>conv=>whnf))
 refine .ret _ ?_;conv=>whnf
 exact⟨_,⟨rfl,rfl⟩,rr,trivial⟩
theorem DD (l:List ip)(hl:l.length≤2^40)(key:List UInt8):ai Tryz.prog 273 [.d (jk l),.d (.str key)] [] (fun x r=>x= .d (.bool (yw l key))∧r= []):=by
 refine af hT (C:= []) Tryz.func273 rfl Tryz.call273 rfl rfl rfl ?_;conv=>whnf
 repeat' (first|((first|(refine cj (ND l hl key) [(1000001,3)] ?_;rintro x rout ⟨rfl,rfl⟩;refine⟨rfl,?_⟩)|(refine aa ?_ ?_<;>intro hb<;>try simp only[az]at hb)|omega|refine aA ?_|decide|assumption)<;>conv=>whnf))
 refine .ret _ ?_;conv=>whnf
 refine⟨[],⟨?_,rfl⟩,trivial⟩;conv=>lhs;whnf
def wC (b:AU):Int:=
 if aG b.key=false∨aG b.cls=false then 5 else if b.frm<0∨b.to≤b.frm∨5761439<b.to then 1
 else if ¬ (0≤b.made∧b.made≤b.frm)∨¬ (0≤b.pct∧b.pct≤100)then 1 else 0
set_option maxHeartbeats 2000000 in
theorem IJ (b:AU)(h1:b.key.length≤2^40)(h2:b.cls.length≤2^40):ai Tryz.prog 272 [.d (D9 [b])] [] (fun x r=>x= .d (.int .i64 (wC b))∧r= []):=by
 have c1:=gC b.key h1;have c2:=gC b.cls h2;refine af hT (C:= []) Tryz.func272 rfl Tryz.call272 rfl rfl rfl ?_;conv=>whnf
 refine ah hT (C:= []) (ι:=Nat) (fun i=>i=0∨(i=1∧wC b=0)) (fun i=>aN [(0,.d (D9 [b])),(8,.d (D9 [b])),(9,.d (.int .i64 1)),(10,.d (.int .i64 i))] []) (fun i=>1 - i) 0 (.inl rfl) (by exact bz []) ?_;rintro i (rfl|⟨rfl,hz⟩)
 · conv =>whnf
   repeat' (first|(refine ac (c1) rfl rfl ?_;rotate_right;conv=>whnf)|(refine ac (c2) rfl rfl ?_;rotate_right;conv=>whnf)|(refine ac (fA _ _ _) rfl rfl ?_;rotate_right;conv=>whnf)|((first|(refine aa ?_ ?_<;>intro hb<;>try simp only[az]at hb)|refine aw hT 8 sd ?_|omega|refine aA ?_|decide|assumption)<;>conv=>whnf))
   all_goals first
    | (refine .ret _ ?_
       conv=>whnf
       refine⟨[],⟨?_,rfl⟩,trivial⟩;conv=>lhs;whnf
       congr 2
       clear c1 c2
       (try simp only[List.getD_cons_zero]at*)
       unfold wC
       grind)
    | (refine⟨1,.inr ⟨rfl,?_⟩,by omega,(by exact bz [])⟩
       clear c1 c2
       (try simp only[List.getD_cons_zero]at*)
       unfold wC
       grind)
 · rw[hz];conv=>whnf
   repeat' (first|((first|(refine aa ?_ ?_<;>intro hb<;>try simp only[az]at hb)|refine aw hT 8 sd ?_|omega|refine aA ?_|decide|assumption)<;>conv=>whnf))
   refine .ret _ ?_;conv=>whnf
   refine⟨[],⟨?_,rfl⟩,trivial⟩;conv=>lhs;whnf
def zN (l:List ip)(b:AU):Int:=if wC b≠0 then wC b else if yw l b.cls then 0 else 8
set_option maxHeartbeats 2000000 in
theorem Fm (l:List ip)(hl:l.length≤2^40)(b:AU)(h1:b.key.length≤2^40)(h2:b.cls.length≤2^40):ai Tryz.prog 247 [.d (jk l),.d (D9 [b])] [] (fun x r=>x= .d (.int .i64 (zN l b))∧r= []):=by
 have c1:=IJ b h1 h2;have c2:=DD l hl b.cls;have hD:zN l b=if wC b≠0 then wC b else if yw l b.cls then 0 else 8:=rfl;generalize wC b=F at c1 hD;generalize yw l b.cls=H at c2 hD;refine af hT (C:= []) Tryz.func247 rfl Tryz.call247 rfl rfl rfl ?_;conv=>whnf
 repeat' (first|(refine ac (c1) rfl rfl ?_;rotate_right;conv=>whnf)|((first|(refine aa ?_ ?_<;>intro hb<;>try simp only[az]at hb)|omega|refine aA ?_|decide|assumption)<;>conv=>whnf))
 · rw[if_pos hb]at hD;rw[hD];refine .ret _ ?_;conv=>whnf
   refine⟨[],⟨?_,rfl⟩,trivial⟩;conv=>lhs;whnf
 rw[if_neg (fun c=>c hb)]at hD;refine ah hT (C:= []) (ι:=Nat) (fun i=>i=0∨(i=1∧H=true)) (fun i=>aN [(0,.d (jk l)),(13,.d (D9 [b])),(14,.d (.int .i64 1)),(15,.d (.int .i64 i))] []) (fun i=>1 - i) 0 (.inl rfl) (by exact bz []) ?_;rintro i (rfl|⟨rfl,hz⟩)
 · conv =>whnf
   repeat' (first|((first|refine rZ c2 ?_|(refine aa ?_ ?_<;>intro hb<;>try simp only[az]at hb)|omega|refine aA ?_|decide|assumption)<;>conv=>whnf))
   all_goals first
    | (refine⟨1,.inr ⟨rfl,?_⟩,by omega,(by exact bz [])⟩
       first|exact hb|simpa using hb)
    | (rw[show H=false from by first|exact hb|simpa using hb]at hD
       rw[hD];refine .ret _ ?_;conv=>whnf
       refine⟨[],⟨?_,rfl⟩,trivial⟩;conv=>lhs;whnf
       all_goals rfl)
 · rw[hz]at hD;rw[hD];conv=>whnf
   repeat' (first|((first|(refine aa ?_ ?_<;>intro hb<;>try simp only[az]at hb)|omega|refine aA ?_|decide|assumption)<;>conv=>whnf))
   refine .ret _ ?_;conv=>whnf
   refine⟨[],⟨?_,rfl⟩,trivial⟩;conv=>lhs;whnf
   rfl
def HH (l:List ip)(b:AU):Int:=al [gF l,zN l b]
theorem HI (l:List ip)(hk:lT l)(b:AU)(h1:b.key.length≤2^40)(h2:b.cls.length≤2^40):ai Tryz.prog 201 [.d (jk l),.d (D9 [b])] [] (fun x r=>x= .d (.int .i64 (HH l b))∧r= []):=by
 have c1:=z175 l hk;have c2:=Fm l (by have:=hk.1;omega) b h1 h2;have hE:HH l b=al [gF l,zN l b]:=rfl;generalize gF l=A at c1 hE;generalize zN l b=B at c2 hE;rw[hE];refine af hT (C:= []) Tryz.func201 rfl Tryz.call201 rfl rfl rfl ?_;conv=>whnf
 repeat' (first|(refine ac (c1) rfl rfl ?_;rotate_right;conv=>whnf)|(refine ac (c2) rfl rfl ?_;rotate_right;conv=>whnf)|((first|refine ao (fu [_,_] (by simp)) ⟨aj (by rfl) (by rfl),trivial⟩ rfl ?_|(refine aa ?_ ?_<;>intro hb<;>try simp only[az]at hb)|omega|refine aA ?_|decide|assumption)<;>conv=>whnf))
 refine .ret _ ?_;conv=>whnf
 refine⟨[],⟨?_,rfl⟩,trivial⟩;conv=>lhs;whnf
def sT:OL:= [(0,[]),(1,[]),(2,[]),(3,[]),(4,rg 4),(5,rg 4),(6,[]),(7,[]),(8,[]),(9,[8]),(10,rg 10),(11,[9]),(12,[])]
def sU:OL:= [(0,[]),(1,[]),(2,[]),(3,[]),(4,rg 4),(5,rg 4),(6,[]),(7,[]),(8,[]),(9,[8]),(10,rg 10),(11,[9]),(12,[])]
def td:OL:= [(0,[]),(1,[]),(2,[]),(3,[]),(4,[]),(5,[]),(6,rg 6),(7,rg 6),(9,rg 8),(14,[0,1,2,3,4,5,6,7,9]),(15,[0,1,2,3,4,5,6,7,9]),(16,[0,1,2,3,4,5,6,7,9]),(17,[0,1,2,3,4,5,6,7,9]),(8,[9,14,15,16,17]),(10,[14,15,16,17]),(11,[14,15,16,17]),(12,[14,15,16,17]),(13,[14,15,16,17]),(18,[]),(19,[]),(20,[]),(21,[]),(22,[]),(23,[])]
def s8:OL:= [(0,[]),(1,[]),(2,[]),(3,[]),(4,rg 4),(5,rg 4),(6,rg 6),(7,[])]
def gz (h:ed)(s:dA)(b:AU):Int:=al [HH h.flt.cls b,if(s.bks.has b.key||s.his.has b.key)then 6 else 0,0]
def gf (h:ed)(s:dA)(b:AU):dA:=if gz h s b=0 then{s with bks:=s.bks.put b.key b}else s
def MA (m:List UInt8→Bool):Prop:=∃L:List (List UInt8),L.length<500∧∀k,m k=true→k ∈ L
theorem MA.kb {m:List UInt8→Bool}(h:MA m){clock:Nat}{kb:List (List DV×Nat)}(hk:KB [.str] (fun K=>m (bW K)) clock kb):kb.length<500:=by
 obtain⟨L,h1,h2⟩:=h
 have:=hk.le (L.map fun x=> [.str x]) (fun key hw hh=>by
  obtain⟨s,rfl⟩:=fa hw
  exact List.mem_map.2 ⟨s,h2 s hh,rfl⟩)
 rw[List.length_map]at this;omega
set_option maxHeartbeats 4000000 in
theorem M3 (h:ed)(hc:lT h.flt.cls)(vm:Mp (List UInt8))(sm:Mp Bool)(s:dA)(b:AU)(h1:b.key.length≤2^40)(h2:b.cls.length≤2^40)(hf:MA s.bks.has):
 ai Tryz.prog 149 [.ptr 1000001 0,.agg ((lO b).map .d)] (iS h vm sm s) (fun y r=>y= .d (.int .i64 (gz h s b))∧r=cR h vm sm (gf h s b)):=by
 have c1:=HI h.flt.cls hc b h1 h2;generalize hC:HH h.flt.cls b=C at c1;have hcn:∀clock kb,KB [.str] (fun K=>s.bks.has (bW K)) clock kb→kb.length<500:=fun clock kb hk=>hf.kb hk
 rcases hv:s.his.val b.key with _|g
 · skip
   refine af hT (C:= []) Tryz.func149 rfl Tryz.call149 rfl rfl rfl ?_;conv=>whnf
   repeat' (first|((first|(refine pA (id:=3) 1000007 rfl ?_;intro clock kb hKB;have hk5:=hcn clock kb hKB;have hk6:¬ (500:Int)≤(kb.length:Int):=(by omega))|refine wX.unc (id:=6) 1000007 rfl ?_)<;>conv=>whnf)|(refine ac (eK _ _) rfl rfl ?_;rotate_right;conv=>whnf)|((first|(refine And.intro (rfl:aK _=some (dO none)) ?_;refine dq (row':=dO none) (congrArg dO hv) ?_)|refine And.intro (rfl:aK _=some (kB oC)) ?_|refine And.intro (rfl:aK _=some [.bool false]) ?_|refine And.intro (rfl:aK _=some (pH [])) ?_|refine And.intro (rfl:aK _=some [.str []]) ?_|refine And.intro (rfl:aK _=some (lO lJ)) ?_|refine And.intro (rfl:aK _=some (dO none)) ?_|refine And.intro (rfl:aK _=some [.int .i64 0]) ?_|refine ao c1 ⟨lr,aj rfl rfl,trivial⟩ rfl ?_|refine ao (fu [_,_,_] (by simp)) ⟨aj (by rfl) (by rfl),trivial⟩ rfl ?_|(refine aa ?_ ?_<;>intro hb<;>try simp only[az]at hb)|refine aw hT 1 sT ?_|refine aw hT 2 sU ?_|refine aw hT 3 td ?_|refine aw hT 6 s8 ?_|omega|refine aA ?_|decide|assumption)<;>conv=>whnf))
   all_goals first
    | (have hS:gf h s b=(s):=by
        clear c1 hcn hKB hf;unfold gf gz;rw[hC]
        (try simp only[bW]at*);first|(simp_all [al];done)|(simp_all [al];grind)|grind [al]
       rw[hS];refine .ent _ _ (ae (ts:= [(4,.d (.int .i64 (gz h s b)))]) (rs:=cR h vm sm (s)) ue rfl rfl ⟨am (by clear c1 hcn hKB hf;unfold gz;rw[hC];(try simp only[bW]at*);first|(simp_all [al];done)|(simp_all [al];grind)|grind [al]),trivial⟩ ⟨rr,rr,rr,rr,rr,rr,fZ fun _ _=>⟨rfl,rfl⟩,rr,rr,rr,trivial⟩) ?_;refine .ret _ ?_;conv=>whnf
       exact⟨_,⟨rfl,rfl⟩,rr,rr,rr,rr,rr,rr,rr,rr,rr,rr,trivial⟩)
    | (have hS:gf h s b=({s with bks:=s.bks.put b.key b}):=by
        clear c1 hcn hKB hf;unfold gf gz;rw[hC]
        (try simp only[bW]at*);first|(simp_all [al];done)|(simp_all [al];grind)|grind [al]
       rw[hS];refine .ent _ _ (ae (ts:= [(4,.d (.int .i64 (gz h s b)))]) (rs:=cR h vm sm ({s with bks:=s.bks.put b.key b})) ue rfl rfl ⟨am (by clear c1 hcn hKB hf;unfold gz;rw[hC];(try simp only[bW]at*);first|(simp_all [al];done)|(simp_all [al];grind)|grind [al]),trivial⟩ ⟨rr,rr,rr,rr,rr,rr,fK,rr,rr,rr,trivial⟩) ?_;refine .ret _ ?_;conv=>whnf
       exact⟨_,⟨rfl,rfl⟩,rr,rr,rr,rr,rr,rr,rr,rr,rr,rr,trivial⟩)
 · skip
   refine af hT (C:= []) Tryz.func149 rfl Tryz.call149 rfl rfl rfl ?_;conv=>whnf
   repeat' (first|((first|(refine pA (id:=3) 1000007 rfl ?_;intro clock kb hKB;have hk5:=hcn clock kb hKB;have hk6:¬ (500:Int)≤(kb.length:Int):=(by omega))|refine wX.unc (id:=6) 1000007 rfl ?_)<;>conv=>whnf)|(refine ac (eK _ _) rfl rfl ?_;rotate_right;conv=>whnf)|((first|(refine And.intro (rfl:aK _=some (dO none)) ?_;refine dq (row':=gr g) (congrArg dO hv) ?_)|refine And.intro (rfl:aK _=some (kB oC)) ?_|refine And.intro (rfl:aK _=some [.bool false]) ?_|refine And.intro (rfl:aK _=some (pH [])) ?_|refine And.intro (rfl:aK _=some [.str []]) ?_|refine And.intro (rfl:aK _=some (lO lJ)) ?_|refine And.intro (rfl:aK _=some (dO none)) ?_|refine And.intro (rfl:aK _=some [.int .i64 0]) ?_|refine ao c1 ⟨lr,aj rfl rfl,trivial⟩ rfl ?_|refine ao (fu [_,_,_] (by simp)) ⟨aj (by rfl) (by rfl),trivial⟩ rfl ?_|(refine aa ?_ ?_<;>intro hb<;>try simp only[az]at hb)|refine aw hT 1 sT ?_|refine aw hT 2 sU ?_|refine aw hT 3 td ?_|refine aw hT 6 s8 ?_|omega|refine aA ?_|decide|assumption)<;>conv=>whnf))
   all_goals first
    | (have hS:gf h s b=(s):=by
        clear c1 hcn hKB hf;unfold gf gz;rw[hC]
        (try simp only[bW]at*);first|(simp_all [al];done)|(simp_all [al];grind)|grind [al]
       rw[hS];refine .ent _ _ (ae (ts:= [(4,.d (.int .i64 (gz h s b)))]) (rs:=cR h vm sm (s)) ue rfl rfl ⟨am (by clear c1 hcn hKB hf;unfold gz;rw[hC];(try simp only[bW]at*);first|(simp_all [al];done)|(simp_all [al];grind)|grind [al]),trivial⟩ ⟨rr,rr,rr,rr,rr,rr,fZ fun _ _=>⟨rfl,rfl⟩,rr,rr,rr,trivial⟩) ?_;refine .ret _ ?_;conv=>whnf
       exact⟨_,⟨rfl,rfl⟩,rr,rr,rr,rr,rr,rr,rr,rr,rr,rr,trivial⟩)
    | (have hS:gf h s b=({s with bks:=s.bks.put b.key b}):=by
        clear c1 hcn hKB hf;unfold gf gz;rw[hC]
        (try simp only[bW]at*);first|(simp_all [al];done)|(simp_all [al];grind)|grind [al]
       rw[hS];refine .ent _ _ (ae (ts:= [(4,.d (.int .i64 (gz h s b)))]) (rs:=cR h vm sm ({s with bks:=s.bks.put b.key b})) ue rfl rfl ⟨am (by clear c1 hcn hKB hf;unfold gz;rw[hC];(try simp only[bW]at*);first|(simp_all [al];done)|(simp_all [al];grind)|grind [al]),trivial⟩ ⟨rr,rr,rr,rr,rr,rr,fK,rr,rr,rr,trivial⟩) ?_;refine .ret _ ?_;conv=>whnf
       exact⟨_,⟨rfl,rfl⟩,rr,rr,rr,rr,rr,rr,rr,rr,rr,rr,trivial⟩)
def Bg:OL:= [(0,[]),(1,[]),(2,[]),(3,[]),(4,rg 4),(5,rg 4),(6,[]),(7,rg 7),(12,rg 8),(8,[12]),(9,[12]),(10,[12]),(11,[12,10]),(13,[11]),(14,[])]
def BX:OL:= [(0,[]),(1,[]),(2,[]),(3,[]),(4,rg 4),(5,rg 4),(6,rg 6),(7,rg 6),(8,rg 4),(9,[]),(11,rg 10),(12,rg 10),(10,[11,12]),(13,[]),(14,[]),(15,[]),(16,[])]
def nS:OL:= [(0,[]),(1,[]),(2,[]),(3,[]),(4,rg 4),(5,rg 4),(6,rg 4),(7,rg 4),(8,rg 8),(9,rg 8),(10,rg 8),(11,rg 8),(12,rg 12),(13,rg 12),(14,rg 12),(15,rg 12),(16,[4,5,6,7,8,9,10,11,12,13,14,15]),(17,[8,9,10,11,12,13,14,15]),(18,[12,13,14,15]),(19,[])]
def nO:OL:= [(0,[]),(1,[0]),(2,[0,1]),(3,[0,1,2]),(4,[0,1,2]),(5,[0,1,2]),(6,[0,1,2]),(7,[0,1]),(8,rg 8),(9,rg 9),(10,rg 10),(11,rg 11),(12,rg 11),(13,rg 11),(14,rg 11),(15,rg 15),(16,rg 15),(17,rg 15),(18,rg 15),(19,rg 9),(24,rg 20),(20,[24]),(21,[24]),(22,[24]),(23,[24,22]),(25,[23]),(26,[])]
def nA:OL:= [(0,[]),(2,[0]),(3,[0]),(14,[0,2,3]),(15,[0,2,3,14]),(17,[0,2,3,14,15]),(18,[0,2,3,14,15]),(19,[0,2,3,14,15]),(20,[0,2,3,14,15]),(1,[2,3,14,15,17,18,19,20]),(4,[14,15,17,18,19,20]),(5,[14,15,17,18,19,20]),(6,[14,15,17,18,19,20]),(7,[14,15,17,18,19,20]),(8,[14,15,17,18,19,20]),(9,[14,15,17,18,19,20,5,6,7,8]),(10,[14,15,17,18,19,20]),(11,[14,15,17,18,19,20]),(12,[14,15,17,18,19,20]),(13,[14,15,17,18,19,20]),(16,[17,18,19,20]),(21,[]),(22,[]),(23,[]),(24,[]),(25,[]),(26,[])]
def lV:OL:= [(0,[]),(1,[]),(2,[]),(3,[]),(4,rg 4),(5,rg 5),(6,[])]
abbrev Gs (h:ed)(vm:Mp (List UInt8))(sm:Mp Bool)(s:dA)(clock:Nat)(kb:List (List DV×Nat)):List (Nat×aY):=
 [(1000001,Ku h),(1000002,e8 false [.str []] pH vm),(1000003,e8 false [.bool false] Hj sm),(1000004,e8 true (kB oC) kB s.sts),(1000005,Hi s.log),(1000006,Ft s.ats),(1000007,e8 true (lO lJ) lO s.bks),(1000008,.mapB false true [.str] (dO none) (fun K=>s.his.has (bW K)) (fun K=>dO (s.his.val (bW K))) clock kb),(1000010,e8 false [.int .i64 0] Er s.paid),(1000011,Jt s.ref)]
set_option maxHeartbeats 2000000 in
theorem MJ (h:ed)(vm:Mp (List UInt8))(sm:Mp Bool)(s:dA)(x:cO)(clock:Nat)(kb:List (List DV×Nat)):ai Tryz.prog 199 [.ptr 1000001 0,.agg ((iB x).map .d)] (Gs h vm sm s clock kb) (fun y r=>y= .d (.int .i64 (g9 s x))∧r=Gs h vm sm s clock kb):=by
 refine af hT (C:= []) Tryz.func199 rfl Tryz.call199 rfl rfl rfl ?_;conv=>whnf
 repeat' (first|(refine ao (Kt _ x) ⟨lr,lr,trivial⟩ rfl ?_;conv=>whnf)|(refine ac (eK _ _) rfl rfl ?_;rotate_right;conv=>whnf)|((first|refine And.intro (rfl:aK _=some (kB oC)) ?_|refine And.intro (rfl:aK _=some [DV.bool false]) ?_|refine ao (fu [_,_] (by simp)) ⟨aj (by rfl) (by rfl),trivial⟩ rfl ?_|(refine aa ?_ ?_<;>intro hb<;>try simp only[az]at hb)|refine aw hT 1 Bg ?_|refine aw hT 2 BX ?_|omega|refine aA ?_|decide|assumption)<;>conv=>whnf))
 refine .ret _ ?_;conv=>whnf
 exact⟨Gs h vm sm s clock kb,⟨rfl,rfl⟩,rr,rr,rr,rr,rr,rr,rr,rr,rr,rr,trivial⟩
def kN (at0:Int)(t:mh):cy:=kL (t.texts.getD 0 []) (t.texts.getD 1 []) at0 (t.nums.getD 0 0) (t.texts.getD 2 []) ⟨at0,t.texts.getD 3 [],t.nums.getD 1 0,t.nums.getD 2 0⟩
def mb (at0:Int)(t:mh):cO:=⟨at0,t.texts.getD 2 [],t.texts.getD 3 [],2,[]⟩
def Bu (vm:Mp (List UInt8))(sm:Mp Bool)(s:dA)(at0:Int)(t:mh):Int:=
 if bO (kN at0 t)≠0 then bO (kN at0 t)else al [if s.his.has (t.texts.getD 0 [])then 6 else 0,if(!vm.has (t.texts.getD 2 [])|| !sm.val (t.texts.getD 3 []))then 8 else 0,g9 s (mb at0 t),0]
def r7 (vm:Mp (List UInt8))(sm:Mp Bool)(s:dA)(at0:Int)(t:mh):dA:=if Bu vm sm s at0 t=0 then{gW s (mb at0 t)with his:=s.his.put (t.texts.getD 0 []) (some (kN at0 t)),bks:=s.bks.del (t.texts.getD 0 []) lJ}else s
set_option maxHeartbeats 4000000 in
theorem Q6 (h:ed)(vm:Mp (List UInt8))(sm:Mp Bool)(s:dA)(hl:s.log.length≤2^20)(at0:Int)(t:mh)(h1:4≤t.texts.length)(h2:3≤t.nums.length)(h3:∀j,(t.texts.getD j []).length≤2^40)(hf:MA s.his.has):
 ai Tryz.prog 150 [.ptr 1000001 0,.d (.int .i64 at0),.agg ((A7 t).map .d)] (iS h vm sm s) (fun y r=>y= .d (.int .i64 (Bu vm sm s at0 t))∧r=cR h vm sm (r7 vm sm s at0 t)):=by
 have c1:=Ky (t.texts.getD 0 []) (t.texts.getD 1 []) at0 (t.nums.getD 0 0) (t.texts.getD 2 []) ⟨at0,t.texts.getD 3 [],t.nums.getD 1 0,t.nums.getD 2 0⟩ (h3 0) (h3 1) (h3 2) (h3 3);have c2:=MJ h vm sm s (mb at0 t);have c3:=F3 h vm sm s (mb at0 t) hl
 change ai _ _ _ _ (fun y r=>y= .tup [.agg ((gr (if bO (kN at0 t)=0 then kN at0 t else fp)).map .d),.d (.int .i64 (bO (kN at0 t)))]∧r= [])at c1
 have hE:Bu vm sm s at0 t=if bO (kN at0 t)≠0 then bO (kN at0 t)else al [if s.his.has (t.texts.getD 0 [])then 6 else 0,if(!vm.has (t.texts.getD 2 [])|| !sm.val (t.texts.getD 3 []))then 8 else 0,g9 s (mb at0 t),0]:=rfl;generalize g9 s (mb at0 t)=C at c2 hE;have hcn:∀clock kb,KB [.str] (fun K=>s.his.has (bW K)) clock kb→kb.length<500:=fun clock kb hk=>hf.kb hk
 by_cases q:bO (kN at0 t)=0
 · rw [if_pos q,q]at c1;rw[if_neg (fun c=>c q)]at hE;rcases hv:s.his.val (t.texts.getD 0 [])with _|g
   · skip
     refine af hT (C:= []) Tryz.func150 rfl Tryz.call150 rfl rfl rfl ?_;conv=>whnf
     repeat' (first|(refine pA (id:=8) 1000008 rfl ?_;intro clock kb hKB;have hk5:=hcn clock kb hKB;have hk6:¬ (500:Int)≤(kb.length:Int):=(by omega);conv=>whnf)|(refine ac (c1) rfl rfl ?_;rotate_right;conv=>whnf)|((first|refine fz.look (c2 clock kb) L4 rfl ⟨lr,lr,trivial⟩ ⟨⟨_,rfl,rfl⟩,⟨_,rfl,rfl⟩,⟨_,rfl,rfl⟩,⟨_,rfl,rfl⟩,⟨_,rfl,rfl⟩,⟨_,rfl,rfl⟩,⟨_,rfl,rfl⟩,⟨_,rfl,rfl⟩,⟨_,rfl,rfl⟩,⟨_,rfl,rfl⟩,trivial⟩ rfl rfl rfl ?_|(refine fz.of (c3) Ir rfl ⟨lr,lr,trivial⟩ ⟨rr,rr,rr,rr,rr,rr,rr,fZ fun _ _=>⟨rfl,rfl⟩,rr,rr,trivial⟩ rfl rfl ?_;rintro y rout ⟨rfl,rfl⟩;refine⟨rfl,?_⟩))<;>conv=>whnf)|(refine ac (eK _ _) rfl rfl ?_;rotate_right;conv=>whnf)|((first|(refine And.intro (rfl:aK _=some (dO none)) ?_;refine dq (row':=dO none) (congrArg dO hv) ?_)|refine And.intro (rfl:aK _=some (kB oC)) ?_|refine And.intro (rfl:aK _=some [.bool false]) ?_|refine And.intro (rfl:aK _=some (pH [])) ?_|refine And.intro (rfl:aK _=some [.str []]) ?_|refine And.intro (rfl:aK _=some (lO lJ)) ?_|refine And.intro (rfl:aK _=some (dO none)) ?_|refine And.intro (rfl:aK _=some [.int .i64 0]) ?_|refine ao (fu [_,_,_,_] (by simp)) ⟨aj (by rfl) (by rfl),trivial⟩ rfl ?_|(refine aa ?_ ?_<;>intro hb<;>try simp only[az]at hb)|refine aw hT 1 nS ?_|refine aw hT 2 nO ?_|refine aw hT 8 nA ?_|refine aw hT 12 lV ?_|omega|refine aA ?_|decide|assumption)<;>conv=>whnf))
     all_goals first
      | (have hS:r7 vm sm s at0 t=(s):=by
          (try clear hKB);clear c1 c2 c3 hcn hf h3;(try clear hv)
          unfold r7;rw[hE]
          (try simp only[bW,show Int.toNat 0=0 from rfl,show Int.toNat 1=1 from rfl,show Int.toNat 2=2 from rfl,show Int.toNat 3=3 from rfl]at*);first|(simp_all [al];done)|(simp_all [al];grind)|grind [al]
         rw[hS];refine .ent _ _ (ae (ts:= [(6,.d (.int .i64 (Bu vm sm s at0 t)))]) (rs:=cR h vm sm (s)) ue rfl rfl ⟨am (by(try clear hKB);clear c1 c2 c3 hcn hf h3;(try clear hv);first|(rw[hE];done)|(rw[hE];(try simp only[bW,show Int.toNat 0=0 from rfl,show Int.toNat 1=1 from rfl,show Int.toNat 2=2 from rfl,show Int.toNat 3=3 from rfl]at*);first|(simp_all [al];done)|(simp_all [al];grind)|grind [al])),trivial⟩ ⟨rr,rr,rr,rr,rr,rr,rr,fZ fun _ _=>⟨rfl,rfl⟩,rr,rr,trivial⟩) ?_;refine .ret _ ?_;conv=>whnf
         exact⟨_,⟨rfl,rfl⟩,rr,rr,rr,rr,rr,rr,rr,rr,rr,rr,trivial⟩)
      | (have hS:r7 vm sm s at0 t=({gW s (mb at0 t)with his:=s.his.put (t.texts.getD 0 []) (some (kN at0 t)),bks:=s.bks.del (t.texts.getD 0 []) lJ}):=by
          (try clear hKB);clear c1 c2 c3 hcn hf h3;(try clear hv)
          unfold r7;rw[hE]
          (try simp only[bW,show Int.toNat 0=0 from rfl,show Int.toNat 1=1 from rfl,show Int.toNat 2=2 from rfl,show Int.toNat 3=3 from rfl]at*);first|(simp_all [al];done)|(simp_all [al];grind)|grind [al]
         rw[hS];refine .ent _ _ (ae (ts:= [(6,.d (.int .i64 (Bu vm sm s at0 t)))]) (rs:=cR h vm sm ({gW s (mb at0 t)with his:=s.his.put (t.texts.getD 0 []) (some (kN at0 t)),bks:=s.bks.del (t.texts.getD 0 []) lJ})) LZ rfl rfl ⟨am (by(try clear hKB);clear c1 c2 c3 hcn hf h3;(try clear hv);first|(rw[hE];done)|(rw[hE];(try simp only[bW,show Int.toNat 0=0 from rfl,show Int.toNat 1=1 from rfl,show Int.toNat 2=2 from rfl,show Int.toNat 3=3 from rfl]at*);first|(simp_all [al];done)|(simp_all [al];grind)|grind [al])),trivial⟩ ⟨rr,rr,rr,rr,rr,rr,wy,fK (v:=some (kN at0 t)),rr,rr,trivial⟩) ?_;refine .ret _ ?_;conv=>whnf
         exact⟨_,⟨rfl,rfl⟩,rr,rr,rr,rr,rr,rr,rr,rr,rr,rr,trivial⟩)
   · skip
     refine af hT (C:= []) Tryz.func150 rfl Tryz.call150 rfl rfl rfl ?_;conv=>whnf
     repeat' (first|(refine pA (id:=8) 1000008 rfl ?_;intro clock kb hKB;have hk5:=hcn clock kb hKB;have hk6:¬ (500:Int)≤(kb.length:Int):=(by omega);conv=>whnf)|(refine ac (c1) rfl rfl ?_;rotate_right;conv=>whnf)|((first|refine fz.look (c2 clock kb) L4 rfl ⟨lr,lr,trivial⟩ ⟨⟨_,rfl,rfl⟩,⟨_,rfl,rfl⟩,⟨_,rfl,rfl⟩,⟨_,rfl,rfl⟩,⟨_,rfl,rfl⟩,⟨_,rfl,rfl⟩,⟨_,rfl,rfl⟩,⟨_,rfl,rfl⟩,⟨_,rfl,rfl⟩,⟨_,rfl,rfl⟩,trivial⟩ rfl rfl rfl ?_|(refine fz.of (c3) Ir rfl ⟨lr,lr,trivial⟩ ⟨rr,rr,rr,rr,rr,rr,rr,fZ fun _ _=>⟨rfl,rfl⟩,rr,rr,trivial⟩ rfl rfl ?_;rintro y rout ⟨rfl,rfl⟩;refine⟨rfl,?_⟩))<;>conv=>whnf)|(refine ac (eK _ _) rfl rfl ?_;rotate_right;conv=>whnf)|((first|(refine And.intro (rfl:aK _=some (dO none)) ?_;refine dq (row':=gr g) (congrArg dO hv) ?_)|refine And.intro (rfl:aK _=some (kB oC)) ?_|refine And.intro (rfl:aK _=some [.bool false]) ?_|refine And.intro (rfl:aK _=some (pH [])) ?_|refine And.intro (rfl:aK _=some [.str []]) ?_|refine And.intro (rfl:aK _=some (lO lJ)) ?_|refine And.intro (rfl:aK _=some (dO none)) ?_|refine And.intro (rfl:aK _=some [.int .i64 0]) ?_|refine ao (fu [_,_,_,_] (by simp)) ⟨aj (by rfl) (by rfl),trivial⟩ rfl ?_|(refine aa ?_ ?_<;>intro hb<;>try simp only[az]at hb)|refine aw hT 1 nS ?_|refine aw hT 2 nO ?_|refine aw hT 8 nA ?_|refine aw hT 12 lV ?_|omega|refine aA ?_|decide|assumption)<;>conv=>whnf))
     all_goals first
      | (have hS:r7 vm sm s at0 t=(s):=by
          (try clear hKB);clear c1 c2 c3 hcn hf h3;(try clear hv)
          unfold r7;rw[hE]
          (try simp only[bW,show Int.toNat 0=0 from rfl,show Int.toNat 1=1 from rfl,show Int.toNat 2=2 from rfl,show Int.toNat 3=3 from rfl]at*);first|(simp_all [al];done)|(simp_all [al];grind)|grind [al]
         rw[hS];refine .ent _ _ (ae (ts:= [(6,.d (.int .i64 (Bu vm sm s at0 t)))]) (rs:=cR h vm sm (s)) ue rfl rfl ⟨am (by(try clear hKB);clear c1 c2 c3 hcn hf h3;(try clear hv);first|(rw[hE];done)|(rw[hE];(try simp only[bW,show Int.toNat 0=0 from rfl,show Int.toNat 1=1 from rfl,show Int.toNat 2=2 from rfl,show Int.toNat 3=3 from rfl]at*);first|(simp_all [al];done)|(simp_all [al];grind)|grind [al])),trivial⟩ ⟨rr,rr,rr,rr,rr,rr,rr,fZ fun _ _=>⟨rfl,rfl⟩,rr,rr,trivial⟩) ?_;refine .ret _ ?_;conv=>whnf
         exact⟨_,⟨rfl,rfl⟩,rr,rr,rr,rr,rr,rr,rr,rr,rr,rr,trivial⟩)
      | (have hS:r7 vm sm s at0 t=({gW s (mb at0 t)with his:=s.his.put (t.texts.getD 0 []) (some (kN at0 t)),bks:=s.bks.del (t.texts.getD 0 []) lJ}):=by
          (try clear hKB);clear c1 c2 c3 hcn hf h3;(try clear hv)
          unfold r7;rw[hE]
          (try simp only[bW,show Int.toNat 0=0 from rfl,show Int.toNat 1=1 from rfl,show Int.toNat 2=2 from rfl,show Int.toNat 3=3 from rfl]at*);first|(simp_all [al];done)|(simp_all [al];grind)|grind [al]
         rw[hS];refine .ent _ _ (ae (ts:= [(6,.d (.int .i64 (Bu vm sm s at0 t)))]) (rs:=cR h vm sm ({gW s (mb at0 t)with his:=s.his.put (t.texts.getD 0 []) (some (kN at0 t)),bks:=s.bks.del (t.texts.getD 0 []) lJ})) LZ rfl rfl ⟨am (by(try clear hKB);clear c1 c2 c3 hcn hf h3;(try clear hv);first|(rw[hE];done)|(rw[hE];(try simp only[bW,show Int.toNat 0=0 from rfl,show Int.toNat 1=1 from rfl,show Int.toNat 2=2 from rfl,show Int.toNat 3=3 from rfl]at*);first|(simp_all [al];done)|(simp_all [al];grind)|grind [al])),trivial⟩ ⟨rr,rr,rr,rr,rr,rr,wy,fK (v:=some (kN at0 t)),rr,rr,trivial⟩) ?_;refine .ret _ ?_;conv=>whnf
         exact⟨_,⟨rfl,rfl⟩,rr,rr,rr,rr,rr,rr,rr,rr,rr,rr,trivial⟩)
 · rw[if_neg q]at c1;rw[if_pos q]at hE;generalize bO (kN at0 t)=X at c1 hE q;refine af hT (C:= []) Tryz.func150 rfl Tryz.call150 rfl rfl rfl ?_;conv=>whnf
   repeat' (first|(refine ac (c1) rfl rfl ?_;rotate_right;conv=>whnf)|((first|(refine aa ?_ ?_<;>intro hb<;>try simp only[az]at hb)|refine aw hT 1 nS ?_|refine aw hT 2 nO ?_|refine aw hT 8 nA ?_|refine aw hT 12 lV ?_|omega|refine aA ?_|decide|assumption)<;>conv=>whnf))
   all_goals first
    |(exfalso;omega)
    | (have hS:r7 vm sm s at0 t=(s):=by
        (try clear hKB);clear c1 c2 c3 hcn hf h3;(try clear hv)
        unfold r7;rw[hE]
        (try simp only[bW,show Int.toNat 0=0 from rfl,show Int.toNat 1=1 from rfl,show Int.toNat 2=2 from rfl,show Int.toNat 3=3 from rfl]at*);first|(simp_all [al];done)|(simp_all [al];grind)|grind [al]
       rw[hS];refine .ent _ _ (ae (ts:= [(6,.d (.int .i64 (Bu vm sm s at0 t)))]) (rs:=cR h vm sm (s)) ue rfl rfl ⟨am (by(try clear hKB);clear c1 c2 c3 hcn hf h3;(try clear hv);first|(rw[hE];done)|(rw[hE];(try simp only[bW,show Int.toNat 0=0 from rfl,show Int.toNat 1=1 from rfl,show Int.toNat 2=2 from rfl,show Int.toNat 3=3 from rfl]at*);first|(simp_all [al];done)|(simp_all [al];grind)|grind [al])),trivial⟩ ⟨rr,rr,rr,rr,rr,rr,rr,rr,rr,rr,trivial⟩) ?_;refine .ret _ ?_;conv=>whnf
       exact⟨_,⟨rfl,rfl⟩,rr,rr,rr,rr,rr,rr,rr,rr,rr,rr,trivial⟩)
end Go.Proofs.YtodakofifpaljaaGreatDoor
