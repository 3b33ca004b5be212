/- BooksBalance is proved: for every input the law returns true, and its argument reads afterwards as it read before. Conditions: those of the given row alone. -/
import Derived.Test.YtodakofifpaljaaGreatDoorBbConTri
import Derived.Test.YtodakofifpaljaaGreatDoorBbConOne
import Derived.Test.YtodakofifpaljaaGreatDoorBbConTwo
import Derived.Test.YtodakofifpaljaaGreatDoorBbEngTwo
import Derived.Shelf.Spec.SlicesGrow
import Derived.Test.YtodakofifpaljaaGreatDoorProg
set_option linter.unusedVariables false
set_option linter.unusedSimpArgs false
set_option maxRecDepth 20000
namespace Go.Proofs.YtodakofifpaljaaGreatDoor
open Go Go.Eng
theorem Kd:ai Tryz.prog 164 [.d (.int .u64 0)] [] (fun y r=>(∃m:Int,y= .d (.int .i64 m))∧r= []):=by
 refine af hT (C:= []) Tryz.func164 rfl Tryz.call164 rfl rfl rfl ?_;conv=>whnf
 repeat' (first|((first|(refine aa ?_ ?_<;>intro hb<;>try simp only[az]at hb)|omega|refine aA ?_|decide|assumption)<;>conv=>whnf))
 refine .ret _ ?_;conv=>whnf
 exact⟨[],⟨⟨_,rfl⟩,rfl⟩,trivial⟩
theorem K3:ai Tryz.prog 164 [.d (.int .u64 1)] [] (fun y r=>(∃m:Int,y= .d (.int .i64 m))∧r= []):=by
 refine af hT (C:= []) Tryz.func164 rfl Tryz.call164 rfl rfl rfl ?_;conv=>whnf
 repeat' (first|((first|(refine aa ?_ ?_<;>intro hb<;>try simp only[az]at hb)|omega|refine aA ?_|decide|assumption)<;>conv=>whnf))
 refine .ret _ ?_;conv=>whnf
 exact⟨[],⟨⟨_,rfl⟩,rfl⟩,trivial⟩
theorem KP:ai Tryz.prog 164 [.d (.int .u64 2)] [] (fun y r=>(∃m:Int,y= .d (.int .i64 m))∧r= []):=by
 refine af hT (C:= []) Tryz.func164 rfl Tryz.call164 rfl rfl rfl ?_;conv=>whnf
 repeat' (first|((first|(refine aa ?_ ?_<;>intro hb<;>try simp only[az]at hb)|omega|refine aA ?_|decide|assumption)<;>conv=>whnf))
 refine .ret _ ?_;conv=>whnf
 exact⟨[],⟨⟨_,rfl⟩,rfl⟩,trivial⟩
theorem LH:ai Tryz.prog 164 [.d (.int .u64 3)] [] (fun y r=>(∃m:Int,y= .d (.int .i64 m))∧r= []):=by
 refine af hT (C:= []) Tryz.func164 rfl Tryz.call164 rfl rfl rfl ?_;conv=>whnf
 repeat' (first|((first|(refine aa ?_ ?_<;>intro hb<;>try simp only[az]at hb)|omega|refine aA ?_|decide|assumption)<;>conv=>whnf))
 refine .ret _ ?_;conv=>whnf
 exact⟨[],⟨⟨_,rfl⟩,rfl⟩,trivial⟩
theorem JX:ai Tryz.prog 164 [.d (.int .u64 4)] [] (fun y r=>(∃m:Int,y= .d (.int .i64 m))∧r= []):=by
 refine af hT (C:= []) Tryz.func164 rfl Tryz.call164 rfl rfl rfl ?_;conv=>whnf
 repeat' (first|((first|(refine aa ?_ ?_<;>intro hb<;>try simp only[az]at hb)|omega|refine aA ?_|decide|assumption)<;>conv=>whnf))
 refine .ret _ ?_;conv=>whnf
 exact⟨[],⟨⟨_,rfl⟩,rfl⟩,trivial⟩
theorem KH:ai Tryz.prog 164 [.d (.int .u64 5)] [] (fun y r=>(∃m:Int,y= .d (.int .i64 m))∧r= []):=by
 refine af hT (C:= []) Tryz.func164 rfl Tryz.call164 rfl rfl rfl ?_;conv=>whnf
 repeat' (first|((first|(refine aa ?_ ?_<;>intro hb<;>try simp only[az]at hb)|omega|refine aA ?_|decide|assumption)<;>conv=>whnf))
 refine .ret _ ?_;conv=>whnf
 exact⟨[],⟨⟨_,rfl⟩,rfl⟩,trivial⟩
theorem JU:ai Tryz.prog 164 [.d (.int .u64 6)] [] (fun y r=>(∃m:Int,y= .d (.int .i64 m))∧r= []):=by
 refine af hT (C:= []) Tryz.func164 rfl Tryz.call164 rfl rfl rfl ?_;conv=>whnf
 repeat' (first|((first|(refine aa ?_ ?_<;>intro hb<;>try simp only[az]at hb)|omega|refine aA ?_|decide|assumption)<;>conv=>whnf))
 refine .ret _ ?_;conv=>whnf
 exact⟨[],⟨⟨_,rfl⟩,rfl⟩,trivial⟩
theorem Lk:ai Tryz.prog 164 [.d (.int .u64 7)] [] (fun y r=>(∃m:Int,y= .d (.int .i64 m))∧r= []):=by
 refine af hT (C:= []) Tryz.func164 rfl Tryz.call164 rfl rfl rfl ?_;conv=>whnf
 repeat' (first|((first|(refine aa ?_ ?_<;>intro hb<;>try simp only[az]at hb)|omega|refine aA ?_|decide|assumption)<;>conv=>whnf))
 refine .ret _ ?_;conv=>whnf
 exact⟨[],⟨⟨_,rfl⟩,rfl⟩,trivial⟩
theorem Kf:ai Tryz.prog 164 [.d (.int .u64 8)] [] (fun y r=>(∃m:Int,y= .d (.int .i64 m))∧r= []):=by
 refine af hT (C:= []) Tryz.func164 rfl Tryz.call164 rfl rfl rfl ?_;conv=>whnf
 repeat' (first|((first|(refine aa ?_ ?_<;>intro hb<;>try simp only[az]at hb)|omega|refine aA ?_|decide|assumption)<;>conv=>whnf))
 refine .ret _ ?_;conv=>whnf
 exact⟨[],⟨⟨_,rfl⟩,rfl⟩,trivial⟩
theorem LP:ai Tryz.prog 164 [.d (.int .u64 9)] [] (fun y r=>(∃m:Int,y= .d (.int .i64 m))∧r= []):=by
 refine af hT (C:= []) Tryz.func164 rfl Tryz.call164 rfl rfl rfl ?_;conv=>whnf
 repeat' (first|((first|(refine aa ?_ ?_<;>intro hb<;>try simp only[az]at hb)|omega|refine aA ?_|decide|assumption)<;>conv=>whnf))
 refine .ret _ ?_;conv=>whnf
 exact⟨[],⟨⟨_,rfl⟩,rfl⟩,trivial⟩
theorem Ht:ai Tryz.prog 164 [.d (.int .u64 10)] [] (fun y r=>(∃m:Int,y= .d (.int .i64 m))∧r= []):=by
 refine af hT (C:= []) Tryz.func164 rfl Tryz.call164 rfl rfl rfl ?_;conv=>whnf
 repeat' (first|((first|(refine aa ?_ ?_<;>intro hb<;>try simp only[az]at hb)|omega|refine aA ?_|decide|assumption)<;>conv=>whnf))
 refine .ret _ ?_;conv=>whnf
 exact⟨[],⟨⟨_,rfl⟩,rfl⟩,trivial⟩
theorem HA:ai Tryz.prog 164 [.d (.int .u64 11)] [] (fun y r=>(∃m:Int,y= .d (.int .i64 m))∧r= []):=by
 refine af hT (C:= []) Tryz.func164 rfl Tryz.call164 rfl rfl rfl ?_;conv=>whnf
 repeat' (first|((first|(refine aa ?_ ?_<;>intro hb<;>try simp only[az]at hb)|omega|refine aA ?_|decide|assumption)<;>conv=>whnf))
 refine .ret _ ?_;conv=>whnf
 exact⟨[],⟨⟨_,rfl⟩,rfl⟩,trivial⟩
theorem Hv:ai Tryz.prog 164 [.d (.int .u64 12)] [] (fun y r=>(∃m:Int,y= .d (.int .i64 m))∧r= []):=by
 refine af hT (C:= []) Tryz.func164 rfl Tryz.call164 rfl rfl rfl ?_;conv=>whnf
 repeat' (first|((first|(refine aa ?_ ?_<;>intro hb<;>try simp only[az]at hb)|omega|refine aA ?_|decide|assumption)<;>conv=>whnf))
 refine .ret _ ?_;conv=>whnf
 exact⟨[],⟨⟨_,rfl⟩,rfl⟩,trivial⟩
theorem PX (n:Nat)(hn:n≤12):ai Tryz.prog 164 [.d (.int .u64 n)] [] (fun y r=>(∃m:Int,y= .d (.int .i64 m))∧r= []):=by
 match n,hn with
 |0,_=>exact Kd
 |1,_=>exact K3
 |2,_=>exact KP
 |3,_=>exact LH
 |4,_=>exact JX
 |5,_=>exact KH
 |6,_=>exact JU
 |7,_=>exact Lk
 |8,_=>exact Kf
 |9,_=>exact LP
 |10,_=>exact Ht
 |11,_=>exact HA
 |12,_=>exact Hv
 |n+13,h=>omega
theorem FZ (n:Nat)(hn:n≤12):IntKind.u64.wrap n=n:=by
 match n,hn with
 |0,_|1,_|2,_|3,_|4,_|5,_|6,_|7,_|8,_|9,_|10,_|11,_|12,_=>decide
 |n+13,h=>omega
theorem GG (n:Nat)(hn:n≤12):ai Tryz.prog 106 [.d (.int .u64 (IntKind.u64.wrap n))] [] (fun y r=>(∃m:Int,y= .d (.int .i64 m))∧r= []):=by
 rw[FZ n hn];refine af hT (C:= []) Tryz.func106 rfl Tryz.call106 rfl rfl rfl ?_;conv=>whnf
 repeat' (first|((first|(refine aa ?_ ?_<;>intro hb<;>try simp only[az]at hb)|omega|refine aA ?_|decide|assumption)<;>conv=>whnf))
 refine cj (PX n hn) [] ?_;rintro x rout ⟨⟨m,rfl⟩,rfl⟩;refine⟨rfl,?_⟩;conv=>whnf
 refine .ret _ ?_;conv=>whnf
 exact⟨[],⟨⟨_,rfl⟩,rfl⟩,trivial⟩
structure Nf (f:rT):Prop where
 sta:dW Pp 4 f.sta
 cls:NH f.cls
 veh:dW KT 5 f.veh
 plt:dW Po 6 f.plt
theorem Nf.ok {f:rT}(h:Nf f):Db f:=
 ⟨⟨Nat.le_trans h.sta.1 (by decide),fun s hs=>Nat.le_trans (h.sta.2 s hs) (by decide)⟩,⟨Nat.le_trans h.cls.1 (by decide),fun s hs=>⟨Nat.le_trans (h.cls.2 s hs).1 (by decide),Nat.le_trans (h.cls.2 s hs).2 (by decide)⟩⟩,
   ⟨Nat.le_trans h.veh.1 (by decide),fun s hs=>⟨Nat.le_trans (h.veh.2 s hs).1 (by decide),Nat.le_trans (h.veh.2 s hs).2 (by decide)⟩⟩,⟨Nat.le_trans h.plt.1 (by decide),fun s hs=>⟨(h.plt.2 s hs).1,Nat.le_trans (h.plt.2 s hs).2.1 (by decide),Nat.le_trans (h.plt.2 s hs).2.2 (by decide)⟩⟩⟩
def nL:OL:= [(0,[]),(1,[]),(2,[0,1]),(3,[0,1,2]),(4,[0,1]),(5,[]),(6,[])]
def rz (x:iy):Prop:=x.cls.length≤8
def c3:List (List UInt8):= [[109,97,120,105],[109,105,100,105],[109,105,110,105]]
set_option maxHeartbeats 4000000 in
theorem Pj (n:Nat)(L:Nat→Int)(hL:sB n L)(a:Int)(h0:0≤a)(ha:a≤2^36):
 ai Tryz.prog 37 [.ptr 1000000 0] [(1000000,bj n L a)] (fun y r=>∃l:List iy,∃b,dW rz 9 l∧(a≤b∧b≤a+100)∧y= .buf 3∧r= [(3,aM 189 7 pe bN l),(1000000,bj n L b)]):=by
 refine af hT (C:= []) Tryz.func37 rfl Tryz.call37 rfl rfl rfl ?_;conv=>whnf
 refine ah hT (C:= []) (ι:=Int×List iy×Nat) (fun(b,l,i)=>(a≤b∧b≤a+30*i∧i≤3)∧dW rz (3*i) l)
  (fun(b,l,i)=>aN [(0,.ptr 1000000 0),(3,.buf 3),(8,.d (ir c3)),(9,.d (.int .i64 3)),(10,.d (.int .i64 i))] [(1000000,bj n L b),(3,aM 189 7 pe bN l)])
  (fun(_,_,i)=>3 - i) (a,[],0) ⟨⟨by simp,by simp,by simp⟩,⟨by simp,by simp⟩⟩ ?_ ?_
 · refine(dv.nil 3 3 189 7 (aV pe bN []) rfl rfl (by decide)).trans (ae [(1000000,1000000),(3,3)] rfl rfl ⟨lr,lr,aj rfl rfl,lr,lr,trivial⟩ ⟨rr,rr,trivial⟩)
 rintro⟨b,l,i⟩ ⟨⟨p1,p2,p3⟩,p4⟩;have p1:a≤b:=p1;have p2:b≤a+30*i:=p2;have p3:i≤3:=p3;have p4:dW rz (3*i) l:=p4;have hc3:c3.length=3:=rfl;have hl1:l.length≤3*i:=p4.1;rcases Nat.lt_or_ge i 3 with hi|hi
 · conv=>whnf
   repeat' (first|(refine fz.of (jL n L hL _ ?_ ?_ [0,0,0,3] ?_ ?_) [(1000000,1000000)] rfl ⟨lr,aj rfl rfl,trivial⟩ ⟨rr,trivial⟩ rfl rfl ?_;rotate_right;rintro x rout ⟨⟨u1,hu1,rfl⟩,⟨c,c1,c2,rfl⟩⟩;have hw1:=Oa hu1 (by decide);refine⟨rfl,?_⟩;conv=>whnf)|(refine fz.of (jL n L hL _ ?_ ?_ [0,1,1,2,3] ?_ ?_) [(1000000,1000000)] rfl ⟨lr,aj rfl rfl,trivial⟩ ⟨rr,trivial⟩ rfl rfl ?_;rotate_right;rintro x rout ⟨⟨u2,hu2,rfl⟩,⟨c,c1,c2,rfl⟩⟩;refine⟨rfl,?_⟩;conv=>whnf)|((first|(refine aa ?_ ?_<;>intro hb<;>try simp only[az]at hb)|refine aw hT 12 nL ?_|omega|refine aA ?_|decide|assumption)<;>conv=>whnf))
   all_goals try(exfalso;omega)
   have hw2:0≤u2∧u2≤3:=by simp only[List.mem_cons,List.not_mem_nil,or_false]at hu2;omega
   have hw3:u1≤5000:=by omega
   have hkk:(c3.getD (i:Int).toNat []).length≤8:=bV (aq (by omega)) rfl;obtain⟨cc,hcc⟩:∃cc:Int,cc=c:=⟨_,rfl⟩;obtain⟨ky,hky⟩:∃ky,ky=c3.getD (i:Int).toNat []:=⟨_,rfl⟩
   refine ah hT (C:= []) (ι:=Int×List iy×Int×Nat) (fun(d,m,f,k)=>(cc≤d∧d≤cc+6*k∧(k:Int)≤u2)∧dW rz (3*i+k) m∧0≤f∧f≤5000)
    (fun(d,m,f,k)=>aN [(0,.ptr 1000000 0),(3,.buf 3),(5,.d (.str ky)),(6,.d (.int .i64 f)),(8,.d (ir c3)),(9,.d (.int .i64 3)),(10,.d (.int .i64 i)),(19,.d (.int .i64 u2)),(20,.d (.int .i64 k))] [(1000000,bj n L d),(3,aM 189 7 pe bN m)])
    (fun(_,_,_,k)=>u2.toNat - k) (cc,l,u1,0) ⟨⟨by simp,by simp,by show((0:Nat):Int)≤u2;omega⟩,p4,by show 0≤u1;omega,by show u1≤5000;omega⟩ (by subst hcc hky;exact(by exact bz [(1000000,1000000),(3,3)])) ?_
   rintro⟨d,m,f,k⟩ ⟨⟨q1,q2,q3⟩,q4,q5,q6⟩;have q1:cc≤d:=q1;have q2:d≤cc+6*k:=q2;have q3:(k:Int)≤u2:=q3;have q4:dW rz (3*i+k) m:=q4;have q5:0≤f:=q5;have q6:f≤5000:=q6;have hm1:m.length≤3*i+k:=q4.1;conv=>whnf
   repeat' (first|(refine fz.of (jL n L hL _ ?_ ?_ [1,5,20,4000] ?_ ?_) [(1000000,1000000)] rfl ⟨lr,aj rfl rfl,trivial⟩ ⟨rr,trivial⟩ rfl rfl ?_;rotate_right;rintro x rout ⟨⟨u3,hu3,rfl⟩,⟨c,c1,c2,rfl⟩⟩;have hw4:0≤u3∧u3≤4000:=(by simp only[List.mem_cons,List.not_mem_nil,or_false]at hu3;omega);refine⟨rfl,?_⟩;conv=>whnf)|(refine fz.of (jL n L hL _ ?_ ?_ [-1,5,10,10,0] ?_ ?_) [(1000000,1000000)] rfl ⟨lr,aj rfl rfl,trivial⟩ ⟨rr,trivial⟩ rfl rfl ?_;rotate_right;rintro x rout ⟨⟨u4,hu4,rfl⟩,⟨c,c1,c2,rfl⟩⟩;refine⟨rfl,?_⟩;conv=>whnf)|(refine fz.of (jL n L hL _ ?_ ?_ [-1,50,50,70,40] ?_ ?_) [(1000000,1000000)] rfl ⟨lr,aj rfl rfl,trivial⟩ ⟨rr,trivial⟩ rfl rfl ?_;rotate_right;rintro x rout ⟨⟨u5,hu5,rfl⟩,⟨c,c1,c2,rfl⟩⟩;refine⟨rfl,?_⟩;conv=>whnf)|(refine fz.of (jL n L hL _ ?_ ?_ [-1,70,90,100] ?_ ?_) [(1000000,1000000)] rfl ⟨lr,aj rfl rfl,trivial⟩ ⟨rr,trivial⟩ rfl rfl ?_;rotate_right;rintro x rout ⟨⟨u6,hu6,rfl⟩,⟨c,c1,c2,rfl⟩⟩;refine⟨rfl,?_⟩;conv=>whnf)|(refine fz.of (jL n L hL _ ?_ ?_ [-1,200,250,300] ?_ ?_) [(1000000,1000000)] rfl ⟨lr,aj rfl rfl,trivial⟩ ⟨rr,trivial⟩ rfl rfl ?_;rotate_right;rintro x rout ⟨⟨u7,hu7,rfl⟩,⟨c,c1,c2,rfl⟩⟩;refine⟨rfl,?_⟩;conv=>whnf)|(refine fz.of (jL n L hL _ ?_ ?_ [0,0,0,2] ?_ ?_) [(1000000,1000000)] rfl ⟨lr,aj rfl rfl,trivial⟩ ⟨rr,trivial⟩ rfl rfl ?_;rotate_right;rintro x rout ⟨⟨u8,hu8,rfl⟩,⟨c,c1,c2,rfl⟩⟩;have hw8:0≤u8∧u8≤2:=(by simp only[List.mem_cons,List.not_mem_nil,or_false]at hu8;omega);refine⟨rfl,?_⟩;conv=>whnf)|((first|(refine And.intro (by show aF (min (f+u3) 4001+u8);unfold aF;omega) ?_)|(refine aa ?_ ?_<;>intro hb<;>try simp only[az]at hb)|refine aw hT 12 nL ?_|omega|refine aA ?_|decide|assumption)<;>conv=>whnf))
   · exact⟨(c,m,i+1),⟨⟨by omega,by show _≤a+30*((i+1:Nat):Int);omega,by omega⟩,dJ q4 (by omega)⟩,by show 3 - (i+1)<3 - i;omega,(by exact bz [(1000000,1000000),(3,3)])⟩
   · exact⟨(_,m++ [⟨ky,f,min (f+u3) 4001,u4,u5,u6,u7⟩],min (f+u3) 4001+u8,k+1),⟨⟨by omega,by show _≤cc+6*((k+1:Nat):Int);omega,by show((k+1:Nat):Int)≤u2;omega⟩,fi q4 (by omega) (by show ky.length≤8;rw[hky];exact hkk),by show 0≤min (f+u3) 4001+u8;omega,by show min (f+u3) 4001+u8≤5000;omega⟩,by show u2.toNat - (k+1)<u2.toNat - k;omega,
      ae [(1000000,1000000),(3,54)] rfl rfl ⟨lr,lr,lr,lr,lr,lr,lr,lr,lr,trivial⟩ ⟨rr,aR rfl,trivial⟩⟩
   · exact⟨(d,m,i+1),⟨⟨by omega,by show _≤a+30*((i+1:Nat):Int);omega,by omega⟩,dJ q4 (by omega)⟩,by show 3 - (i+1)<3 - i;omega,(by exact bz [(1000000,1000000),(3,3)])⟩
 · conv=>whnf
   repeat' (first|((first|(refine aa ?_ ?_<;>intro hb<;>try simp only[az]at hb)|refine aw hT 12 nL ?_|omega|refine aA ?_|decide|assumption)<;>conv=>whnf))
   all_goals try(exfalso;omega)
   refine .ret _ ?_;conv=>whnf
   exact⟨[(3,aM 189 7 pe bN l),(1000000,bj n L _)],⟨l,b,dJ p4 (by omega),⟨by omega,by omega⟩,rfl,rfl⟩,rr,rr,trivial⟩
set_option maxHeartbeats 4000000 in
theorem LQ (n:Nat)(L:Nat→Int)(hL:sB n L)(a:Int)(h0:0≤a)(ha:a≤2^35):
 ai Tryz.prog 76 [.ptr 1000000 0] [(1000000,bj n L a)] (fun y r=>(∃l:List iy,dW rz 10 l∧y= .d (fR l))∧ik n L a 120 r):=by
 refine af hT (C:= []) Tryz.func76 rfl Tryz.call76 rfl rfl rfl ?_;conv=>whnf
 refine fz.of (Pj n L hL _ ?_ ?_) [(1000000,1000000),(3,6)] rfl ⟨lr,trivial⟩ ⟨rr,trivial⟩ rfl rfl ?_
 rotate_right
 rintro x rout ⟨l,b,p4,⟨p1,p2⟩,rfl,rfl⟩;refine⟨rfl,?_⟩;have hl1:l.length≤9:=p4.1;conv=>whnf
 repeat' (first|(refine fz.of (CD n L hL _ ?_ ?_ 12 ?_) [(1000000,1000000)] rfl ⟨lr,lr,trivial⟩ ⟨rr,trivial⟩ rfl rfl ?_;rotate_right;rintro x rout ⟨⟨w,rfl⟩,⟨c,c1,c2,rfl⟩⟩;refine⟨rfl,?_⟩;conv=>whnf)|(refine fz.of (EP n L hL _ ?_ ?_ 4 ?_) [(1000000,1000000)] rfl ⟨lr,lr,trivial⟩ ⟨rr,trivial⟩ rfl rfl ?_;rotate_right;rintro x rout ⟨⟨m,hm1,hm2,hm3,rfl⟩,⟨c,c1,c2,rfl⟩⟩;refine⟨rfl,?_⟩;conv=>whnf)|(refine fz.of (EP n L hL _ ?_ ?_ _ ?_) [(1000000,1000000)] rfl ⟨lr,lr,trivial⟩ ⟨rr,trivial⟩ rfl rfl ?_;rotate_right;rintro x rout ⟨⟨j,hj1,hj2,hj3,rfl⟩,⟨c,c1,c2,rfl⟩⟩;refine⟨rfl,?_⟩;conv=>whnf)|(refine fz.of (ua n L hL _ ?_ ?_ [[],[65],[109,105,110,105],[122,101,100]] (by simp) (by simp)) [(1000000,1000000)] rfl ⟨lr,aj rfl rfl,trivial⟩ ⟨rr,trivial⟩ rfl rfl ?_;rotate_right;rintro x rout ⟨⟨u1,hu1,rfl⟩,⟨c,c1,c2,rfl⟩⟩;refine⟨rfl,?_⟩;conv=>whnf)|(refine fz.of (oe n L hL _ ?_ ?_ 0 10 ?_ ?_ ?_) [(1000000,1000000)] rfl ⟨lr,lr,lr,trivial⟩ ⟨rr,trivial⟩ rfl rfl ?_;rotate_right;rintro x rout ⟨⟨o1,ho1,ho2,rfl⟩,⟨c,c1,c2,rfl⟩⟩;refine⟨rfl,?_⟩;conv=>whnf)|(refine fz.of (oe n L hL _ ?_ ?_ 1 4001 ?_ ?_ ?_) [(1000000,1000000)] rfl ⟨lr,lr,lr,trivial⟩ ⟨rr,trivial⟩ rfl rfl ?_;rotate_right;rintro x rout ⟨⟨o2,ho3,ho4,rfl⟩,⟨c,c1,c2,rfl⟩⟩;refine⟨rfl,?_⟩;conv=>whnf)|(refine fz.of (oe n L hL _ ?_ ?_ (-1) 1000000 ?_ ?_ ?_) [(1000000,1000000)] rfl ⟨lr,lr,lr,trivial⟩ ⟨rr,trivial⟩ rfl rfl ?_;rotate_right;rintro x rout ⟨⟨o3,ho5,ho6,rfl⟩,⟨c,c1,c2,rfl⟩⟩;refine⟨rfl,?_⟩;conv=>whnf)|((first|(refine aa ?_ ?_<;>intro hb<;>try simp only[az]at hb)|omega|refine aA ?_|decide|assumption)<;>conv=>whnf))
 all_goals try(exact h0)
 all_goals try omega
 · have hw1:u1.length≤8:=bV hu1 rfl;refine .freeze _ 6 189 7 _ _ rfl (.weak _ ?_);conv=>whnf
   exact⟨.d (fR (mi l j.toNat bN fun y=>{y with cls:=u1})),[(1000000,bj n L _)],vr (fun y:iy=>{y with cls:=u1}) (fun _=>rfl),⟨⟨_,iZ (g:=fun y:iy=>{y with cls:=u1}) (dJ p4 (by omega)) (fun y hy=>hw1),rfl⟩,_,by omega,by omega,rfl⟩,rr,trivial⟩
 · refine .freeze _ 6 189 7 _ _ rfl (.weak _ ?_);conv=>whnf
   have hrow:=f8 (f:=pe) (d:=bN) (f8 (l:=l) (j:=j.toNat) (off:=1) (ds:= [.int .i64 o1]) (fun _ _=>rfl) (fun y:iy=>{y with frm:=o1}) (fun _=>rfl)) (off:=2) (ds:= [.int .i64 o2]) (j:=j.toNat) (fun y:iy=>{y with to:=o2}) (fun _=>rfl);exact⟨.d (fR (mi (mi l j.toNat bN fun y=>{y with frm:=o1}) j.toNat bN fun y=>{y with to:=o2})),[(1000000,bj n L _)],bt (by simp) (fun i hi=>hrow i (by simpa using hi)),⟨⟨_,iZ (g:=fun y:iy=>{y with to:=o2}) (iZ (g:=fun y:iy=>{y with frm:=o1}) (dJ p4 (by omega)) (fun y hy=>hy)) (fun y hy=>hy),rfl⟩,_,by omega,by omega,rfl⟩,rr,trivial⟩
 · refine .freeze _ 6 189 7 _ _ rfl (.weak _ ?_);conv=>whnf
   exact⟨.d (fR (mi l j.toNat bN fun y=>{y with dy:=o3})),[(1000000,bj n L _)],vr (fun y:iy=>{y with dy:=o3}) (fun _=>rfl),⟨⟨_,iZ (g:=fun y:iy=>{y with dy:=o3}) (dJ p4 (by omega)) (fun y hy=>hy),rfl⟩,_,by omega,by omega,rfl⟩,rr,trivial⟩
 · refine .freeze _ 27 189 7 _ _ rfl (.weak _ ?_);conv=>whnf
   exact⟨.d (fR (l++ [l.getD 0 bN])),[(1000000,bj n L _)],bt (by simp) (lb rfl),⟨⟨_,fi p4 (by omega) (p4.2 _ (aq (by omega))),rfl⟩,_,by omega,by omega,rfl⟩,rr,trivial⟩
 all_goals
  refine .freeze _ 6 189 7 _ _ rfl (.weak _ ?_);conv=>whnf
  exact⟨.d (fR l),[(1000000,bj n L _)],lr,⟨⟨_,dJ p4 (by omega),rfl⟩,_,by omega,by omega,rfl⟩,rr,trivial⟩
def ED:OL:= [(0,[]),(1,[0]),(2,[0]),(3,[0,1,2]),(4,[0,1,2]),(5,rg 5),(6,rg 6),(7,rg 5),(8,[0]),(9,[0]),(10,[]),(11,[])]
def NF (x:AY):Prop:=x.key.length≤8
def NY (x:Fe):Prop:=x.a.length≤8∧x.b.length≤8
def IK (x:vX):Prop:=x.key.length≤8∧x.cls.length≤8
theorem Cj {e:List AY}{g:Nat→List DV}{m:Int}(h0:0≤m)(h2:m≤2)(hl:e.length=2)(q0:g 0=Lj (e.getD 0 uo))(q1:g 1=Lj (e.getD 1 uo)):SV.le (.d (.ro 4 m.toNat g)) (.d (uq (e.take m.toNat))):=
 bt (by rw[List.length_take];omega) (fun i hi=>by
  have:i=0∨i=1:=by omega
  simp only[aV,qu hi];rcases this with rfl|rfl
  · exact q0
  · exact q1)
set_option maxHeartbeats 4000000 in
theorem Iq (n:Nat)(L:Nat→Int)(hL:sB n L)(a:Int)(h0:0≤a)(ha:a≤2^36):
 ai Tryz.prog 77 [.ptr 1000000 0] [(1000000,bj n L a)] (fun y r=>(∃l:List AY,dW NF 2 l∧y= .d (uq l))∧ik n L a 20 r):=by
 refine af hT (C:= [24]) Tryz.func77 rfl Tryz.call77 rfl rfl rfl ?_;conv=>whnf
 repeat' (first|(refine fz.of (jL n L hL _ ?_ ?_ [0,5,100] ?_ ?_) [(1000000,1000000)] rfl ⟨lr,aj rfl rfl,trivial⟩ ⟨rr,trivial⟩ rfl rfl ?_;rotate_right;rintro x rout ⟨⟨u1,hu1,rfl⟩,⟨c,c1,c2,rfl⟩⟩;refine⟨rfl,?_⟩;conv=>whnf)|(refine fz.of (jL n L hL _ ?_ ?_ [0,2] ?_ ?_) [(1000000,1000000)] rfl ⟨lr,aj rfl rfl,trivial⟩ ⟨rr,trivial⟩ rfl rfl ?_;rotate_right;rintro x rout ⟨⟨u2,hu2,rfl⟩,⟨c,c1,c2,rfl⟩⟩;refine⟨rfl,?_⟩;conv=>whnf)|(refine fz.of (jL n L hL _ ?_ ?_ [-1,0,7] ?_ ?_) [(1000000,1000000)] rfl ⟨lr,aj rfl rfl,trivial⟩ ⟨rr,trivial⟩ rfl rfl ?_;rotate_right;rintro x rout ⟨⟨u3,hu3,rfl⟩,⟨c,c1,c2,rfl⟩⟩;refine⟨rfl,?_⟩;conv=>whnf)|(refine fz.of (jL n L hL _ ?_ ?_ [0,10] ?_ ?_) [(1000000,1000000)] rfl ⟨lr,aj rfl rfl,trivial⟩ ⟨rr,trivial⟩ rfl rfl ?_;rotate_right;rintro x rout ⟨⟨u4,hu4,rfl⟩,⟨c,c1,c2,rfl⟩⟩;refine⟨rfl,?_⟩;conv=>whnf)|(refine fz.of (jL n L hL _ ?_ ?_ [0,3,50] ?_ ?_) [(1000000,1000000)] rfl ⟨lr,aj rfl rfl,trivial⟩ ⟨rr,trivial⟩ rfl rfl ?_;rotate_right;rintro x rout ⟨⟨u5,hu5,rfl⟩,⟨c,c1,c2,rfl⟩⟩;refine⟨rfl,?_⟩;conv=>whnf)|(refine fz.of (jL n L hL _ ?_ ?_ [-1,-1,20,1000] ?_ ?_) [(1000000,1000000)] rfl ⟨lr,aj rfl rfl,trivial⟩ ⟨rr,trivial⟩ rfl rfl ?_;rotate_right;rintro x rout ⟨⟨u6,hu6,rfl⟩,⟨c,c1,c2,rfl⟩⟩;refine⟨rfl,?_⟩;conv=>whnf)|(refine fz.of (CD n L hL _ ?_ ?_ 15 ?_) [(1000000,1000000)] rfl ⟨lr,lr,trivial⟩ ⟨rr,trivial⟩ rfl rfl ?_;rotate_right;rintro x rout ⟨⟨w,rfl⟩,⟨c,c1,c2,rfl⟩⟩;refine⟨rfl,?_⟩;conv=>whnf)|(refine fz.of (ua n L hL _ ?_ ?_ [[],[65],[109,97,112],[115,101,97,116]] (by simp) (by simp)) [(1000000,1000000)] rfl ⟨lr,aj rfl rfl,trivial⟩ ⟨rr,trivial⟩ rfl rfl ?_;rotate_right;rintro x rout ⟨⟨v1,hv1,rfl⟩,⟨c,c1,c2,rfl⟩⟩;refine⟨rfl,?_⟩;conv=>whnf)|(refine fz.of (oe n L hL _ ?_ ?_ 0 1000000 ?_ ?_ ?_) [(1000000,1000000)] rfl ⟨lr,lr,lr,trivial⟩ ⟨rr,trivial⟩ rfl rfl ?_;rotate_right;rintro x rout ⟨⟨o1,ho1,ho2,rfl⟩,⟨c,c1,c2,rfl⟩⟩;refine⟨rfl,?_⟩;conv=>whnf)|(refine fz.of (oe n L hL _ ?_ ?_ (-1) 1000000 ?_ ?_ ?_) [(1000000,1000000)] rfl ⟨lr,lr,lr,trivial⟩ ⟨rr,trivial⟩ rfl rfl ?_;rotate_right;rintro x rout ⟨⟨o2,ho3,ho4,rfl⟩,⟨c,c1,c2,rfl⟩⟩;refine⟨rfl,?_⟩;conv=>whnf)|(refine fz.of (jL n L hL _ ?_ ?_ [0,1,2,2] ?_ ?_) [(1000000,1000000)] rfl ⟨lr,aj rfl rfl,trivial⟩ ⟨rr,trivial⟩ rfl rfl ?_;rotate_right;rintro x rout ⟨⟨m,hm,rfl⟩,⟨c,c1,c2,rfl⟩⟩;have hm2:0≤m∧m≤2:=(by simp only[List.mem_cons,List.not_mem_nil,or_false]at hm;omega);refine⟨rfl,?_⟩;conv=>whnf)|((first|refine pP.first (lo:=none) rfl ?_|(refine aa ?_ ?_<;>intro hb<;>try simp only[az]at hb)|omega|refine aA ?_|decide|assumption)<;>conv=>whnf))
 all_goals try(exact h0)
 all_goals try omega
 · have hw:v1.length≤8:=bV hv1 rfl;refine .freeze _ 41 234 4 _ _ rfl (.weak _ ?_);conv=>whnf
   refine⟨.d (uq (([⟨[109,97,112],u1,u2,u3⟩,⟨v1,o1,0,o2⟩]:List AY).take m.toNat)),[(1000000,bj n L _)],Cj hm2.1 hm2.2 rfl rfl rfl,⟨⟨_,⟨by rw[List.length_take];exact Nat.min_le_right _ _,fun x hx=> ?_⟩,rfl⟩,_,by omega,by omega,rfl⟩,rr,trivial⟩;have hx:=List.mem_of_mem_take hx;simp only[List.mem_cons,List.not_mem_nil,or_false]at hx;rcases hx with rfl|rfl
   · show([109,97,112]:List UInt8).length≤8;decide
   · exact hw
 · refine .freeze _ 41 234 4 _ _ rfl (.weak _ ?_);conv=>whnf
   refine⟨.d (uq (([⟨[109,97,112],u1,u2,u3⟩,⟨[115,101,97,116],u4,u5,u6⟩]:List AY).take m.toNat)),[(1000000,bj n L _)],Cj hm2.1 hm2.2 rfl rfl rfl,⟨⟨_,⟨by rw[List.length_take];exact Nat.min_le_right _ _,fun x hx=> ?_⟩,rfl⟩,_,by omega,by omega,rfl⟩,rr,trivial⟩;have hx:=List.mem_of_mem_take hx;simp only[List.mem_cons,List.not_mem_nil,or_false]at hx;rcases hx with rfl|rfl
   · show([109,97,112]:List UInt8).length≤8;decide
   · show([115,101,97,116]:List UInt8).length≤8;decide
def Q2 (p:List UInt8×List UInt8):List DV:= [.str p.1,.str p.2]
def f4:List (List UInt8×List UInt8):= [([115,49],[115,50]),([115,49],[115,51]),([115,50],[115,49]),([115,51],[115,50])]
theorem KV (i:Nat):(f4.getD i ([],[])).1.length≤8∧(f4.getD i ([],[])).2.length≤8:=by
 match i with
 |0=>decide
 |1=>decide
 |2=>decide
 |3=>decide
 |i+4=>simp[f4]
set_option maxHeartbeats 4000000 in
theorem Nh (n:Nat)(L:Nat→Int)(hL:sB n L)(a:Int)(h0:0≤a)(ha:a≤2^36):
 ai Tryz.prog 78 [.ptr 1000000 0] [(1000000,bj n L a)] (fun y r=>(∃l:List Fe,dW NY 5 l∧y= .d (ER l))∧ik n L a 20 r):=by
 refine af hT (C:= []) Tryz.func78 rfl Tryz.call78 rfl rfl rfl ?_;conv=>whnf
 refine ah hT (C:= []) (ι:=Int×List Fe×Nat) (fun(b,l,i)=>(a≤b∧b≤a+2*i∧i≤4)∧dW NY i l)
  (fun(b,l,i)=>aN [(0,.ptr 1000000 0),(3,.buf 3),(10,.d (dD 2 Q2 ([],[]) f4)),(11,.d (.int .i64 4)),(12,.d (.int .i64 i))] [(1000000,bj n L b),(3,aM 238 3 OO uz l)])
  (fun(_,_,i)=>4 - i) (a,[],0) ⟨⟨by simp,by simp,by simp⟩,⟨by simp,by simp⟩⟩ ?_ ?_
 · refine(dv.nil 3 3 238 3 (aV OO uz []) rfl rfl (by decide)).trans (ae [(1000000,1000000),(3,3)] rfl rfl ⟨lr,lr,aj rfl rfl,lr,lr,trivial⟩ ⟨rr,rr,trivial⟩)
 rintro⟨b,l,i⟩ ⟨⟨p1,p2,p3⟩,p4⟩;have p1:a≤b:=p1;have p2:b≤a+2*i:=p2;have p3:i≤4:=p3;have p4:dW NY i l:=p4;have hc3:f4.length=4:=rfl;have hl1:l.length≤i:=p4.1;have e1:(i:Int).toNat=i:=Int.toNat_natCast i;have hf:=KV (i:Int).toNat;conv=>whnf
 repeat' (first|(refine fz.of (CD n L hL _ ?_ ?_ 3 ?_) [(1000000,1000000)] rfl ⟨lr,lr,trivial⟩ ⟨rr,trivial⟩ rfl rfl ?_;rotate_right;rintro x rout ⟨⟨w,rfl⟩,⟨c,c1,c2,rfl⟩⟩;refine⟨rfl,?_⟩;conv=>whnf)|(refine fz.of (jL n L hL _ ?_ ?_ [0,40,700] ?_ ?_) [(1000000,1000000)] rfl ⟨lr,aj rfl rfl,trivial⟩ ⟨rr,trivial⟩ rfl rfl ?_;rotate_right;rintro x rout ⟨⟨u1,hu1,rfl⟩,⟨c,c1,c2,rfl⟩⟩;refine⟨rfl,?_⟩;conv=>whnf)|(refine fz.of (CD n L hL _ ?_ ?_ 15 ?_) [(1000000,1000000)] rfl ⟨lr,lr,trivial⟩ ⟨rr,trivial⟩ rfl rfl ?_;rotate_right;rintro x rout ⟨⟨w2,rfl⟩,⟨c,c1,c2,rfl⟩⟩;refine⟨rfl,?_⟩;conv=>whnf)|(refine fz.of (ua n L hL _ ?_ ?_ [[115,51],[65],[115,49]] (by simp) (by simp)) [(1000000,1000000)] rfl ⟨lr,aj rfl rfl,trivial⟩ ⟨rr,trivial⟩ rfl rfl ?_;rotate_right;rintro x rout ⟨⟨v1,hv1,rfl⟩,⟨c,c1,c2,rfl⟩⟩;refine⟨rfl,?_⟩;conv=>whnf)|(refine fz.of (ua n L hL _ ?_ ?_ [[115,51],[115,57],[]] (by simp) (by simp)) [(1000000,1000000)] rfl ⟨lr,aj rfl rfl,trivial⟩ ⟨rr,trivial⟩ rfl rfl ?_;rotate_right;rintro x rout ⟨⟨v2,hv2,rfl⟩,⟨c,c1,c2,rfl⟩⟩;refine⟨rfl,?_⟩;conv=>whnf)|(refine fz.of (oe n L hL _ ?_ ?_ 0 1000000 ?_ ?_ ?_) [(1000000,1000000)] rfl ⟨lr,lr,lr,trivial⟩ ⟨rr,trivial⟩ rfl rfl ?_;rotate_right;rintro x rout ⟨⟨o1,ho1,ho2,rfl⟩,⟨c,c1,c2,rfl⟩⟩;refine⟨rfl,?_⟩;conv=>whnf)|((first|(refine aa ?_ ?_<;>intro hb<;>try simp only[az]at hb)|refine aw hT 6 ED ?_|omega|refine aA ?_|decide|assumption)<;>conv=>whnf))
 all_goals try(exact h0)
 all_goals try omega
 · exact⟨(c,l++ [⟨(f4.getD (i:Int).toNat ([],[])).1,(f4.getD (i:Int).toNat ([],[])).2,u1⟩],i+1),⟨⟨by omega,by show _≤a+2*((i+1:Nat):Int);omega,by omega⟩,fi p4 (by omega) (show NY ⟨(f4.getD (i:Int).toNat ([],[])).1,(f4.getD (i:Int).toNat ([],[])).2,u1⟩from hf)⟩,by show 4 - (i+1)<4 - i;omega,
    ae [(1000000,1000000),(3,29)] rfl rfl ⟨lr,lr,lr,lr,lr,trivial⟩ ⟨rr,aR rfl,trivial⟩⟩
 · exact⟨(c,l,i+1),⟨⟨by omega,by show _≤a+2*((i+1:Nat):Int);omega,by omega⟩,dJ p4 (by omega)⟩,by show 4 - (i+1)<4 - i;omega,(by exact bz [(1000000,1000000),(3,3)])⟩
 · refine .freeze _ 44 238 3 _ _ rfl (.weak _ ?_);conv=>whnf
   exact⟨.d (ER (l++ [⟨v1,v2,o1⟩])),[(1000000,bj n L _)],bt (by simp) (lb rfl),⟨⟨_,fi p4 (by omega) ⟨bV hv1 rfl,bV hv2 rfl⟩,rfl⟩,_,by omega,by omega,rfl⟩,rr,trivial⟩
 · refine .freeze _ 3 238 3 _ _ rfl (.weak _ ?_);conv=>whnf
   exact⟨.d (ER l),[(1000000,bj n L _)],lr,⟨⟨_,dJ p4 (by omega),rfl⟩,_,by omega,by omega,rfl⟩,rr,trivial⟩
def k3:List (List UInt8):= [[97,49,48],[98,50,48],[99,51,48]]
set_option maxHeartbeats 4000000 in
theorem LA (n:Nat)(L:Nat→Int)(hL:sB n L)(a:Int)(h0:0≤a)(ha:a≤2^36):
 ai Tryz.prog 79 [.ptr 1000000 0] [(1000000,bj n L a)] (fun y r=>(∃l:List vX,dW IK 3 l∧y= .d (ug l))∧ik n L a 40 r):=by
 refine af hT (C:= []) Tryz.func79 rfl Tryz.call79 rfl rfl rfl ?_;conv=>whnf
 refine ah hT (C:= []) (ι:=Int×List vX×Nat) (fun(b,l,i)=>(a≤b∧b≤a+8*i∧i≤3)∧dW IK i l)
  (fun(b,l,i)=>aN [(0,.ptr 1000000 0),(3,.buf 3),(8,.d (ir k3)),(9,.d (.int .i64 3)),(10,.d (.int .i64 i))] [(1000000,bj n L b),(3,aM 240 6 I6 oz l)])
  (fun(_,_,i)=>3 - i) (a,[],0) ⟨⟨by simp,by simp,by simp⟩,⟨by simp,by simp⟩⟩ ?_ ?_
 · refine(dv.nil 3 3 240 6 (aV I6 oz []) rfl rfl (by decide)).trans (ae [(1000000,1000000),(3,3)] rfl rfl ⟨lr,lr,aj rfl rfl,lr,lr,trivial⟩ ⟨rr,rr,trivial⟩)
 rintro⟨b,l,i⟩ ⟨⟨p1,p2,p3⟩,p4⟩;have p1:a≤b:=p1;have p2:b≤a+8*i:=p2;have p3:i≤3:=p3;have p4:dW IK i l:=p4;have hc3:k3.length=3:=rfl;have hl1:l.length≤i:=p4.1;have hkk:(i:Int)<3→(k3.getD (i:Int).toNat []).length≤8:=fun h=>bV (aq (by omega)) rfl
 conv=>whnf
 repeat' (first|(refine fz.of (CD n L hL _ ?_ ?_ 4 ?_) [(1000000,1000000)] rfl ⟨lr,lr,trivial⟩ ⟨rr,trivial⟩ rfl rfl ?_;rotate_right;rintro x rout ⟨⟨w,rfl⟩,⟨c,c1,c2,rfl⟩⟩;refine⟨rfl,?_⟩;conv=>whnf)|(refine fz.of (jL n L hL _ ?_ ?_ [0,0,3] ?_ ?_) [(1000000,1000000)] rfl ⟨lr,aj rfl rfl,trivial⟩ ⟨rr,trivial⟩ rfl rfl ?_;rotate_right;rintro x rout ⟨⟨u1,hu1,rfl⟩,⟨c,c1,c2,rfl⟩⟩;have hw1:=Oa hu1 (by decide);refine⟨rfl,?_⟩;conv=>whnf)|(refine fz.of (ua n L hL _ ?_ ?_ [[],[],[109,105,110,105]] (by simp) (by simp)) [(1000000,1000000)] rfl ⟨lr,aj rfl rfl,trivial⟩ ⟨rr,trivial⟩ rfl rfl ?_;rotate_right;rintro x rout ⟨⟨v1,hv1,rfl⟩,⟨c,c1,c2,rfl⟩⟩;refine⟨rfl,?_⟩;conv=>whnf)|(refine fz.of (jL n L hL _ ?_ ?_ [0,1,10,3000] ?_ ?_) [(1000000,1000000)] rfl ⟨lr,aj rfl rfl,trivial⟩ ⟨rr,trivial⟩ rfl rfl ?_;rotate_right;rintro x rout ⟨⟨u2,hu2,rfl⟩,⟨c,c1,c2,rfl⟩⟩;have hw2:=Oa hu2 (by decide);refine⟨rfl,?_⟩;conv=>whnf)|(refine fz.of (jL n L hL _ ?_ ?_ [1,1,2,5] ?_ ?_) [(1000000,1000000)] rfl ⟨lr,aj rfl rfl,trivial⟩ ⟨rr,trivial⟩ rfl rfl ?_;rotate_right;rintro x rout ⟨⟨u3,hu3,rfl⟩,⟨c,c1,c2,rfl⟩⟩;refine⟨rfl,?_⟩;conv=>whnf)|(refine fz.of (jL n L hL _ ?_ ?_ [1,100,100,250,1000] ?_ ?_) [(1000000,1000000)] rfl ⟨lr,aj rfl rfl,trivial⟩ ⟨rr,trivial⟩ rfl rfl ?_;rotate_right;rintro x rout ⟨⟨u4,hu4,rfl⟩,⟨c,c1,c2,rfl⟩⟩;refine⟨rfl,?_⟩;conv=>whnf)|(refine fz.of (CD n L hL _ ?_ ?_ 15 ?_) [(1000000,1000000)] rfl ⟨lr,lr,trivial⟩ ⟨rr,trivial⟩ rfl rfl ?_;rotate_right;rintro x rout ⟨⟨w2,rfl⟩,⟨c,c1,c2,rfl⟩⟩;refine⟨rfl,?_⟩;conv=>whnf)|(refine fz.of (EP n L hL _ ?_ ?_ _ ?_) [(1000000,1000000)] rfl ⟨lr,lr,trivial⟩ ⟨rr,trivial⟩ rfl rfl ?_;rotate_right;rintro x rout ⟨⟨j,hj1,hj2,hj3,rfl⟩,⟨c,c1,c2,rfl⟩⟩;refine⟨rfl,?_⟩;conv=>whnf)|(refine fz.of (ua n L hL _ ?_ ?_ [(l.getD j.toNat oz).key,[],[122,101,100],[97,49,48]] (by simp) (by simp)) [(1000000,1000000)] rfl ⟨lr,aj rfl rfl,trivial⟩ ⟨rr,trivial⟩ rfl rfl ?_;rotate_right;rintro x rout ⟨⟨v2,hv2,rfl⟩,⟨c,c1,c2,rfl⟩⟩;refine⟨rfl,?_⟩;conv=>whnf)|(refine fz.of (oe n L hL _ ?_ ?_ 1 120 ?_ ?_ ?_) [(1000000,1000000)] rfl ⟨lr,lr,lr,trivial⟩ ⟨rr,trivial⟩ rfl rfl ?_;rotate_right;rintro x rout ⟨⟨o1,ho1,ho2,rfl⟩,⟨c,c1,c2,rfl⟩⟩;refine⟨rfl,?_⟩;conv=>whnf)|(refine fz.of (oe n L hL _ ?_ ?_ 1 1000 ?_ ?_ ?_) [(1000000,1000000)] rfl ⟨lr,lr,lr,trivial⟩ ⟨rr,trivial⟩ rfl rfl ?_;rotate_right;rintro x rout ⟨⟨o2,ho3,ho4,rfl⟩,⟨c,c1,c2,rfl⟩⟩;refine⟨rfl,?_⟩;conv=>whnf)|((first|(refine aa ?_ ?_<;>intro hb<;>try simp only[az]at hb)|omega|refine aA ?_|decide|assumption)<;>conv=>whnf))
 all_goals try(exact h0)
 all_goals try omega
 · exact⟨(c,l,i+1),⟨⟨by omega,by show _≤a+8*((i+1:Nat):Int);omega,by omega⟩,dJ p4 (by omega)⟩,by show 3 - (i+1)<3 - i;omega,(by exact bz [(1000000,1000000),(3,3)])⟩
 · exact⟨(c,l++ [⟨k3.getD (i:Int).toNat [],v1,u1,u1+u2,u3,u4⟩],i+1),⟨⟨by omega,by show _≤a+8*((i+1:Nat):Int);omega,by omega⟩,fi p4 (by omega) ⟨hkk (by omega),bV hv1 rfl⟩⟩,by show 3 - (i+1)<3 - i;omega,
    ae [(1000000,1000000),(3,38)] rfl rfl ⟨lr,lr,lr,lr,lr,trivial⟩ ⟨rr,aR rfl,trivial⟩⟩
 · have hv:v2.length≤8:=by
    simp only[List.mem_cons,List.not_mem_nil,or_false]at hv2;rcases hv2 with rfl|rfl|rfl|rfl
    · exact(p4.2 _ (aq (by omega))).1
    · decide
    · decide
    · decide
   refine .freeze _ 3 240 6 _ _ rfl (.weak _ ?_);conv=>whnf
   have hrow:=f8 (f:=I6) (d:=oz) (f8 (f8 (l:=l) (j:=j.toNat) (off:=0) (ds:= [.str v2]) (fun _ _=>rfl) (fun y:vX=>{y with key:=v2}) (fun _=>rfl)) (off:=4) (ds:= [.int .i64 o1]) (j:=j.toNat) (fun y:vX=>{y with days:=o1}) (fun _=>rfl)) (off:=5) (ds:= [.int .i64 o2]) (j:=j.toNat) (fun y:vX=>{y with per:=o2}) (fun _=>rfl);exact⟨.d (ug (mi (mi (mi l j.toNat oz fun y=>{y with key:=v2}) j.toNat oz fun y=>{y with days:=o1}) j.toNat oz fun y=>{y with per:=o2})),[(1000000,bj n L _)],bt (by simp) (fun i hi=>hrow i (by simpa using hi)),⟨⟨_,iZ (g:=fun y:vX=>{y with per:=o2}) (iZ (g:=fun y:vX=>{y with days:=o1}) (iZ (g:=fun y:vX=>{y with key:=v2}) (dJ p4 (by omega)) (fun y hy=>⟨hv,hy.2⟩)) (fun y hy=>hy)) (fun y hy=>hy),rfl⟩,_,by omega,by omega,rfl⟩,rr,trivial⟩
 all_goals
  refine .freeze _ 3 240 6 _ _ rfl (.weak _ ?_);conv=>whnf
  exact⟨.d (ug l),[(1000000,bj n L _)],lr,⟨⟨_,dJ p4 (by omega),rfl⟩,_,by omega,by omega,rfl⟩,rr,trivial⟩
end Go.Proofs.YtodakofifpaljaaGreatDoor
namespace Go.Eng
open Go
variable {A:nv} {G:Hp} {β:fk} {s:St} {t:Array Value} {w:World}
theorem dv.bunchNew (e k:Nat)(hk:0<k)(hu:s.used 999999=false):dv s (s.app ⟨none,.any,[(999999,some (.bunch e k []))],[999999]⟩):=by
 refine⟨fun A a w=> ?_⟩;rintro⟨h0,G,β,h⟩;exact⟨h0,G,_,h.bunchNew hk hu⟩
theorem rH {q e k:Nat}:∀ (l:List (Value×Nat×(Nat→List DV))) {G:Hp} {s:St},MG A G β s t w→s.res q=some (.bunch e k l)→
 ∃G',G.le G'∧(∀p ∈ l,aL G' (.ro k p.2.1 p.2.2) p.1)∧MG A G' β (s.app ⟨none,.any,[(q,some (.bunch e k []))],[]⟩) t w:=by
 intro l
 induction l with
 | nil =>
   intro G s h hq;refine⟨G,Hp.le_refl G,fun p hp=>(by cases hp),?_⟩
   have:s.app ⟨none,.any,[(q,some (.bunch e k []))],[]⟩=s:=by
    cases s with
    | mk tm rs us=>
      simp only[St.app,St.mk.injEq];refine⟨rfl,?_,rfl⟩;funext x
      simp only[aD,aS]
      by_cases c:x=q
      · subst c;simpa using hq.symm
      · rw[ax c];rfl
   rw[this];exact h
 | cons p l ih=>
   obtain⟨v,n,get⟩:=p;intro G s h hq;obtain⟨G1,h1,h2,h3⟩:=h.bunchFree hq;obtain⟨G2,k1,k2,k3⟩:=ih h3 (by simp[St.app,aD,aS]);refine⟨G2,Hp.le_trans h1 k1,fun p hp=> ?_,?_⟩
   · rcases List.mem_cons.1 hp with rfl|hp
     · exact h2.mono k1
     · exact k2 p hp
   · have:(s.app ⟨none,.any,[(q,some (.bunch e k l))],[]⟩).app ⟨none,.any,[(q,some (.bunch e k []))],[]⟩=s.app ⟨none,.any,[(q,some (.bunch e k []))],[]⟩:=by
      simp only[St.app,St.mk.injEq];refine⟨rfl,?_,rfl⟩;funext x
      simp only[aD,aS]
      by_cases c:x=q
      · subst c;simp
      · rw[ax c];rfl
     rw[this]at k3;exact k3
theorem qw {q e k e2 k2 N:Nat}{l:List (Value×Nat×(Nat→List DV))}{get:Nat→List DV}(get':Nat→List DV)(hb:s.res 999999=some (.bunch e k l))(hq:s.res q=some (.buf e2 k2 N get))
 (hl:∀i,i<N→(get' i).length=(get i).length)
 (hg:∀ (i j:Nat) (x:DV),i<N→(get' i)[j]? =some x→(get i)[j]? =some x∨∃p ∈ l,(get i)[j]? =some (.opq p.1)∧∀G v,aL G (.ro k p.2.1 p.2.2) v→aL G x v):
 dv s (s.app ⟨none,.any,[(999999,none),(q,some (.buf e2 k2 N get'))],[]⟩):=by
 refine⟨fun A a w=> ?_⟩;rintro⟨h0,G,β,h⟩;obtain⟨G',h1,h2,h3⟩:=rH l h hb;have hne:¬q=999999:=fun c=>by rw[c,hb]at hq;cases hq
 have hq1:(s.app ⟨none,.any,[(999999,some (.bunch e k []))],[]⟩).res q=some (.buf e2 k2 N get):=by
  simp only[St.app,aD,aS];rw[ax hne];exact hq
 obtain⟨v,xs,hv,hown,hk,hlen,hden⟩:=h3.rs _ _ hq1
 have h4:=h3.changeG (r':=.buf e2 k2 N get') hq1 rfl hv rfl rfl rfl rfl (fun _ _=>rfl) (fun b hb=>hb.to rfl) ⟨v,xs,hv,hown,hk,fun i hi=>(hl i hi).trans (hlen i hi),fun i j x hi hx=>by
  rcases hg i j x hi hx with c|⟨p,hp,c,hx⟩
  · exact hden i j x hi c
  · obtain⟨u,hu,hd⟩:=hden i j _ hi c
    cases hd with|opq _ _=>exact⟨_,hu,hx _ _ (h2 p hp)⟩⟩
 have h5:=h4.drop 999999;refine⟨h0,G',β,?_⟩
 have:((s.app ⟨none,.any,[(999999,some (.bunch e k []))],[]⟩).app ⟨none,.any,[(q,some (.buf e2 k2 N get'))],[]⟩).app ⟨none,.any,[(999999,none)],[]⟩=s.app ⟨none,.any,[(999999,none),(q,some (.buf e2 k2 N get'))],[]⟩:=by
  simp only[St.app,St.mk.injEq];refine⟨rfl,?_,rfl⟩;funext x
  simp only[aD,aS]
  by_cases c:x=999999
  · subst c;simp
  · rw[ax c]
    by_cases d:x=q
    · subst d;simp
    · rw[ax d];rfl
 rw[←this];exact h5
end Go.Eng
set_option maxRecDepth 20000
namespace Go.Proofs.YtodakofifpaljaaGreatDoor
open Go Go.Eng
def nY:OL:= [(0,[]),(1,[0]),(2,[0]),(3,[0]),(4,[0]),(5,rg 5),(6,rg 6),(7,rg 5),(8,rg 5),(9,[0]),(10,[]),(11,[]),(12,[])]
def KG (x:lD):Prop:=x.key.length≤8∧x.on.length≤8
structure zo where
 key:List UInt8
 per:Int
 v:Value
 on:List Int
 over:Bool
def Jf (x:zo):List DV:= [.str x.key,.int .i64 x.per,.opq x.v,.bool x.over]
def rI:zo:=⟨[],0,.nilFunc,[],false⟩
def bM (x:zo):Prop:=x.key.length≤8∧x.on.length≤5
def bT (x:zo):lD:=⟨x.key,x.per,x.on,x.over⟩
def bE (x:zo):Value×Nat×(Nat→List DV):=(x.v,x.on.length,aV iF 0 x.on)
def bL (l:List zo):List (Value×Nat×(Nat→List DV)):=(l.map bE).reverse
theorem Il (l:List zo)(x:zo):bL (l++ [x])=bE x::bL l:=by simp[bL]
theorem Lo {l:List zo}{x:zo}(h:x ∈ l):bE x ∈ bL l:=by
 unfold bL;rw[List.mem_reverse];exact List.mem_map.2 ⟨x,h,rfl⟩
theorem Fj (l:List zo){j:Nat}(h:j<l.length):∃A B,bL l=A++bE (l.getD j rI)::B∧∀x,∀t ∈ l.set j x,t=x∨bE t ∈ A++B:=by
 have e:l=l.take j++l.getD j rI::l.drop (j+1):=by
  rw[List.getD_eq_getElem?_getD,List.getElem?_eq_getElem h,Option.getD_some,←List.drop_eq_getElem_cons h,List.take_append_drop]
 refine⟨((l.drop (j+1)).map bE).reverse,((l.take j).map bE).reverse,?_,fun x t ht=> ?_⟩
 · conv=>lhs;rw[e]
   simp[bL]
 · rw[List.set_eq_take_append_cons_drop,if_pos h]at ht;rcases List.mem_append.1 ht with q|q
   · exact .inr (List.mem_append.2 (.inr (by rw[List.mem_reverse];exact List.mem_map.2 ⟨t,q,rfl⟩)))
   · rcases List.mem_cons.1 q with q|q
     · exact .inl q
     · exact .inr (List.mem_append.2 (.inl (by rw[List.mem_reverse];exact List.mem_map.2 ⟨t,q,rfl⟩)))
theorem rJ {s:St}{q N:Nat}{Bn:List (Value×Nat×(Nat→List DV))}{get:Nat→List DV}(hb:s.res 999999=some (.bunch 3 1 Bn))(hq:s.res q=some (.buf 243 4 N get))(l:List zo)(hN:N=l.length)(hg:∀i,i<N→get i=aV Jf rI l i)
 (hB:∀t ∈ l,∃p ∈ Bn,p.1=t.v∧p.2.1=t.on.length∧∀i,i<p.2.1→p.2.2 i=aV iF 0 t.on i):
 dv s (s.app ⟨none,.any,[(999999,none),(q,some (.buf 243 4 N (aV wD cm (l.map bT))))],[]⟩):=by
 have hrow:∀i,i<N→aV wD cm (l.map bT) i=wD (bT (l.getD i rI)):=fun i hi=>by
  unfold aV;congr 1
  rw[List.getD_eq_getElem?_getD,List.getElem?_map,List.getD_eq_getElem?_getD,List.getElem?_eq_getElem (by omega)];rfl
 refine qw _ hb hq (fun i hi=>by rw[hrow i hi,hg i hi];rfl) (fun i j x hi hx=> ?_);rw[hrow i hi]at hx;rw[hg i hi];obtain⟨t,ht⟩:∃t,t=l.getD i rI:=⟨_,rfl⟩;have hm:t ∈ l:=by rw[ht];exact aq (by omega)
 show(Jf (l.getD i rI))[j]? =some x∨∃p ∈ Bn,(Jf (l.getD i rI))[j]? =some (.opq p.1)∧∀G v,aL G (.ro 1 p.2.1 p.2.2) v→aL G x v;rw[←ht]at hx ⊢
 match j with
 |0=>exact .inl hx
 |1=>exact .inl hx
 |3=>exact .inl hx
 | 2=>
   obtain⟨p,hp,h1,h2,h3⟩:=hB t hm;cases hx
   exact .inr ⟨p,hp,by rw[h1];rfl,fun G v hv=>qq h2 h3 hv⟩
 |j+4=>cases hx
def NJ:List (List UInt8):= [[99,105,116,121],[115,116,97,116,101],[118,97,116]]
theorem po {l:List zo}{k:Nat}(hl:l.length≤k)(h:∀t ∈ l,t.key.length≤8∧t.on.length≤8):dW KG k (l.map bT):=
 ⟨by rw[List.length_map];exact hl,fun x hx=>by
   obtain⟨t,ht,rfl⟩:=List.mem_map.1 hx
   exact h t ht⟩
set_option maxHeartbeats 4000000 in
theorem Lw (n:Nat)(L:Nat→Int)(hL:sB n L)(a:Int)(h0:0≤a)(ha:a≤2^36):
 ai Tryz.prog 80 [.ptr 1000000 0] [(1000000,bj n L a)] (fun y r=>(∃l:List lD,dW KG 3 l∧y= .d (hJ l))∧ik n L a 50 r):=by
 refine af hT (C:= []) Tryz.func80 rfl Tryz.call80 rfl rfl rfl ?_;conv=>whnf
 refine ah hT (C:= []) (ι:=Int×List zo×Nat) (fun(b,l,i)=>(a≤b∧b≤a+10*i∧i≤3)∧dW bM i l)
  (fun(b,l,i)=>aN [(0,.ptr 1000000 0),(3,.buf 3),(10,.d (ir NJ)),(11,.d (.int .i64 3)),(12,.d (.int .i64 i))] [(1000000,bj n L b),(3,aM 243 4 Jf rI l),(999999,.bunch 3 1 (bL l))])
  (fun(_,_,i)=>3 - i) (a,[],0) ⟨⟨by simp,by simp,by simp⟩,⟨by simp,by simp⟩⟩ ?_ ?_
 · refine(dv.bunchNew 3 1 (by decide) rfl).trans ((dv.nil 3 3 243 4 (aV Jf rI []) rfl rfl (by decide)).trans (ae [(1000000,1000000),(3,3),(999999,999999)] rfl rfl ⟨lr,lr,aj rfl rfl,lr,lr,trivial⟩ ⟨rr,rr,rr,trivial⟩))
 rintro⟨b,l,i⟩ ⟨⟨p1,p2,p3⟩,p4⟩;have p1:a≤b:=p1;have p2:b≤a+10*i:=p2;have p3:i≤3:=p3;have p4:dW bM i l:=p4;have hc3:NJ.length=3:=rfl;have hl1:l.length≤i:=p4.1;have hkk:(i:Int)<3→(NJ.getD (i:Int).toNat []).length≤8:=fun h=>bV (aq (by omega)) rfl
 rcases Nat.lt_or_ge i 3 with hi|hi
 · conv=>whnf
   repeat' (first|(refine fz.of (CD n L hL _ ?_ ?_ 3 ?_) [(1000000,1000000)] rfl ⟨lr,lr,trivial⟩ ⟨rr,trivial⟩ rfl rfl ?_;rotate_right;rintro x rout ⟨⟨w,rfl⟩,⟨c,c1,c2,rfl⟩⟩;refine⟨rfl,?_⟩;conv=>whnf)|(refine fz.of (jL n L hL _ ?_ ?_ [0,50,75,200,1000] ?_ ?_) [(1000000,1000000)] rfl ⟨lr,aj rfl rfl,trivial⟩ ⟨rr,trivial⟩ rfl rfl ?_;rotate_right;rintro x rout ⟨⟨u1,hu1,rfl⟩,⟨c,c1,c2,rfl⟩⟩;refine⟨rfl,?_⟩;conv=>whnf)|(refine fz.of (CD n L hL _ ?_ ?_ 2 ?_) [(1000000,1000000)] rfl ⟨lr,lr,trivial⟩ ⟨rr,trivial⟩ rfl rfl ?_;rotate_right;rintro x rout ⟨⟨w2,rfl⟩,⟨c,c1,c2,rfl⟩⟩;refine⟨rfl,?_⟩;conv=>whnf)|((first|(refine aa ?_ ?_<;>intro hb<;>try simp only[az]at hb)|refine aw hT 18 nY ?_|omega|refine aA ?_|decide|assumption)<;>conv=>whnf))
   all_goals try(exact h0)
   all_goals try omega
   · exact⟨(c,l,i+1),⟨⟨by omega,by show _≤a+10*((i+1:Nat):Int);omega,by omega⟩,dJ p4 (by omega)⟩,by show 3 - (i+1)<3 - i;omega,(by exact bz [(1000000,1000000),(3,3),(999999,999999)])⟩
   · have hk:=hkk (by omega);obtain⟨ky,hky⟩:∃ky,ky=NJ.getD (i:Int).toNat []:=⟨_,rfl⟩;obtain⟨cc,hcc⟩:∃cc:Int,cc=c:=⟨_,rfl⟩;rw[←hky]at hk
     refine ah hT (C:= []) (ι:=Int×List Int×Nat) (fun(d,on,k)=>(cc≤d∧d≤cc+k∧k≤5)∧on.length≤k)
      (fun(d,on,k)=>aN [(0,.ptr 1000000 0),(3,.buf 3),(6,.ptr 6 0),(10,.d (ir NJ)),(11,.d (.int .i64 3)),(12,.d (.int .i64 i)),(25,.d (dC [1,2,3,4,6])),(26,.d (.int .i64 5)),(27,.d (.int .i64 k))] [(1000000,bj n L d),(3,aM 243 4 Jf rI l),(999999,.bunch 3 1 (bL l)),(6,.cells 243 [.d (.str ky),.d (.int .i64 u1),.buf 7,.d (.bool w2)]),(7,aM 3 1 iF 0 on)])
      (fun(_,_,k)=>5 - k) (cc,[],0) ⟨⟨by simp,by simp,by simp⟩,by simp⟩ ?_ ?_
     · subst hcc hky;refine(dn 6 7 3 1 2 (aV iF 0 []) rfl rfl rfl (by decide) rfl).trans (ae [(1000000,1000000),(3,3),(999999,999999),(6,6),(7,7)] rfl rfl ⟨lr,lr,lr,lr,lr,lr,aj rfl rfl,lr,lr,trivial⟩ ⟨rr,rr,rr,?_,rr,trivial⟩);conv=>whnf
       refine⟨rfl,fun _ _ _ _ h=> ?_⟩;exact h
     rintro⟨d,on,k⟩ ⟨⟨q1,q2,q3⟩,q4⟩;have q1:cc≤d:=q1;have q2:d≤cc+k:=q2;have q3:k≤5:=q3;have q4:on.length≤k:=q4;conv=>whnf
     repeat' (first|(refine fz.of (CD n L hL _ ?_ ?_ 2 ?_) [(1000000,1000000)] rfl ⟨lr,lr,trivial⟩ ⟨rr,trivial⟩ rfl rfl ?_;rotate_right;rintro x rout ⟨⟨w3,rfl⟩,⟨c,c1,c2,rfl⟩⟩;refine⟨rfl,?_⟩;conv=>whnf)|(intro v;conv=>whnf)|((first|(refine aa ?_ ?_<;>intro hb<;>try simp only[az]at hb)|refine aw hT 18 nY ?_|omega|refine aA ?_|decide|assumption)<;>conv=>whnf))
     all_goals try(exact h0)
     all_goals try omega
     · exact⟨(c,on++ [([1,2,3,4,6]:List Int).getD (k:Int).toNat 0],k+1),⟨⟨by omega,by show _≤cc+((k+1:Nat):Int);omega,by omega⟩,by show(on++_).length≤k+1;rw[List.length_append];simp;omega⟩,by show 5 - (k+1)<5 - k;omega,
        ae [(1000000,1000000),(3,3),(999999,999999),(6,6),(7,37)] rfl rfl ⟨lr,lr,lr,lr,lr,lr,lr,lr,lr,trivial⟩ ⟨rr,rr,rr,rr,aR rfl,trivial⟩⟩
     · exact⟨(c,on,k+1),⟨⟨by omega,by show _≤cc+((k+1:Nat):Int);omega,by omega⟩,by show on.length≤k+1;omega⟩,by show 5 - (k+1)<5 - k;omega,(by exact bz [(1000000,1000000),(3,3),(999999,999999),(6,6),(7,7)])⟩
     · exact⟨(d,l++ [⟨ky,u1,v,on,w2⟩],i+1),⟨⟨by omega,by show _≤a+10*((i+1:Nat):Int);omega,by omega⟩,fi p4 (by omega) ⟨hk,by show on.length≤5;omega⟩⟩,by show 3 - (i+1)<3 - i;omega,
        ae [(1000000,1000000),(3,43),(999999,999999)] rfl rfl ⟨lr,lr,lr,lr,lr,trivial⟩ ⟨rr,aR rfl,(by rw[Il];exact rr),trivial⟩⟩
 · have hi3:i=3:=by omega
   subst hi3;have hsp:=fun(j:Int) (h1:0≤j) (h2:j<l.length)=>Fj l (j:=j.toNat) (by omega)
   have hon:∀j:Int,0≤j→j<l.length→(l.getD j.toNat rI).on.length≤5:=fun j h1 h2=>(p4.2 _ (aq (by omega))).2
   have hB:∀t ∈ l,∃p ∈ bL l,p.1=t.v∧p.2.1=t.on.length∧∀i,i<p.2.1→p.2.2 i=aV iF 0 t.on i:=fun t ht=>⟨_,Lo ht,rfl,rfl,fun _ _=>rfl⟩
   conv=>whnf
   repeat' (first|(refine fz.of (CD n L hL _ ?_ ?_ 15 ?_) [(1000000,1000000)] rfl ⟨lr,lr,trivial⟩ ⟨rr,trivial⟩ rfl rfl ?_;rotate_right;rintro x rout ⟨⟨w,rfl⟩,⟨c,c1,c2,rfl⟩⟩;refine⟨rfl,?_⟩;conv=>whnf)|(refine fz.of (EP n L hL _ ?_ ?_ 3 ?_) [(1000000,1000000)] rfl ⟨lr,lr,trivial⟩ ⟨rr,trivial⟩ rfl rfl ?_;rotate_right;rintro x rout ⟨⟨m,hm1,hm2,hm3,rfl⟩,⟨c,c1,c2,rfl⟩⟩;refine⟨rfl,?_⟩;conv=>whnf)|(refine fz.of (EP n L hL _ ?_ ?_ _ ?_) [(1000000,1000000)] rfl ⟨lr,lr,trivial⟩ ⟨rr,trivial⟩ rfl rfl ?_;rotate_right;rintro x rout ⟨⟨j,hj1,hj2,hj3,rfl⟩,⟨c,c1,c2,rfl⟩⟩;refine⟨rfl,?_⟩;conv=>whnf)|(refine fz.of (ua n L hL _ ?_ ?_ [[],[99,105,116,121],[65]] (by simp) (by simp)) [(1000000,1000000)] rfl ⟨lr,aj rfl rfl,trivial⟩ ⟨rr,trivial⟩ rfl rfl ?_;rotate_right;rintro x rout ⟨⟨v1,hv1,rfl⟩,⟨c,c1,c2,rfl⟩⟩;refine⟨rfl,?_⟩;conv=>whnf)|(refine fz.of (oe n L hL _ ?_ ?_ 0 1000 ?_ ?_ ?_) [(1000000,1000000)] rfl ⟨lr,lr,lr,trivial⟩ ⟨rr,trivial⟩ rfl rfl ?_;rotate_right;rintro x rout ⟨⟨o1,ho1,ho2,rfl⟩,⟨c,c1,c2,rfl⟩⟩;refine⟨rfl,?_⟩;conv=>whnf)|(refine fz.of (jL n L hL _ ?_ ?_ [0,5,6,7,1] ?_ ?_) [(1000000,1000000)] rfl ⟨lr,aj rfl rfl,trivial⟩ ⟨rr,trivial⟩ rfl rfl ?_;rotate_right;rintro x rout ⟨⟨u1,hu1,rfl⟩,⟨c,c1,c2,rfl⟩⟩;refine⟨rfl,?_⟩;conv=>whnf)|((first|(obtain⟨A,B,hAB,hset⟩:=hsp j hj1 (hj2 (by omega));refine⟨A,_,_,B,hAB,?_⟩)|(refine And.intro (by have:=hon j hj1 (hj2 (by omega));show((l.getD j.toNat rI).on.length+1)*8≤140737488355328;omega) ?_))<;>conv=>whnf)|(intro v';conv=>whnf)|((first|(refine aa ?_ ?_<;>intro hb<;>try simp only[az]at hb)|refine aw hT 18 nY ?_|omega|refine aA ?_|decide|assumption)<;>conv=>whnf))
   all_goals try(exact h0)
   all_goals try omega
   · have hw:v1.length≤8:=bV hv1 rfl;refine .ent _ _ (rJ (q:=3) rfl rfl (mi l j.toNat rI fun y=>{y with key:=v1}) (by simp) (fun i hi=>f8 (f:=Jf) (d:=rI) (l:=l) (j:=j.toNat) (off:=0) (ds:= [.str v1]) (fun _ _=>rfl) (fun y:zo=>{y with key:=v1}) (fun _=>rfl) i (by simpa using hi)) (fun t ht=> ?_)) (.freeze _ 3 243 4 _ _ rfl (.weak _ ?_))
     · rcases List.mem_or_eq_of_mem_set ht with q|rfl
       · exact hB t q
       · exact hB (l.getD j.toNat rI) (aq (by omega))
     conv=>whnf
     exact⟨.d (hJ ((mi l j.toNat rI fun y=>{y with key:=v1}).map bT)),[(1000000,bj n L _)],bt (by simp) (fun _ _=>rfl),⟨⟨_,po (by simpa using p4.1) (fun t ht=>by
      rcases List.mem_or_eq_of_mem_set ht with q|rfl
      · exact⟨(p4.2 t q).1,Nat.le_trans (p4.2 t q).2 (by decide)⟩
      · exact⟨hw,Nat.le_trans (p4.2 _ (aq (by omega))).2 (by decide)⟩),rfl⟩,_,by omega,by omega,rfl⟩,rr,trivial⟩
   · refine .ent _ _ (rJ (q:=3) rfl rfl (mi l j.toNat rI fun y=>{y with per:=o1}) (by simp) (fun i hi=>f8 (f:=Jf) (d:=rI) (l:=l) (j:=j.toNat) (off:=1) (ds:= [.int .i64 o1]) (fun _ _=>rfl) (fun y:zo=>{y with per:=o1}) (fun _=>rfl) i (by simpa using hi)) (fun t ht=> ?_)) (.freeze _ 3 243 4 _ _ rfl (.weak _ ?_))
     · rcases List.mem_or_eq_of_mem_set ht with q|rfl
       · exact hB t q
       · exact hB (l.getD j.toNat rI) (aq (by omega))
     conv=>whnf
     exact⟨.d (hJ ((mi l j.toNat rI fun y=>{y with per:=o1}).map bT)),[(1000000,bj n L _)],bt (by simp) (fun _ _=>rfl),⟨⟨_,po (by simpa using p4.1) (fun t ht=>by
      rcases List.mem_or_eq_of_mem_set ht with q|rfl
      · exact⟨(p4.2 t q).1,Nat.le_trans (p4.2 t q).2 (by decide)⟩
      · exact⟨(p4.2 _ (aq (by omega))).1,Nat.le_trans (p4.2 _ (aq (by omega))).2 (by decide)⟩),rfl⟩,_,by omega,by omega,rfl⟩,rr,trivial⟩
   · have hon:=hon j hj1 (hj2 (by omega));refine .ent _ _ (rJ (q:=3) rfl rfl (mi l j.toNat rI fun y=>{y with v:=v',on:=y.on++ [u1]}) (by simp) (fun i hi=>f8 (f:=Jf) (d:=rI) (l:=l) (j:=j.toNat) (off:=2) (ds:= [.opq v']) (fun _ _=>rfl) (fun y:zo=>{y with v:=v',on:=y.on++ [u1]}) (fun _=>rfl) i (by simpa using hi)) (fun t ht=> ?_)) (.freeze _ 3 243 4 _ _ rfl (.weak _ ?_))
     · rcases hset _ t ht with rfl|q
       · exact⟨_,List.mem_cons_self,rfl,by simp,fun i hi=>lb (f:=iF) (d:=0) (l:=(l.getD j.toNat rI).on) (x:=u1) (h:=fun i=> [[DV.int .i64 u1]].getD i []) rfl i hi⟩
       · exact⟨_,List.mem_cons_of_mem _ q,rfl,rfl,fun _ _=>rfl⟩
     conv=>whnf
     exact⟨.d (hJ ((mi l j.toNat rI fun y=>{y with v:=v',on:=y.on++ [u1]}).map bT)),[(1000000,bj n L _)],bt (by simp) (fun _ _=>rfl),⟨⟨_,po (by simpa using p4.1) (fun t ht=>by
      rcases List.mem_or_eq_of_mem_set ht with q|rfl
      · exact⟨(p4.2 t q).1,Nat.le_trans (p4.2 t q).2 (by decide)⟩
      · exact⟨(p4.2 _ (aq (by omega))).1,by show(_++ [u1]).length≤8;rw[List.length_append,List.length_singleton];omega⟩),rfl⟩,_,by omega,by omega,rfl⟩,rr,trivial⟩
   all_goals
    refine .ent _ _ (rJ (q:=3) rfl rfl l rfl (fun _ _=>rfl) hB) (.freeze _ 3 243 4 _ _ rfl (.weak _ ?_));conv=>whnf
    exact⟨.d (hJ (l.map bT)),[(1000000,bj n L _)],bt (by simp) (fun _ _=>rfl),⟨⟨_,po p4.1 (fun t q=>⟨(p4.2 t q).1,Nat.le_trans (p4.2 t q).2 (by decide)⟩),rfl⟩,_,by omega,by omega,rfl⟩,rr,trivial⟩
def dea (d:uc):SV:=.agg ((wW d).map .d)
def AZ (d:uc):Prop:=(0≤d.km∧d.km≤30)∧(0≤d.eig∧d.eig≤1000)∧0≤d.dy∧d.dy≤9000
theorem Dj {a b c e u2 u3 u6:Int}(h2:u2 ∈ ([0,2,30]:List Int))(h3:u3 ∈ ([0,300,1000]:List Int))(h6:u6 ∈ ([0,4000,5000,9000]:List Int)):AZ ⟨a,u2,u3,b,c,u6,e⟩:=by
 simp only[List.mem_cons,List.not_mem_nil,or_false]at h2 h3 h6;refine⟨?_,?_,?_⟩<;>(dsimp only;omega)
set_option maxHeartbeats 4000000 in
theorem MV (n:Nat)(L:Nat→Int)(hL:sB n L)(a:Int)(h0:0≤a)(ha:a≤2^37):
 ai Tryz.prog 38 [.ptr 1000000 0] [(1000000,bj n L a)] (fun y r=>(∃d:uc,AZ d∧y=dea d)∧ik n L a 20 r):=by
 refine af hT (C:= []) Tryz.func38 rfl Tryz.call38 rfl rfl rfl ?_;conv=>whnf
 repeat' (first|(refine fz.of (jL n L hL _ ?_ ?_ [0,100,200,10000] ?_ ?_) [(1000000,1000000)] rfl ⟨lr,aj rfl rfl,trivial⟩ ⟨rr,trivial⟩ rfl rfl ?_;rotate_right;rintro x rout ⟨⟨u1,hu1,rfl⟩,⟨c,c1,c2,rfl⟩⟩;refine⟨rfl,?_⟩;conv=>whnf)|(refine fz.of (jL n L hL _ ?_ ?_ [0,2,30] ?_ ?_) [(1000000,1000000)] rfl ⟨lr,aj rfl rfl,trivial⟩ ⟨rr,trivial⟩ rfl rfl ?_;rotate_right;rintro x rout ⟨⟨u2,hu2,rfl⟩,⟨c,c1,c2,rfl⟩⟩;refine⟨rfl,?_⟩;conv=>whnf)|(refine fz.of (jL n L hL _ ?_ ?_ [0,300,1000] ?_ ?_) [(1000000,1000000)] rfl ⟨lr,aj rfl rfl,trivial⟩ ⟨rr,trivial⟩ rfl rfl ?_;rotate_right;rintro x rout ⟨⟨u3,hu3,rfl⟩,⟨c,c1,c2,rfl⟩⟩;refine⟨rfl,?_⟩;conv=>whnf)|(refine fz.of (jL n L hL _ ?_ ?_ [0,29,30,59,60] ?_ ?_) [(1000000,1000000)] rfl ⟨lr,aj rfl rfl,trivial⟩ ⟨rr,trivial⟩ rfl rfl ?_;rotate_right;rintro x rout ⟨⟨u4,hu4,rfl⟩,⟨c,c1,c2,rfl⟩⟩;refine⟨rfl,?_⟩;conv=>whnf)|(refine fz.of (jL n L hL _ ?_ ?_ [0,500,1000,2000] ?_ ?_) [(1000000,1000000)] rfl ⟨lr,aj rfl rfl,trivial⟩ ⟨rr,trivial⟩ rfl rfl ?_;rotate_right;rintro x rout ⟨⟨u5,hu5,rfl⟩,⟨c,c1,c2,rfl⟩⟩;refine⟨rfl,?_⟩;conv=>whnf)|(refine fz.of (jL n L hL _ ?_ ?_ [0,4000,5000,9000] ?_ ?_) [(1000000,1000000)] rfl ⟨lr,aj rfl rfl,trivial⟩ ⟨rr,trivial⟩ rfl rfl ?_;rotate_right;rintro x rout ⟨⟨u6,hu6,rfl⟩,⟨c,c1,c2,rfl⟩⟩;refine⟨rfl,?_⟩;conv=>whnf)|(refine fz.of (jL n L hL _ ?_ ?_ [0,10000,1000000] ?_ ?_) [(1000000,1000000)] rfl ⟨lr,aj rfl rfl,trivial⟩ ⟨rr,trivial⟩ rfl rfl ?_;rotate_right;rintro x rout ⟨⟨u7,hu7,rfl⟩,⟨c,c1,c2,rfl⟩⟩;refine⟨rfl,?_⟩;conv=>whnf)|(refine fz.of (CD n L hL _ ?_ ?_ 15 ?_) [(1000000,1000000)] rfl ⟨lr,lr,trivial⟩ ⟨rr,trivial⟩ rfl rfl ?_;rotate_right;rintro x rout ⟨⟨w,rfl⟩,⟨c,c1,c2,rfl⟩⟩;refine⟨rfl,?_⟩;conv=>whnf)|(refine fz.of (oe n L hL _ ?_ ?_ 0 10000 ?_ ?_ ?_) [(1000000,1000000)] rfl ⟨lr,lr,lr,trivial⟩ ⟨rr,trivial⟩ rfl rfl ?_;rotate_right;rintro x rout ⟨⟨o1,ho1,ho2,rfl⟩,⟨c,c1,c2,rfl⟩⟩;refine⟨rfl,?_⟩;conv=>whnf)|(refine fz.of (oe n L hL _ ?_ ?_ 0 1440 ?_ ?_ ?_) [(1000000,1000000)] rfl ⟨lr,lr,lr,trivial⟩ ⟨rr,trivial⟩ rfl rfl ?_;rotate_right;rintro x rout ⟨⟨o2,ho3,ho4,rfl⟩,⟨c,c1,c2,rfl⟩⟩;refine⟨rfl,?_⟩;conv=>whnf)|(refine fz.of (oe n L hL _ ?_ ?_ 0 1000000 ?_ ?_ ?_) [(1000000,1000000)] rfl ⟨lr,lr,lr,trivial⟩ ⟨rr,trivial⟩ rfl rfl ?_;rotate_right;rintro x rout ⟨⟨o3,ho5,ho6,rfl⟩,⟨c,c1,c2,rfl⟩⟩;refine⟨rfl,?_⟩;conv=>whnf)|(refine fz.of (oe n L hL _ ?_ ?_ 0 1000000 ?_ ?_ ?_) [(1000000,1000000)] rfl ⟨lr,lr,lr,trivial⟩ ⟨rr,trivial⟩ rfl rfl ?_;rotate_right;rintro x rout ⟨⟨o4,ho7,ho8,rfl⟩,⟨c,c1,c2,rfl⟩⟩;refine⟨rfl,?_⟩;conv=>whnf)|((first|(refine aa ?_ ?_<;>intro hb<;>try simp only[az]at hb)|omega|refine aA ?_|decide|assumption)<;>conv=>whnf))
 all_goals try(exact h0)
 all_goals try omega
 all_goals refine .ret _ ?_
 all_goals conv=>whnf
 · exact⟨[(1000000,bj n L _)],⟨⟨⟨_,_,_,_,_,_,_⟩,Dj hu2 hu3 hu6,rfl⟩,_,by omega,by omega,rfl⟩,rr,trivial⟩
 · exact⟨[(1000000,bj n L _)],⟨⟨⟨_,_,_,_,_,_,_⟩,Dj hu2 hu3 hu6,rfl⟩,_,by omega,by omega,rfl⟩,rr,trivial⟩
def Kr:uc:=⟨0,0,0,0,0,0,0⟩
set_option maxHeartbeats 4000000 in
theorem Ke (n:Nat)(L:Nat→Int)(hL:sB n L)(a:Int)(h0:0≤a)(ha:a≤2^36):
 ai Tryz.prog 19 [.ptr 1000000 0] [(1000000,bj n L a)] (fun y r=>(∃d:uc,(rF d=0∧AZ d)∧y=dea d)∧ik n L a 160 r):=by
 refine af hT (C:= []) Tryz.func19 rfl Tryz.call19 rfl rfl rfl ?_;conv=>whnf
 refine ah hT (C:= []) (ι:=Int×Nat) (fun(b,i)=>a≤b∧b≤a+20*i∧i≤8)
  (fun(b,i)=>aN [(0,.ptr 1000000 0),(2,.ptr 2 0),(4,.d (.int .i64 i))] [(1000000,bj n L b),(2,.cells 40 ((wW Kr).map .d))])
  (fun(_,i)=>8 - i) (a,0) ⟨by simp,by simp,by simp⟩ (by exact bz [(1000000,1000000),(2,2)]) ?_
 rintro⟨b,i⟩ ⟨p1,p2,p3⟩;have p1:a≤b:=p1;have p2:b≤a+20*i:=p2;have p3:i≤8:=p3;conv=>whnf
 repeat' (first|(refine fz.of (MV n L hL _ ?_ ?_) [(1000000,1000000)] rfl ⟨lr,trivial⟩ ⟨rr,trivial⟩ rfl rfl ?_;rotate_right;rintro x rout ⟨⟨d,hds,rfl⟩,⟨c,c1,c2,rfl⟩⟩;refine⟨rfl,?_⟩;conv=>whnf)|((first|refine ao (Q4 _) ⟨lr,trivial⟩ rfl ?_|(refine aa ?_ ?_<;>intro hb<;>try simp only[az]at hb)|omega|refine aA ?_|decide|assumption)<;>conv=>whnf))
 all_goals try omega
 · refine .ret _ ?_;conv=>whnf
   exact⟨[(1000000,bj n L _)],⟨⟨d,⟨by simpa using hb,hds⟩,rfl⟩,_,by omega,by omega,rfl⟩,rr,trivial⟩
 · exact⟨(c,i+1),⟨by omega,by show _≤a+20*((i+1:Nat):Int);omega,by omega⟩,by show 8 - (i+1)<8 - i;omega,(by exact bz [(1000000,1000000),(2,2)])⟩
 · refine .ret _ ?_;conv=>whnf
   exact⟨[(1000000,bj n L _)],⟨⟨Kr,⟨by decide,⟨by decide,by decide⟩,⟨by decide,by decide⟩,by decide,by decide⟩,rfl⟩,_,by omega,by omega,rfl⟩,rr,trivial⟩
structure H5 (t:rB):Prop where
 rat:dW rz 10 t.rat
 ext:dW NF 2 t.ext
 fe:dW NY 5 t.fe
 cod:dW IK 3 t.cod
 tax:dW KG 3 t.tax
theorem H5.ok {t:rB}(h:H5 t):zJ t:=
 ⟨⟨Nat.le_trans h.rat.1 (by decide),fun x hx=>Nat.le_trans (h.rat.2 x hx) (by decide)⟩,⟨Nat.le_trans h.ext.1 (by decide),fun x hx=>Nat.le_trans (h.ext.2 x hx) (by decide)⟩,
   ⟨Nat.le_trans h.fe.1 (by decide),fun x hx=>⟨Nat.le_trans (h.fe.2 x hx).1 (by decide),Nat.le_trans (h.fe.2 x hx).2 (by decide)⟩⟩,
   ⟨Nat.le_trans h.cod.1 (by decide),fun x hx=>⟨Nat.le_trans (h.cod.2 x hx).1 (by decide),Nat.le_trans (h.cod.2 x hx).2 (by decide)⟩⟩,
   ⟨Nat.le_trans h.tax.1 (by decide),fun x hx=>⟨Nat.le_trans (h.tax.2 x hx).1 (by decide),Nat.le_trans (h.tax.2 x hx).2 (by decide)⟩⟩⟩
def tar (t:rB):SV:=.agg (uA t)
set_option maxHeartbeats 4000000 in
theorem HV (n:Nat)(L:Nat→Int)(hL:sB n L)(a:Int)(h0:0≤a)(ha:a≤2^34):
 ai Tryz.prog 35 [.ptr 1000000 0] [(1000000,bj n L a)] (fun y r=>(∃t:rB,H5 t∧y=tar t)∧ik n L a 250 r):=by
 refine af hT (C:= []) Tryz.func35 rfl Tryz.call35 rfl rfl rfl ?_;conv=>whnf
 repeat' (first|(refine fz.of (LQ n L hL _ ?_ ?_) [(1000000,1000000)] rfl ⟨lr,trivial⟩ ⟨rr,trivial⟩ rfl rfl ?_;rotate_right;rintro x rout ⟨⟨t1,ht1,rfl⟩,⟨c,c1,c2,rfl⟩⟩;refine⟨rfl,?_⟩;conv=>whnf)|(refine fz.of (Iq n L hL _ ?_ ?_) [(1000000,1000000)] rfl ⟨lr,trivial⟩ ⟨rr,trivial⟩ rfl rfl ?_;rotate_right;rintro x rout ⟨⟨t2,ht2,rfl⟩,⟨c,c1,c2,rfl⟩⟩;refine⟨rfl,?_⟩;conv=>whnf)|(refine fz.of (Nh n L hL _ ?_ ?_) [(1000000,1000000)] rfl ⟨lr,trivial⟩ ⟨rr,trivial⟩ rfl rfl ?_;rotate_right;rintro x rout ⟨⟨t3,ht3,rfl⟩,⟨c,c1,c2,rfl⟩⟩;refine⟨rfl,?_⟩;conv=>whnf)|(refine fz.of (LA n L hL _ ?_ ?_) [(1000000,1000000)] rfl ⟨lr,trivial⟩ ⟨rr,trivial⟩ rfl rfl ?_;rotate_right;rintro x rout ⟨⟨t4,ht4,rfl⟩,⟨c,c1,c2,rfl⟩⟩;refine⟨rfl,?_⟩;conv=>whnf)|(refine fz.of (Lw n L hL _ ?_ ?_) [(1000000,1000000)] rfl ⟨lr,trivial⟩ ⟨rr,trivial⟩ rfl rfl ?_;rotate_right;rintro x rout ⟨⟨t5,ht5,rfl⟩,⟨c,c1,c2,rfl⟩⟩;refine⟨rfl,?_⟩;conv=>whnf)|((first|(refine aa ?_ ?_<;>intro hb<;>try simp only[az]at hb)|omega|refine aA ?_|decide|assumption)<;>conv=>whnf))
 all_goals try omega
 refine .ret _ ?_;conv=>whnf
 exact⟨[(1000000,bj n L _)],⟨⟨⟨t1,t2,t3,t4,t5⟩,⟨ht1,ht2,ht3,ht4,ht5⟩,rfl⟩,_,by omega,by omega,rfl⟩,rr,trivial⟩
theorem pN {h:cy}(hE:bO h=0):((aG h.key=true∧aG h.drv=true)∧ic h.frm h.to=0∧1≤h.legs.length∧h.legs.length≤20)∧∀i,i<h.legs.length→oM h i=0:=by
 unfold bO at hE;split at hE
 · omega
 rename_i a;split at hE
 · omega
 rename_i b;split at hE
 · omega
 rename_i c;split at hE
 · omega
 rename_i d;refine⟨⟨⟨?_,?_⟩,Classical.not_not.1 b,by omega,by omega⟩,fun i hi=>cg hE i hi⟩
 · cases q:aG h.key with
   |true=>rfl
   |false=>exact absurd (Or.inl q) a
 · cases q:aG h.drv with
   |true=>rfl
   |false=>exact absurd (Or.inr q) a
theorem iV {r:oD}(h:pz r=0):(0≤r.tm∧r.tm≤5761439)∧aG r.st=true∧(0≤r.meter∧r.meter≤999999)∧0≤r.fuel∧r.fuel≤8:=by
 unfold pz at h;split at h
 · omega
 rename_i a;split at h
 · omega
 rename_i b;split at h
 · omega
 rename_i c;refine⟨Classical.not_not.1 a,?_,(Classical.not_not.1 c).1,(Classical.not_not.1 c).2⟩
 cases q:aG r.st with
 |true=>rfl
 |false=>exact absurd q b
theorem EH {h:cy}{i:Nat}(e:oM h i=0):aG (h.legs.getD i ew).veh=true∧pz (h.legs.getD i ew).out=0∧((h.legs.getD i ew).inn.tm= -1∧(h.legs.length:Int) - 1≤i∨pz (h.legs.getD i ew).inn=0):=by
 unfold oM at e;split at e
 · omega
 rename_i a;split at e
 · rename_i b;exact absurd e b
 rename_i b;refine⟨?_,Classical.not_not.1 b,?_⟩
 · cases q:aG (h.legs.getD i ew).veh with
   |true=>rfl
   |false=>exact absurd q a
 · split at e
   · omega
   split at e
   · omega
   split at e
   · omega
   split at e
   · omega
   split at e
   · rename_i c;split at e
     · omega
     split at e
     · omega
     · exact .inl ⟨c,by omega⟩
   · split at e
     · rename_i c d;exact absurd e d
     · rename_i c d;exact .inr (Classical.not_not.1 d)
theorem tU {h:cy}(hE:bO h=0)(hc:(nJ h).inn.tm≠-1):∀x ∈ h.legs,aG x.veh=true∧pz x.out=0∧pz x.inn=0:=by
 intro x hx;obtain⟨i,hi,rfl⟩:=bQ (d:=ew) hx;obtain⟨p1,p2⟩:=pN hE;obtain⟨a,b,c⟩:=EH (p2 i hi);refine⟨a,b,?_⟩;rcases c with⟨c1,c2⟩|c
 · have:i=h.legs.length - 1:=by omega
   subst this;exact absurd c1 hc
 · exact c
def H8 (d:uc):Prop:=((0≤d.free∧d.free≤10000)∧(0≤d.km∧d.km≤30)∧(0≤d.eig∧d.eig≤1000))∧(0≤d.grc∧0≤d.hr∧d.hr≤1000000)∧0≤d.dy∧d.dy≤9000
theorem IY {d:uc}(hE:rF d=0)(h:AZ d):H8 d:=by
 unfold rF at hE;split at hE
 · rename_i q;obtain⟨h1,h2,h3⟩:=h;exact⟨⟨q.1,h1,h2⟩,⟨q.2.2.2.1.1,q.2.2.2.2.1⟩,h3⟩
 · cases hE
def tQ:OL:= [(0,[]),(1,[]),(2,[0,1]),(3,[0,1]),(4,[0,1]),(5,[0,1]),(6,[]),(7,[]),(8,[]),(9,[]),(10,rg 10),(11,rg 10),(12,rg 10),(13,[]),(14,[]),(15,[])]
def tT:OL:= [(0,[]),(1,[0]),(2,[0]),(3,[0,1,2]),(6,rg 4),(7,rg 4),(8,[0,1,2,3,6,7]),(4,[0,1,2,6,7,8]),(5,[0,6,7,8]),(9,[0,1,2,6,7,5]),(10,[0,1,2,5]),(11,[0]),(12,[1,2,6,7,5,10,11]),(13,[])]
theorem Q1 (l:List gR)(hl:l.length≤2^20):ai Tryz.prog 114 [.d (jK l)] [] (fun y r=>(y= .d .nilsl∧l= []∧r= [])∨(y= .buf 7∧r= [(7,jP l)])):=by
 refine af hT (C:= [5]) Tryz.func114 rfl Tryz.call114 rfl rfl rfl ?_;conv=>whnf
 rintro b hbn;conv=>whnf
 repeat' (first|((first|(refine aa ?_ ?_<;>intro hb<;>try simp only[az]at hb)|omega|refine aA ?_|decide|assumption)<;>conv=>whnf))
 · have:l= []:=List.eq_nil_of_length_eq_zero (hbn (by assumption));refine .ret _ ?_;conv=>whnf
   exact⟨_,.inl ⟨rfl,this,rfl⟩,trivial⟩
 · refine .ret _ ?_;conv=>whnf
   refine⟨_,.inr ⟨rfl,rfl⟩,bB (by simp) (fun i hi=> ?_),trivial⟩;rw[fg (by omega)];rfl
abbrev Gp (d:Nat):aY:=.cells 64 [.buf d]
theorem Oc (k:List UInt8)(c:Int)(l:List gR)(hl:l.length≤2^20):ai Tryz.prog 115 [.d (.str k),.d (.int .i64 c),.ptr 1000001 0] [(1000001,Gp 1000002),(1000002,jP l)] (fun y r=>y= .tup []∧r= [(1000001,Gp 50),(50,jP (ov k c l))]):=by
 refine af hT (C:= []) Tryz.func115 rfl Tryz.call115 rfl rfl rfl ?_;conv=>whnf
 repeat' (first|((first|(refine aa ?_ ?_<;>intro hb<;>try simp only[az]at hb)|omega|refine aA ?_|decide|assumption)<;>conv=>whnf))
 · have e:ov k c l=l++ [⟨6,k,c⟩]:=by unfold ov;rw[if_pos (by simpa using hb)]
   rw[e];refine .ent _ _ (ae (ts:= []) (rs:= [(1000001,Gp 50),(50,jP (l++ [⟨6,k,c⟩]))]) [(1000001,1000001),(50,12)] rfl rfl trivial ⟨rr,aR rfl,trivial⟩) (.ret _ ?_);conv=>whnf
   exact⟨_,⟨rfl,rfl⟩,rr,rr,trivial⟩
 · have e:ov k c l=l:=by unfold ov;rw[if_neg (by simpa using hb)]
   rw[e];refine .ent _ _ (ae (ts:= []) (rs:= [(1000001,Gp 50),(50,jP l)]) [(1000001,1000001),(50,1000002)] rfl rfl trivial ⟨rr,rr,trivial⟩) (.ret _ ?_);conv=>whnf
   exact⟨_,⟨rfl,rfl⟩,rr,rr,trivial⟩
theorem Px (k:List UInt8)(c:Int):ai Tryz.prog 115 [.d (.str k),.d (.int .i64 c),.ptr 1000001 0] [(1000001,.cells 64 [.d .nilsl])] (fun y r=>y= .tup []∧r= [(1000001,Gp 50),(50,jP (ov k c []))]):=
 uV (d:=1000002) (e:=68) (k:=3) (j:=0) (g:=aV Jn j5 []) (Oc k c [] (by simp)) (by decide) rfl rfl rfl
theorem Mz (n L:Int)(hn:0≤n∧n≤2^40)(hL:1≤L∧L≤2^20):ai Tryz.prog 184 [.d (.int .i64 n),.d (.int .i64 L)] [] (fun y r=>y= .d (.int .i64 (uP n L))∧r= []):=by
 have hq:aF ((n+L - 1).tdiv L):=by
  unfold aF;rw[Int.tdiv_eq_ediv_of_nonneg (by omega)];have h1:=Int.ediv_nonneg (show 0≤n+L - 1 by omega) (show 0≤L by omega);have h2:=Int.ediv_le_self L (show 0≤n+L - 1 by omega);omega
 refine af hT (C:= []) Tryz.func184 rfl Tryz.call184 rfl rfl rfl ?_;conv=>whnf
 repeat' (first|((first|refine And.intro hq ?_|(refine aa ?_ ?_<;>intro hb<;>try simp only[az]at hb)|omega|refine aA ?_|decide|assumption)<;>conv=>whnf))
 refine .ret _ ?_;conv=>whnf
 refine⟨[],⟨?_,rfl⟩,trivial⟩;conv=>lhs;whnf
 rfl
theorem AL (h:cy):(h.legs.getD ((h.legs.length:Int) - 1).toNat ew)=nJ h:=by
 have e:((h.legs.length:Int) - 1).toNat=h.legs.length - 1:=by omega
 rw[e];rfl
structure Fh (h:cy):Prop where
 n1:1≤h.legs.length
 n2:h.legs.length≤20
 tm:0≤h.frm∧h.frm<h.to∧h.to≤5761439
 lst:0≤(nJ h).inn.tm∧(nJ h).inn.tm≤5761439
 lg:∀x ∈ h.legs,(0≤x.out.meter∧x.out.meter≤999999)∧(0≤x.inn.meter∧x.inn.meter≤999999)∧(0≤x.out.fuel∧x.out.fuel≤8)∧0≤x.inn.fuel∧x.inn.fuel≤8
theorem Dp {h:cy}(hE:bO h=0)(hc:(nJ h).inn.tm≠-1):Fh h:=by
 obtain⟨⟨_,hT,hn1,hn2⟩,_⟩:=pN hE;have hcl:=tU hE hc;have hlm:nJ h ∈ h.legs:=aq (by omega);refine⟨hn1,hn2,by unfold ic at hT;split at hT<;>omega,(iV (hcl _ hlm).2.2).1,fun x hx=> ?_⟩;obtain⟨_,b,c⟩:=hcl x hx;have b:=iV b;have c:=iV c;exact⟨b.2.2.1,c.2.2.1,b.2.2.2,c.2.2.2⟩
set_option maxHeartbeats 4000000 in
theorem Rh (d:uc)(hd:H8 d)(h:cy)(hp:Fh h):ai Tryz.prog 116 [.agg ((wW d).map .d),.agg ((gr h).map .d)] [] (fun y r=>y= .tup [.d (.int .i64 (qg h)),.d (.int .i64 (AD d h))]∧r= []):=by
 obtain⟨n1,n2,tm,lst,_⟩:=hp;obtain⟨_,⟨d4,d5,d6⟩,d7,d8⟩:=hd;have hl:=AL h;have hlat:0≤qg h∧qg h≤5761439:=by unfold qg;omega
 have b1:=CJ hlat.1 (show(0:Int)<60 by omega);have b2:=CJ hlat.1 (show(0:Int)<1440 by omega);have e1:0≤d.hr*uP (qg h) 60:=Int.mul_nonneg d5 b1.1;have e1b:d.hr*uP (qg h) 60≤1000000*5761498:=Int.mul_le_mul d6 (by omega) b1.1 (by omega);have e2:0≤d.dy*uP (qg h) 1440:=Int.mul_nonneg d7 b2.1;have e2b:d.dy*uP (qg h) 1440≤9000*5762878:=Int.mul_le_mul d8 (by omega) b2.1 (by omega);have lst':0≤(h.legs.getD ((h.legs.length:Int) - 1).toNat ew).inn.tm∧(h.legs.getD ((h.legs.length:Int) - 1).toNat ew).inn.tm≤5761439:=by rw[hl];exact lst
 have hn':qg h=max 0 ((h.legs.getD ((h.legs.length:Int) - 1).toNat ew).inn.tm - h.to):=by unfold qg;rw[hl]
 unfold AD;rw[hn']at hlat b1 b2 e1 e1b e2 e2b ⊢;have c60:=Mz (max 0 ((h.legs.getD ((h.legs.length:Int) - 1).toNat ew).inn.tm - h.to)) 60 (by omega) (by omega);have c1440:=Mz (max 0 ((h.legs.getD ((h.legs.length:Int) - 1).toNat ew).inn.tm - h.to)) 1440 (by omega) (by omega)
 by_cases q:max 0 ((h.legs.getD ((h.legs.length:Int) - 1).toNat ew).inn.tm - h.to)≤d.grc
 · rw[if_pos q];refine af hT (C:= []) Tryz.func116 rfl Tryz.call116 rfl rfl rfl ?_;conv=>whnf
   repeat' (first|((first|(refine aa ?_ ?_<;>intro hb<;>try simp only[az]at hb)|refine aw hT 1 tQ ?_|refine aw hT 4 tT ?_|omega|refine aA ?_|decide|assumption)<;>conv=>whnf))
   all_goals try(exfalso;exact absurd q (Int.not_le.2 hb))
   refine .ret _ ?_;conv=>whnf
   refine⟨[],⟨congrArg SV.tup ?_,rfl⟩,trivial⟩;repeat' (refine bD ?_ ?_)
   all_goals (conv=>lhs;whnf)
   all_goals try(with_reducible rfl)
   all_goals rfl
 · rw[if_neg q];refine af hT (C:= []) Tryz.func116 rfl Tryz.call116 rfl rfl rfl ?_;conv=>whnf
   repeat' (first|(refine ac (c60) rfl rfl ?_;rotate_right;conv=>whnf)|(refine ac (c1440) rfl rfl ?_;rotate_right;conv=>whnf)|((first|(refine aa ?_ ?_<;>intro hb<;>try simp only[az]at hb)|refine aw hT 1 tQ ?_|refine aw hT 4 tT ?_|omega|refine aA ?_|decide|assumption)<;>conv=>whnf))
   all_goals try(exfalso;exact q hb)
   refine .ret _ ?_;conv=>whnf
   refine⟨[],⟨congrArg SV.tup ?_,rfl⟩,trivial⟩;repeat' (refine bD ?_ ?_)
   all_goals (conv=>lhs;whnf)
   all_goals try(with_reducible rfl)
   all_goals rfl
set_option maxHeartbeats 4000000 in
theorem Rd (h:cy)(hp:Fh h):ai Tryz.prog 117 [.agg ((gr h).map .d)] [] (fun y r=>y= .d (.int .i64 (xE h.legs))∧r= []):=by
 obtain⟨n1,n2,_,_,lg⟩:=hp
 have hsm:∀i,i≤h.legs.length→0≤xE (h.legs.take i)∧xE (h.legs.take i)≤999999*20:=fun i hi=>by
  have:=(wl (l:=h.legs.take i) fun x hx=>lg x (List.mem_of_mem_take hx)).1;rw[List.length_take,Nat.min_eq_left hi]at this;omega
 refine af hT (C:= []) Tryz.func117 rfl Tryz.call117 rfl rfl rfl ?_;conv=>whnf
 repeat' (first|((first|(refine aa ?_ ?_<;>intro hb<;>try simp only[az]at hb)|omega|refine aA ?_|decide|assumption)<;>conv=>whnf))
 refine ah hT (C:= []) (ι:=Nat) (fun i=>i≤h.legs.length) (fun i=>aN [(3,.d (.int .i64 (xE (h.legs.take i)))),(8,.d (legs h.legs)),(9,.d (.int .i64 h.legs.length)),(10,.d (.int .i64 i))] []) (fun i=>h.legs.length - i) 0 (Nat.zero_le _) (by exact bz []) ?_;rintro i p1;have e1:(i:Int).toNat=i:=Int.toNat_natCast i;have kA:=hsm i p1;rcases Nat.lt_or_ge i h.legs.length with hi|hi
 · have hx:=lg _ (aq (x:=ew) (show(i:Int).toNat<h.legs.length by omega))
   have hk:xE (h.legs.take (i+1))=xE (h.legs.take i)+L0 (h.legs.getD (i:Int).toNat ew):=by
    rw[dG (d:=ew) hi,e1];simp[xE]
   conv=>whnf
   repeat' (first|((first|(refine aa ?_ ?_<;>intro hb<;>try simp only[az]at hb)|omega|refine aA ?_|decide|assumption)<;>conv=>whnf))
   all_goals try(exfalso;omega)
   all_goals
    refine⟨i+1,by omega,by omega,ae [] rfl rfl ⟨am ?_,lr,lr,am (by omega),trivial⟩ trivial⟩;rw[hk];unfold L0;simp only[e1]at*;split<;>omega
 · have:i=h.legs.length:=by omega
   subst this;rw[List.take_length]at*;conv=>whnf
   repeat' (first|((first|(refine aa ?_ ?_<;>intro hb<;>try simp only[az]at hb)|omega|refine aA ?_|decide|assumption)<;>conv=>whnf))
   all_goals try(exfalso;omega)
   refine .ret _ ?_;conv=>whnf
   refine⟨[],⟨?_,rfl⟩,trivial⟩;conv=>lhs;whnf
set_option maxHeartbeats 4000000 in
theorem QV (h:cy)(hp:Fh h):ai Tryz.prog 119 [.agg ((gr h).map .d)] [] (fun y r=>y= .d (.int .i64 (lx h.legs))∧r= []):=by
 obtain⟨n1,n2,_,_,lg⟩:=hp
 have hsm:∀i,i≤h.legs.length→0≤lx (h.legs.take i)∧lx (h.legs.take i)≤160:=fun i hi=>by
  have:=(wl (l:=h.legs.take i) fun x hx=>lg x (List.mem_of_mem_take hx)).2;rw[List.length_take,Nat.min_eq_left hi]at this;omega
 refine af hT (C:= []) Tryz.func119 rfl Tryz.call119 rfl rfl rfl ?_;conv=>whnf
 repeat' (first|((first|(refine aa ?_ ?_<;>intro hb<;>try simp only[az]at hb)|omega|refine aA ?_|decide|assumption)<;>conv=>whnf))
 refine ah hT (C:= []) (ι:=Nat) (fun i=>i≤h.legs.length) (fun i=>aN [(3,.d (.int .i64 (lx (h.legs.take i)))),(7,.d (legs h.legs)),(8,.d (.int .i64 h.legs.length)),(9,.d (.int .i64 i))] []) (fun i=>h.legs.length - i) 0 (Nat.zero_le _) (by exact bz []) ?_;rintro i p1;have e1:(i:Int).toNat=i:=Int.toNat_natCast i;have kA:=hsm i p1;rcases Nat.lt_or_ge i h.legs.length with hi|hi
 · have hx:=lg _ (aq (x:=ew) (show(i:Int).toNat<h.legs.length by omega))
   have hk:lx (h.legs.take (i+1))=lx (h.legs.take i)+Fb (h.legs.getD (i:Int).toNat ew):=by
    rw[dG (d:=ew) hi,e1];simp[lx]
   have hmx:aF (lx (List.take i h.legs)+bif true then max 0 ((h.legs.getD (i:Int).toNat ew).out.fuel - (h.legs.getD (i:Int).toNat ew).inn.fuel)else min 0 ((h.legs.getD (i:Int).toNat ew).out.fuel - (h.legs.getD (i:Int).toNat ew).inn.fuel)):=by
    show aF (_+max 0 _);unfold aF;omega
   conv=>whnf
   repeat' (first|((first|refine And.intro hmx ?_|(refine aa ?_ ?_<;>intro hb<;>try simp only[az]at hb)|omega|refine aA ?_|decide|assumption)<;>conv=>whnf))
   all_goals try(exfalso;omega)
   all_goals
    refine⟨i+1,by omega,by omega,ae [] rfl rfl ⟨am ?_,lr,lr,am (by omega),trivial⟩ trivial⟩;rw[hk];rfl
 · have:i=h.legs.length:=by omega
   subst this;rw[List.take_length]at*;conv=>whnf
   repeat' (first|((first|(refine aa ?_ ?_<;>intro hb<;>try simp only[az]at hb)|omega|refine aA ?_|decide|assumption)<;>conv=>whnf))
   all_goals try(exfalso;omega)
   refine .ret _ ?_;conv=>whnf
   refine⟨[],⟨?_,rfl⟩,trivial⟩;conv=>lhs;whnf
def mC:OL:= [(0,[]),(2,[0]),(4,[0,2]),(1,[2,4]),(3,[4]),(5,[]),(6,[]),(7,[]),(8,[])]
def ll:OL:= [(0,[]),(1,[0]),(2,[0]),(3,[0,1,2]),(5,rg 4),(6,rg 4),(7,[0,1,2,3,5,6]),(8,[0,1,2,3,5,6]),(4,[0,1,2,5,6,7,8]),(9,[0,1,2,5,6]),(10,[0,1,2]),(11,[0,1,2]),(12,[0,1,2]),(13,[0]),(14,[])]
def kZ:OL:= [(0,[]),(1,[0]),(2,[0]),(3,[0,1,2]),(4,[0,1,2]),(5,[0]),(6,[])]
theorem Pw (l:List gR)(hk:l.length≤2^40∧∀x ∈ l,x.key.length≤2^40):ai Tryz.prog 112 [.buf 1000001] [(1000001,jP l)] (fun x r=>x= .d (.int .i64 (eH l))∧r= [(1000001,jP l)]):=by
 have h1:=nW (args:= [.buf 1000001]) 1000001 68 3 l.length (aV Jn j5 l) (QS l hk) rfl (fun c r q=>nomatch q) rfl
  (fun x r h=>by obtain⟨rfl,rfl⟩:=h;exact⟨rfl,fun c q e=>(nomatch e),rfl⟩)
 exact h1.mono (fun x r h=>by obtain⟨r0,⟨q,rfl⟩,rfl⟩:=h;exact⟨q,rfl⟩)
theorem AO {k:List UInt8}(hk:k.length≤40){c:Int}{L:List gR}{n:Nat}(h:L.length≤n∧∀x ∈ L,x.key.length≤2^40):(ov k c L).length≤n+1∧∀x ∈ ov k c L,x.key.length≤2^40:=by
 unfold ov;split
 · refine⟨by rw[List.length_append];simp only[List.length_cons,List.length_nil];omega,fun x hx=> ?_⟩;rcases List.mem_append.1 hx with q|q
   · exact h.2 x q
   · rw[List.mem_singleton]at q;subst q;exact Nat.le_trans hk (by decide)
 · exact⟨by omega,h.2⟩
theorem Et {h:cy}(hc:(nJ h).inn.tm≠-1):decide ((h.legs.getD ((h.legs.length:Int) - 1).toNat ew).inn.tm= -1)=false:=decide_eq_false (by rw[AL h];exact hc)
theorem QW (h:cy)(hp:Fh h)(hc:(nJ h).inn.tm≠-1):ai Tryz.prog 113 [.agg ((gr h).map .d)] [] (fun y r=>y= .d (.bool false)∧r= []):=by
 have n1:=hp.n1;have n2:=hp.n2;rw[←Et hc];refine af hT (C:= []) Tryz.func113 rfl Tryz.call113 rfl rfl rfl ?_;conv=>whnf
 repeat' (first|((first|(refine aa ?_ ?_<;>intro hb<;>try simp only[az]at hb)|omega|refine aA ?_|decide|assumption)<;>conv=>whnf))
 refine .ret _ ?_;conv=>whnf
 refine⟨[],⟨?_,rfl⟩,trivial⟩;conv=>lhs;whnf
set_option maxHeartbeats 8000000 in
theorem QC (d:uc)(hd:H8 d)(hdE:rF d=0)(h:cy)(hk:JG h)(hE:bO h=0)(hc:(nJ h).inn.tm≠-1)(l:List gR)(hl:l.length≤2^10∧∀x ∈ l,x.key.length≤2^40):
 ai Tryz.prog 59 [.agg ((wW d).map .d),.agg ((gr h).map .d),.d (jK l)] [] (fun y r=>y=ou (sr d h l)∧r= []):=by
 have hp:=Dp hE hc;have c45:=QB d;rw[hdE]at c45;have c46:=z210 h hk;rw[hE]at c46;have c13:=QS l ⟨by omega,hl.2⟩;have h3:=fu [0,0,eH l] (by simp);have e3:al [0,0,eH l]=eH l:=by simp only[al];by_cases z:eH l=0<;>simp[z]
 rw[e3]at h3
 by_cases q:eH l=0
 · rw [q]at c13 h3;have hll:=gP.1 q;have c47:=QW h hp hc;have c48:=Q1 l (by omega);have c50:=Rh d hd h hp;have c51:=Rd h hp;have c52:=J1 h.frm h.to hp.tm;have c53:=QV h hp;obtain⟨L1,hL1⟩:∃L1,L1=ov y6 (AD d h) l:=⟨_,rfl⟩;obtain⟨L2,hL2⟩:∃L2,L2=ov Dl (HX d h) L1:=⟨_,rfl⟩;obtain⟨L3,hL3⟩:∃L3,L3=ov CB (d.eig*lx h.legs) L2:=⟨_,rfl⟩;have k1:=AO (k:=y6) (by decide) (c:=AD d h) hl;have k2:=AO (k:=Dl) (by decide) (c:=HX d h) k1;have k3:=AO (k:=CB) (by decide) (c:=d.eig*lx h.legs) k2;rw[←hL1]at k1 k2 k3;rw[←hL2]at k2 k3;rw[←hL3]at k3;have a1:=Oc y6 (AD d h) l (by omega);rw[←hL1]at a1;have a1n:=Px y6 (AD d h);have a2:=Oc Dl (HX d h) L1 (by omega);rw[←hL2]at a2;have a3:=Oc CB (d.eig*lx h.legs) L2 (by omega);rw[←hL3]at a3;have c13b:=Pw L3 ⟨by omega,k3.2⟩;have hO:DX d h l=L3:=by unfold DX;rw[←hL1,←hL2,←hL3]
   unfold sr;rw[if_neg (fun z=>z q),hO]
   have hdw:0≤df h.frm h.to∧df h.frm h.to≤5762879:=by
    have:=hp.tm;unfold df;rw[Int.tdiv_eq_ediv_of_nonneg (by omega)];omega
   have hkm:=(wl hp.lg).1;have hms:=(wl hp.lg).2;have hn2:=hp.n2;obtain⟨⟨d1,d2,d3⟩,_⟩:=hd;have f1:0≤d.free*df h.frm h.to:=Int.mul_nonneg d1.1 hdw.1;have f2:d.free*df h.frm h.to≤10000*5762879:=Int.mul_le_mul d1.2 hdw.2 hdw.1 (by omega);have hi1:aF (d.free*df h.frm h.to):=by unfold aF;omega
   have hm0:0≤max 0 (xE h.legs - d.free*df h.frm h.to)∧max 0 (xE h.legs - d.free*df h.frm h.to)≤19999980:=by omega
   have g1:0≤d.km*max 0 (xE h.legs - d.free*df h.frm h.to):=Int.mul_nonneg d2.1 hm0.1;have g2:d.km*max 0 (xE h.legs - d.free*df h.frm h.to)≤30*19999980:=Int.mul_le_mul d2.2 hm0.2 hm0.1 (by omega)
   have hi2:aF (d.km*bif true then max 0 (xE h.legs - d.free*df h.frm h.to)else min 0 (xE h.legs - d.free*df h.frm h.to)):=by
    show aF (d.km*max 0 _);unfold aF;omega
   have m1:0≤d.eig*lx h.legs:=Int.mul_nonneg d3.1 hms.1;have m2:d.eig*lx h.legs≤1000*160:=Int.mul_le_mul d3.2 (by omega) hms.1 (by omega);have hi3:aF (d.eig*lx h.legs):=by unfold aF;omega
   refine af hT (C:= []) Tryz.func59 rfl Tryz.call59 rfl rfl rfl ?_;conv=>whnf
   repeat' (first|(refine ac (c45) rfl rfl ?_;rotate_right;conv=>whnf)|(refine ac (c46) rfl rfl ?_;rotate_right;conv=>whnf)|(refine ac (c13) rfl rfl ?_;rotate_right;conv=>whnf)|(refine ao h3 ⟨aj (by rfl) (by rfl),trivial⟩ rfl ?_;conv=>whnf)|(refine ac (c47) rfl rfl ?_;rotate_right;conv=>whnf)|((first|(refine aa ?_ ?_<;>intro hb<;>try simp only[az]at hb)|refine aw hT 1 mC ?_|refine aw hT 10 ll ?_|refine aw hT 11 kZ ?_|omega|refine aA ?_|decide|assumption)<;>conv=>whnf))
   all_goals try(exfalso;omega)
   refine cj c48 [(7,501)] ?_;rintro x rout (⟨rfl,hnil,rfl⟩|⟨rfl,rfl⟩)
   · subst hnil;rw[←hL1]at a1n;refine⟨rfl,?_⟩;conv=>whnf
     repeat' (first|(refine ac (c50) rfl rfl ?_;rotate_right;conv=>whnf)|(refine cj a1n [(1000001,9),(50,502)] ?_;rintro y rout ⟨rfl,rfl⟩;refine⟨rfl,?_⟩;conv=>whnf)|(refine ac (c51) rfl rfl ?_;rotate_right;conv=>whnf)|(refine ac (c52) rfl rfl ?_;rotate_right;conv=>whnf)|((first|refine And.intro hi1 ?_|refine And.intro hi2 ?_|(refine cj a2 [(1000001,9),(1000002,502),(50,503)] ?_;rintro y rout ⟨rfl,rfl⟩;refine⟨rfl,?_⟩))<;>conv=>whnf)|(refine ac (c53) rfl rfl ?_;rotate_right;conv=>whnf)|((first|refine And.intro hi3 ?_|(refine cj a3 [(1000001,9),(1000002,503),(50,504)] ?_;rintro y rout ⟨rfl,rfl⟩;refine⟨rfl,?_⟩)|(refine cj c13b [(1000001,504)] ?_;rintro y rout ⟨rfl,rfl⟩;refine⟨rfl,?_⟩)|(refine aa ?_ ?_<;>intro hb<;>try simp only[az]at hb)|refine aw hT 1 mC ?_|refine aw hT 10 ll ?_|refine aw hT 11 kZ ?_|omega|refine aA ?_|decide|assumption)<;>conv=>whnf))
     · rw[if_pos hb];unfold ou;rw[if_pos hb];refine .ret _ ?_;conv=>whnf
       refine⟨[],⟨congrArg SV.tup ?_,rfl⟩,trivial⟩;repeat' (refine bD ?_ ?_)
       all_goals (conv=>lhs;whnf)
       all_goals try(with_reducible rfl)
     · rw[if_neg (fun z=>z hb)];unfold ou;rw[if_neg (fun z=>z rfl)];refine .freeze _ 504 68 3 _ _ rfl (.weak _ ?_);conv=>whnf
       exact⟨.tup [.d (jK L3),.d (.int .i64 0)],[],bG ⟨lr,lr,trivial⟩,⟨rfl,rfl⟩,trivial⟩
   · refine⟨rfl,?_⟩;conv=>whnf
     repeat' (first|(refine ac (c50) rfl rfl ?_;rotate_right;conv=>whnf)|(refine cj a1 [(1000001,9),(1000002,501),(50,502)] ?_;rintro y rout ⟨rfl,rfl⟩;refine⟨rfl,?_⟩;conv=>whnf)|(refine ac (c51) rfl rfl ?_;rotate_right;conv=>whnf)|(refine ac (c52) rfl rfl ?_;rotate_right;conv=>whnf)|((first|refine And.intro hi1 ?_|refine And.intro hi2 ?_|(refine cj a2 [(1000001,9),(1000002,502),(50,503)] ?_;rintro y rout ⟨rfl,rfl⟩;refine⟨rfl,?_⟩))<;>conv=>whnf)|(refine ac (c53) rfl rfl ?_;rotate_right;conv=>whnf)|((first|refine And.intro hi3 ?_|(refine cj a3 [(1000001,9),(1000002,503),(50,504)] ?_;rintro y rout ⟨rfl,rfl⟩;refine⟨rfl,?_⟩)|(refine cj c13b [(1000001,504)] ?_;rintro y rout ⟨rfl,rfl⟩;refine⟨rfl,?_⟩)|(refine aa ?_ ?_<;>intro hb<;>try simp only[az]at hb)|refine aw hT 1 mC ?_|refine aw hT 10 ll ?_|refine aw hT 11 kZ ?_|omega|refine aA ?_|decide|assumption)<;>conv=>whnf))
     · rw[if_pos hb];unfold ou;rw[if_pos hb];refine .ret _ ?_;conv=>whnf
       refine⟨[],⟨congrArg SV.tup ?_,rfl⟩,trivial⟩;repeat' (refine bD ?_ ?_)
       all_goals (conv=>lhs;whnf)
       all_goals try(with_reducible rfl)
     · rw[if_neg (fun z=>z hb)];unfold ou;rw[if_neg (fun z=>z rfl)];refine .freeze _ 504 68 3 _ _ rfl (.weak _ ?_);conv=>whnf
       exact⟨.tup [.d (jK L3),.d (.int .i64 0)],[],bG ⟨lr,lr,trivial⟩,⟨rfl,rfl⟩,trivial⟩
 · unfold sr;rw[if_pos q];generalize eH l=e at c13 h3 q;unfold ou;rw[if_pos q];refine af hT (C:= []) Tryz.func59 rfl Tryz.call59 rfl rfl rfl ?_;conv=>whnf
   repeat' (first|(refine ac (c45) rfl rfl ?_;rotate_right;conv=>whnf)|(refine ac (c46) rfl rfl ?_;rotate_right;conv=>whnf)|(refine ac (c13) rfl rfl ?_;rotate_right;conv=>whnf)|((first|refine ao h3 ⟨aj (by rfl) (by rfl),trivial⟩ rfl ?_|(refine aa ?_ ?_<;>intro hb<;>try simp only[az]at hb)|refine aw hT 1 mC ?_|refine aw hT 10 ll ?_|refine aw hT 11 kZ ?_|omega|refine aA ?_|decide|assumption)<;>conv=>whnf))
   all_goals try(exfalso;omega)
   refine .ret _ ?_;conv=>whnf
   refine⟨[],⟨congrArg SV.tup ?_,rfl⟩,trivial⟩;repeat' (refine bD ?_ ?_)
   all_goals (conv=>lhs;whnf)
   all_goals try(with_reducible rfl)
end Go.Proofs.YtodakofifpaljaaGreatDoor
namespace Go.Proofs
open Go.Shelf
end Go.Proofs
set_option maxRecDepth 20000
namespace Go.Proofs.YtodakofifpaljaaGreatDoor
open Go Go.Eng Go.RowKit
structure bx where
 tm:Int
 desk:List UInt8
 no:Int
 words:List UInt8
def iu:bx→List DV:=fun x=> [.int .i64 x.tm,.str x.desk,.int .i64 x.no,.str x.words]
def dQ:bx:=⟨0,[],0,[]⟩
abbrev ga (l:List bx):DV:=dD 4 iu dQ l
def Kq (n:Nat)(L:Nat→Int)(a:Int)(c:Int)(r:List (Nat×aY)):Prop:=∃b,a≤b∧b≤a+c∧r= [(1000000,bj n L b),(1000009,KX)]
end Go.Proofs.YtodakofifpaljaaGreatDoor
namespace Go.Proofs
open Go.Shelf
end Go.Proofs
set_option maxRecDepth 20000
namespace Go.Proofs.YtodakofifpaljaaGreatDoor
open Go Go.Eng Go.RowKit
end Go.Proofs.YtodakofifpaljaaGreatDoor
set_option maxRecDepth 20000
namespace Go.Proofs.YtodakofifpaljaaGreatDoor
open Go Go.Eng Go.RowKit
end Go.Proofs.YtodakofifpaljaaGreatDoor
set_option maxRecDepth 20000
namespace Go.Proofs.YtodakofifpaljaaGreatDoor
open Go Go.Eng Go.RowKit
def su (F:Nat→Int):Nat→Int
 |0=>0
 |n+1=>su F n+F n
structure Nw where
 K:Nat
 N:Nat
 fr:Nat→Nat
 to:Nat→Nat
 c:Nat→Int
def Nw.net (G:Nw)(f:Nat→Int)(v:Nat):Int:=su (fun k=>(if G.fr k=v then f k else 0) - (if G.to k=v then f k else 0)) G.K
def Nw.cost (G:Nw)(f:Nat→Int):Int:=su (fun k=>f k*G.c k) G.K
structure QD (G:Nw)(have_ want f left lack:Nat→Int):Prop where
 f0:∀k,k<G.K→0≤f k
 left0:∀v,v<G.N→0≤left v∧left v≤have_ v
 lack0:∀v,v<G.N→0≤lack v∧lack v≤want v
 net:∀v,v<G.N→G.net f v=(have_ v - left v) - (want v - lack v)
def QI (G:Nw)(e:Nat×Bool):Nat:=if e.2=true then G.fr e.1 else G.to e.1
def Nw.tl (G:Nw)(e:Nat×Bool):Nat:=if e.2=true then G.to e.1 else G.fr e.1
structure Q5 (μ:Type) where
 way:Nat→Option Int
 mv:Nat→Int→μ
 many:Int
structure Lay {μ:Type}(G:Nw)(B:Nat→Bool)(S J:Nat)(ns nw:Nat→Nat)(stn:Nat→Q5 μ)(m:Nat→Int→μ)(pos:Nat→Nat→Nat):Prop where
 pend:pos S 0=G.K
 pnext:∀i,i<S→pos (i+1) 0=pos i J
 pnone:∀i k,i<S→k<J→(stn i).way k=none→pos i (k+1)=pos i k
 psome:∀i k car,i<S→k<J→(stn i).way k=some car→pos i (k+1)=pos i k+1∧pos i k<G.K∧G.fr (pos i k)=ns i∧G.to (pos i k)=nw k∧G.c (pos i k)=car∧∀n,m (pos i k) n=(stn i).mv k n
 ns1:∀i,i<S→ns i<G.N∧B (ns i)=true
 ns2:∀i j,i<S→j<S→ns i=ns j→i=j
 nw1:∀k,k<J→nw k<G.N∧B (nw k)=false
 nw2:∀k j,k<J→j<J→nw k=nw j→k=j
 all:∀v,v<G.N→B v=false→∃k,k<J∧v=nw k
theorem IL (a b:List UInt8):dM a b= - dM b a:=by
 unfold dM
 by_cases e:a=b
 · subst e;simp[ek]
 · cases q:Op.bytesLess a b
   · have:=gu _ _ q e;simp[this]
   · have:Op.bytesLess b a=false:=by
      cases w:Op.bytesLess b a
      · rfl
      · have:=fQ q w;rw[ek]at this;cases this
     simp[this]
theorem HY (a b:Int):eU a b= - eU b a:=by unfold eU;grind
theorem CH {a b:List UInt8}:dM a b<0↔Op.bytesLess a b=true:=by
 unfold dM;constructor
 · intro h;by_cases q:Op.bytesLess a b=true
   · exact q
   · rw[if_neg q]at h;split at h<;>omega
 · intro h;rw[if_pos h];omega
theorem jX {a b:List UInt8}:dM a b=0↔a=b:=by
 constructor
 · intro h
   by_cases e:a=b
   · exact e
   · exfalso;cases q:Op.bytesLess a b
     · have h2:=gu _ _ q e;unfold dM at h;rw[q,h2]at h;simp at h
     · have:=CH.2 q;omega
 · rintro rfl;unfold dM;simp[ek]
theorem BV {a b c:List UInt8}(h1:dM a b<0)(h2:dM b c<0):dM a c<0:=by
 rw[CH]at*;exact fQ h1 h2
theorem Di {a b:Int}:eU a b<0↔a<b:=by unfold eU;split<;>(try split)<;>omega
theorem iQ {a b:Int}:eU a b=0↔a=b:=by unfold eU;split<;>(try split)<;>omega
def Dy:OL:= [(0,[]),(1,[]),(2,[0,1]),(3,[0,1]),(5,rg 4),(6,rg 4),(7,[0,1,2,3,5,6]),(8,[0,1,2,3,5,6]),(10,[0,1,2,3,5,6,7,8]),(11,[0,1,2,3,5,6,7,8]),(12,[0,1,2,3,5,6,7,8,10,11]),(13,[0,1,2,3,5,6,7,8,10,11]),(4,[5,6,7,8,10,11,12,13]),(9,[10,11,12,13]),(14,[]),(15,[]),(16,[]),(17,[])]
def KO (s:List UInt8):Bool:=s.all fun b=>decide (32≤b.toNat)&&decide (b.toNat≤126)
theorem wO {s:List UInt8}:KO s=true↔∀j,j<s.length→32≤(s.getD j 0).toNat∧(s.getD j 0).toNat≤126:=by
 unfold KO;rw[List.all_eq_true];constructor
 · intro h j hj;have:=h _ (aq (x:=0) hj);simpa using this
 · intro h x hx;obtain⟨i,hi,rfl⟩:=bQ (d:=0) hx;simpa using h i hi
theorem xh {s:List UInt8}{i:Nat}(hi:i<s.length)(h:¬ (32≤(s.getD i 0).toNat∧(s.getD i 0).toNat≤126)):KO s=false:=by
 cases q:KO s with
 |false=>rfl
 |true=>exact absurd (wO.1 q i hi) h
theorem NT (s:List UInt8)(hl:s.length≤2^40):ai Tryz.prog 100 [.d (.str s)] [] (fun x r=>x= .d (.bool (KO s))∧r= []):=by
 refine af hT (C:= []) Tryz.func100 rfl Tryz.call100 rfl rfl rfl ?_;conv=>whnf
 refine ah hT (C:= []) (ι:=Nat) (fun i=>i≤s.length∧∀j,j<i→32≤(s.getD j 0).toNat∧(s.getD j 0).toNat≤126) (fun i=>aN [(0,.d (.str s)),(5,.d (.int .i64 s.length)),(6,.d (.int .i64 i))] []) (fun i=>s.length - i) 0 ⟨by omega,by omega⟩ (by exact bz []) ?_;rintro i ⟨p1,p2⟩;have e1:(i:Int).toNat=i:=Int.toNat_natCast i;conv=>whnf
 repeat' (first|((first|(refine aa ?_ ?_<;>intro hb<;>try simp only[az]at hb)|omega|refine aA ?_|decide|assumption)<;>conv=>whnf))
 · refine .ret _ ?_;conv=>whnf
   refine⟨[],⟨?_,rfl⟩,trivial⟩;conv=>lhs;whnf
   rw[xh (i:=i) (by omega) (by omega)]
 · refine .ret _ ?_;conv=>whnf
   refine⟨[],⟨?_,rfl⟩,trivial⟩;conv=>lhs;whnf
   rw[xh (i:=i) (by omega) (by omega)]
 · exact⟨i+1,⟨by omega,bH p2 (by omega)⟩,by omega,(by exact bz [])⟩
 · refine .ret _ ?_;conv=>whnf
   refine⟨[],⟨?_,rfl⟩,trivial⟩;conv=>lhs;whnf
   have:i=s.length:=by omega
   subst this;rw[wO.2 p2]
def gg (a b:bx):Int:=al [eU a.tm b.tm,dM a.desk b.desk,eU a.no b.no]
theorem Nl (a b:bx):ai Tryz.prog 74 [.agg ((iu a).map .d),.agg ((iu b).map .d)] [] (fun x r=>x= .d (.int .i64 (gg a b))∧r= []):=by
 refine af hT (C:= []) Tryz.func74 rfl Tryz.call74 rfl rfl rfl ?_;conv=>whnf
 repeat' (first|(refine ac (yE _ _) rfl rfl ?_;rotate_right;conv=>whnf)|(refine ac (FC _ _) rfl rfl ?_;rotate_right;conv=>whnf)|((first|refine ao (A5 [_,_,_] (by simp)) ⟨aj (by rfl) (by rfl),trivial⟩ rfl ?_|(refine aa ?_ ?_<;>intro hb<;>try simp only[az]at hb)|refine aw hT 1 Dy ?_|omega|refine aA ?_|decide|assumption)<;>conv=>whnf))
 refine .ret _ ?_;conv=>whnf
 refine⟨[],⟨?_,rfl⟩,trivial⟩;conv=>lhs;whnf
 rfl
theorem MB (n:Int):ai Tryz.prog 89 [.d (.int .i64 n)] [] (fun x r=>x= .d (.int .i64 (eU n 0))∧r= []):=by
 refine af hT (C:= []) Tryz.func89 rfl Tryz.call89 rfl rfl rfl ?_;conv=>whnf
 repeat' (first|((first|(refine aa ?_ ?_<;>intro hb<;>try simp only[az]at hb)|omega|refine aA ?_|decide|assumption)<;>conv=>whnf))
 all_goals
  refine .ret _ ?_;conv=>whnf
  refine⟨[],⟨?_,rfl⟩,trivial⟩;conv=>lhs;whnf
  congr 2
  unfold eU;grind
def Bd (a:bx):Prop:=(-2^40≤a.tm∧a.tm≤2^40)∧(-2^40≤a.no∧a.no≤2^40)
theorem yB (a b:Int):eU (a - b) 0=eU a b:=by unfold eU;grind
theorem NM (a b:bx)(ha:Bd a)(hb0:Bd b):ai Tryz.prog 44 [.agg ((iu a).map .d),.agg ((iu b).map .d)] [] (fun x r=>x= .d (.int .i64 (gg a b))∧r= []):=by
 obtain⟨⟨a1,a2⟩,a3,a4⟩:=ha;obtain⟨⟨b1,b2⟩,b3,b4⟩:=hb0;refine af hT (C:= []) Tryz.func44 rfl Tryz.call44 rfl rfl rfl ?_;conv=>whnf
 repeat' (first|(refine ac (MB _) rfl rfl ?_;rotate_right;conv=>whnf)|(refine ac (Me _ _) rfl rfl ?_;rotate_right;conv=>whnf)|((first|(refine aa ?_ ?_<;>intro hb<;>try simp only[az]at hb)|omega|refine aA ?_|decide|assumption)<;>conv=>whnf))
 · refine .ret _ ?_;conv=>whnf
   refine⟨[],⟨?_,rfl⟩,trivial⟩;conv=>lhs;whnf
   congr 2
   have h0:¬eU a.tm b.tm=0:=fun q=>hb (iQ.1 q)
   rw[yB];unfold gg;simp only[al];rw[if_neg h0]
 · rename_i hb1;refine .ret _ ?_;conv=>whnf
   refine⟨[],⟨?_,rfl⟩,trivial⟩;conv=>lhs;whnf
   congr 2
   have h0:eU a.tm b.tm=0:=iQ.2 (by omega);have h1:¬dM a.desk b.desk=0:=fun q=>hb (jX.1 q)
   unfold gg;simp only[al];rw[if_pos h0,if_neg h1]
 · rename_i hb1;refine .ret _ ?_;conv=>whnf
   refine⟨[],⟨?_,rfl⟩,trivial⟩;conv=>lhs;whnf
   congr 2
   have h0:eU a.tm b.tm=0:=iQ.2 (by omega);have h1:dM a.desk b.desk=0:=jX.2 (by simpa using hb);rw[yB];unfold gg;simp only[al];rw[if_pos h0,if_pos h1];split<;>simp_all
def gL:OL:= [(0,[]),(1,[0]),(2,[]),(3,[]),(4,[]),(5,[4]),(6,[4,5]),(7,[4]),(8,[4]),(9,[4,5,6,7,8]),(10,[4,5,6,7,8,9]),(11,[4,5,6,7,8,9]),(12,[4,5,6,7,8]),(13,[4,5,6,7,8]),(14,[]),(15,[]),(16,[])]
def gU:OL:= [(0,[]),(1,[0]),(2,[0,1]),(3,[0,1,2]),(4,[0,1,2]),(5,rg 5),(6,rg 6),(7,rg 6),(8,rg 5),(9,rg 5),(10,rg 10),(11,rg 11),(12,rg 10),(13,rg 10),(14,[2,3,4]),(15,[2,3,4]),(16,[]),(17,[])]
def jl (l c:List bx):Prop:=c.length=l.length∧∀x ∈ c,x ∈ l
theorem vf {l c:List bx}{j:Nat}{x:bx}(h:jl l c)(hx:x ∈ l):jl l (c.set j x):=
 ⟨by rw[List.length_set];exact h.1,fun y hy=>by rcases List.mem_or_eq_of_mem_set hy with q|q;exact h.2 y q;subst q;exact hx⟩
theorem JP (g:FuncId)(cmp:bx→bx→Int)(l:List bx)(hl:l.length≤2^40)
 (hcmp:∀p q,p ∈ l→q ∈ l→ai Tryz.prog g [.agg ((iu p).map .d),.agg ((iu q).map .d)] [] (fun y r=>y= .d (.int .i64 (cmp p q))∧r= [])):
 ai Tryz.prog 133 [.buf 1000001,.d (.int .i64 0),.d (.int .i64 l.length),.fn g []] [(1000001,aM 129 4 iu dQ l)]
  (fun y r=>y= .tup []∧∃c,jl l c∧r= [(1000001,aM 129 4 iu dQ c)]):=by
 refine af hT (C:= []) Tryz.func133 rfl Tryz.call133 rfl rfl rfl ?_;conv=>whnf
 repeat' (first|((first|(refine aa ?_ ?_<;>intro hb<;>try simp only[az]at hb)|refine aw hT 4 gL ?_|refine aw hT 6 gU ?_|omega|refine aA ?_|decide|assumption)<;>conv=>whnf))
 refine ah hT (C:= []) (ι:=Nat×List bx) (fun(i,c)=>1≤i∧(i≤l.length∨i=1)∧jl l c)
  (fun(i,c)=>aN [(0,.buf 1000001),(1,.d (.int .i64 0)),(2,.d (.int .i64 l.length)),(3,.fn g []),(8,.d (.int .i64 i))] [(1000001,aM 129 4 iu dQ c)])
  (fun(i,_)=>l.length - i) (1,l) ⟨by simp,by simp,rfl,fun x h=>h⟩ (by exact bz [(1000001,1000001)]) ?_
 rintro⟨i,c⟩ ⟨p1,p2,p3⟩;have hc0:=p3.1;conv=>whnf
 repeat' (first|((first|(refine aa ?_ ?_<;>intro hb<;>try simp only[az]at hb)|refine aw hT 4 gL ?_|refine aw hT 6 gU ?_|omega|refine aA ?_|decide|assumption)<;>conv=>whnf))
 · refine ah hT (C:= []) (ι:=Nat×List bx) (fun(j,c)=>j≤i∧jl l c)
    (fun(j,c)=>aN [(0,.buf 1000001),(1,.d (.int .i64 0)),(2,.d (.int .i64 l.length)),(3,.fn g []),(8,.d (.int .i64 i)),(9,.d (.int .i64 j))] [(1000001,aM 129 4 iu dQ c)])
    (fun(j,_)=>j) (i,c) ⟨Nat.le_refl _,p3⟩ (by exact bz [(1000001,1000001)]) ?_
   rintro⟨j,b⟩ ⟨q1,q3⟩;have hb0:=q3.1;conv=>whnf
   repeat' (first|((first|(refine aa ?_ ?_<;>intro hb<;>try simp only[az]at hb)|refine aw hT 4 gL ?_|refine aw hT 6 gU ?_|omega|refine aA ?_|decide|assumption)<;>conv=>whnf))
   · refine fz.of (hcmp (b.getD (j:Int).toNat dQ) (b.getD ((j:Int) - 1).toNat dQ) (q3.2 _ (aq (by omega))) (q3.2 _ (aq (by omega)))) [] rfl ⟨lr,lr,trivial⟩ trivial rfl rfl ?_;rintro x rout ⟨rfl,rfl⟩;refine⟨rfl,?_⟩;conv=>whnf
     repeat' (first|((first|(refine aa ?_ ?_<;>intro hb<;>try simp only[az]at hb)|refine aw hT 4 gL ?_|refine aw hT 6 gU ?_|omega|refine aA ?_|decide|assumption)<;>conv=>whnf))
     · refine⟨(j - 1,_),⟨by omega,vf (vf q3 (q3.2 _ (aq (i:=((j:Int) - 1).toNat) (x:=dQ) (by omega)))) (q3.2 _ (aq (i:=(j:Int).toNat) (x:=dQ) (by omega)))⟩,by show j - 1<j;omega,ae [(1000001,1000001)] rfl rfl ⟨lr,lr,lr,lr,lr,am (by omega),trivial⟩ ⟨fU (fun _=>rfl) (fun _=>rfl),trivial⟩⟩
     · exact⟨(i+1,b),⟨by omega,by omega,q3⟩,by show l.length - (i+1)<l.length - i;omega,(by exact bz [(1000001,1000001)])⟩
   · exact⟨(i+1,b),⟨by omega,by omega,q3⟩,by show l.length - (i+1)<l.length - i;omega,(by exact bz [(1000001,1000001)])⟩
 · refine .ret _ ?_;conv=>whnf
   exact⟨_,⟨rfl,c,p3,rfl⟩,rr,trivial⟩
theorem J2 (g:FuncId)(cmp:bx→bx→Int)(l:List bx)(hl:l.length<20)
 (hcmp:∀p q,p ∈ l→q ∈ l→ai Tryz.prog g [.agg ((iu p).map .d),.agg ((iu q).map .d)] [] (fun y r=>y= .d (.int .i64 (cmp p q))∧r= [])):
 ai Tryz.prog 88 [.buf 1000001,.d (.int .i64 l.length),.fn g []] [(1000001,aM 129 4 iu dQ l)]
  (fun y r=>y= .tup []∧∃c,jl l c∧r= [(1000001,aM 129 4 iu dQ c)]):=by
 refine af hT (C:= []) Tryz.func88 rfl Tryz.call88 rfl rfl rfl ?_;conv=>whnf
 refine ah hT (C:= []) (ι:=Unit) (fun _=>True) (fun _=>aN [(0,.buf 1000001),(1,.d (.int .i64 l.length)),(2,.fn g []),(6,.d (.int .i64 20)),(7,.d (.int .i64 0)),(8,.d (.int .i64 20))] [(1000001,aM 129 4 iu dQ l)]) (fun _=>0) () trivial (by exact bz [(1000001,1000001)]) ?_;rintro⟨⟩ -;conv=>whnf
 repeat' (first|((first|(refine aa ?_ ?_<;>intro hb<;>try simp only[az]at hb)|omega|refine aA ?_|decide|assumption)<;>conv=>whnf))
 refine cj (JP g cmp l (by omega) hcmp) [(1000001,1000001)] ?_;rintro x rout ⟨rfl,c,hc,rfl⟩;refine⟨rfl,?_⟩;conv=>whnf
 refine ah hT (C:= []) (ι:=Unit) (fun _=>True) (fun _=>aN [(0,.buf 1000001),(1,.d (.int .i64 l.length)),(2,.fn g []),(6,.d (.int .i64 20))] [(1000001,aM 129 4 iu dQ c)]) (fun _=>0) () trivial (by exact bz [(1000001,1000001)]) ?_;rintro⟨⟩ -;conv=>whnf
 repeat' (first|((first|(refine aa ?_ ?_<;>intro hb<;>try simp only[az]at hb)|omega|refine aA ?_|decide|assumption)<;>conv=>whnf))
 refine .ret _ ?_;conv=>whnf
 exact⟨_,⟨rfl,c,hc,rfl⟩,rr,trivial⟩
theorem yS {a b c:List bx}(h:jl a b)(k:jl b c):jl a c:=⟨k.1.trans h.1,fun x hx=>h.2 x (k.2 x hx)⟩
theorem LC (g:FuncId)(l:List bx):
 ai Tryz.prog 133 [.buf 1000001,.d (.int .i64 20),.d (.int .i64 20),.fn g []] [(1000001,aM 129 4 iu dQ l)]
  (fun y r=>y= .tup []∧r= [(1000001,aM 129 4 iu dQ l)]):=by
 refine af hT (C:= []) Tryz.func133 rfl Tryz.call133 rfl rfl rfl ?_;conv=>whnf
 repeat' (first|((first|(refine aa ?_ ?_<;>intro hb<;>try simp only[az]at hb)|refine aw hT 4 gL ?_|refine aw hT 6 gU ?_|omega|refine aA ?_|decide|assumption)<;>conv=>whnf))
 refine ah hT (C:= []) (ι:=Unit) (fun _=>True) (fun _=>aN [(0,.buf 1000001),(1,.d (.int .i64 20)),(2,.d (.int .i64 20)),(3,.fn g []),(8,.d (.int .i64 21))] [(1000001,aM 129 4 iu dQ l)]) (fun _=>0) () trivial (by exact bz [(1000001,1000001)]) ?_;rintro⟨⟩ -;conv=>whnf
 repeat' (first|((first|(refine aa ?_ ?_<;>intro hb<;>try simp only[az]at hb)|refine aw hT 4 gL ?_|refine aw hT 6 gU ?_|omega|refine aA ?_|decide|assumption)<;>conv=>whnf))
 refine .ret _ ?_;conv=>whnf
 exact⟨_,⟨rfl,rfl⟩,rr,trivial⟩
theorem Kc (g:FuncId)(cmp:bx→bx→Int)(l:List bx)(hl:l.length=20)
 (hcmp:∀p q,p ∈ l→q ∈ l→ai Tryz.prog g [.agg ((iu p).map .d),.agg ((iu q).map .d)] [] (fun y r=>y= .d (.int .i64 (cmp p q))∧r= [])):
 ai Tryz.prog 88 [.buf 1000001,.d (.int .i64 l.length),.fn g []] [(1000001,aM 129 4 iu dQ l)]
  (fun y r=>y= .tup []∧∃c,jl l c∧r= [(1000001,aM 129 4 iu dQ c)]):=by
 have h20:(l.length:Int)=20:=by omega
 rw[h20];refine af hT (C:= []) Tryz.func88 rfl Tryz.call88 rfl rfl rfl ?_;conv=>whnf
 refine ah hT (C:= []) (ι:=Bool×List bx) (fun(_,c)=>jl l c) (fun(b,c)=>aN [(0,.buf 1000001),(1,.d (.int .i64 20)),(2,.fn g []),(6,.d (.int .i64 20)),(7,.d (.int .i64 (bif b then 20 else 0))),(8,.d (.int .i64 (bif b then 40 else 20)))] [(1000001,aM 129 4 iu dQ c)]) (fun(b,_)=>bif b then 0 else 1) (false,l) ⟨rfl,fun x h=>h⟩ (by exact bz [(1000001,1000001)]) ?_;rintro⟨b,c⟩ hc;have hc:jl l c:=hc;cases b
 · have c1:=JP g cmp c (by have:=hc.1;omega) (fun p q hp hq=>hcmp p q (hc.2 p hp) (hc.2 q hq));have h2:(c.length:Int)=20:=by have:=hc.1;omega
   rw[h2]at c1;conv=>whnf
   repeat' (first|((first|(refine aa ?_ ?_<;>intro hb<;>try simp only[az]at hb)|omega|refine aA ?_|decide|assumption)<;>conv=>whnf))
   refine cj c1 [(1000001,1000001)] ?_;rintro x rout ⟨rfl,d,hd,rfl⟩;refine⟨rfl,?_⟩;conv=>whnf
   repeat' (first|((first|(refine aa ?_ ?_<;>intro hb<;>try simp only[az]at hb)|omega|refine aA ?_|decide|assumption)<;>conv=>whnf))
   exact⟨(true,d),yS hc hd,by show(0:Nat)<1;omega,(by exact bz [(1000001,1000001)])⟩
 · conv=>whnf
   repeat' (first|((first|(refine aa ?_ ?_<;>intro hb<;>try simp only[az]at hb)|omega|refine aA ?_|decide|assumption)<;>conv=>whnf))
   refine cj (LC g c) [(1000001,1000001)] ?_;rintro x rout ⟨rfl,rfl⟩;refine⟨rfl,?_⟩;conv=>whnf
   refine ah hT (C:= []) (ι:=Unit) (fun _=>True) (fun _=>aN [(0,.buf 1000001),(1,.d (.int .i64 20)),(2,.fn g []),(6,.d (.int .i64 20))] [(1000001,aM 129 4 iu dQ c)]) (fun _=>0) () trivial (by exact bz [(1000001,1000001)]) ?_;rintro⟨⟩ -;conv=>whnf
   repeat' (first|((first|(refine aa ?_ ?_<;>intro hb<;>try simp only[az]at hb)|omega|refine aA ?_|decide|assumption)<;>conv=>whnf))
   refine .ret _ ?_;conv=>whnf
   exact⟨_,⟨rfl,c,hc,rfl⟩,rr,trivial⟩
theorem Ns (g:FuncId)(cmp:bx→bx→Int)(l:List bx)(hl:l.length≤20)
 (hcmp:∀p q,p ∈ l→q ∈ l→ai Tryz.prog g [.agg ((iu p).map .d),.agg ((iu q).map .d)] [] (fun y r=>y= .d (.int .i64 (cmp p q))∧r= [])):
 ai Tryz.prog 88 [.buf 1000001,.d (.int .i64 l.length),.fn g []] [(1000001,aM 129 4 iu dQ l)]
  (fun y r=>y= .tup []∧∃c,jl l c∧r= [(1000001,aM 129 4 iu dQ c)]):=by
 rcases Nat.lt_or_ge l.length 20 with h|h
 · exact J2 g cmp l h hcmp
 · exact Kc g cmp l (by omega) hcmp
theorem Ms (g:FuncId)(cmp:bx→bx→Int)(l:List bx)(hl:l.length≤20)
 (hcmp:∀p q,p ∈ l→q ∈ l→ai Tryz.prog g [.agg ((iu p).map .d),.agg ((iu q).map .d)] [] (fun y r=>y= .d (.int .i64 (cmp p q))∧r= [])):
 ai Tryz.prog 43 [.buf 1000001,.fn g []] [(1000001,aM 129 4 iu dQ l)]
  (fun y r=>y= .tup []∧∃c,jl l c∧r= [(1000001,aM 129 4 iu dQ c)]):=by
 refine af hT (C:= []) Tryz.func43 rfl Tryz.call43 rfl rfl rfl ?_;conv=>whnf
 repeat' (first|((first|(refine aa ?_ ?_<;>intro hb<;>try simp only[az]at hb)|omega|refine aA ?_|decide|assumption)<;>conv=>whnf))
 refine cj (Ns g cmp l hl hcmp) [(1000001,1000001)] ?_;rintro x rout ⟨rfl,c,hc,rfl⟩;refine⟨rfl,?_⟩;conv=>whnf
 refine .ret _ ?_;conv=>whnf
 exact⟨_,⟨rfl,c,hc,rfl⟩,rr,trivial⟩
def DR:OL:= [(0,[]),(1,[]),(2,[]),(3,[]),(4,[3]),(5,[3]),(6,[]),(7,[]),(8,[3,4,5,6,7]),(9,[]),(10,[]),(11,[])]
theorem FP {p:Nat→Bool}{n k:Nat}(hk:k<n)(h:p k=true):0≤j7 p n:=by
 have hb:=e6 (p:=p) (n:=n);rcases Int.lt_or_le (j7 p n) 0 with q|q
 · exfalso
   have hn :∀m,j7 p m<0→∀j,j<m→p j=false:=by
    intro m
    induction m with
    |zero=>intro _ j hj;omega
    | succ m ih=>
      intro hm j hj;rw[j7]at hm;split at hm
      · rename_i hz
        by_cases hjm:j=m
        · subst hjm;split at hm
          · omega
          · rename_i hf;simpa using hf
        · exact ih (by omega) j (by omega)
      · rename_i hz;have:=(e6 (p:=p) (n:=m)).1;omega
   rw[hn n q k hk]at h;cases h
 · exact q
theorem K9 {a b:bx}:a=b↔((a.tm=b.tm∧a.desk=b.desk)∧a.no=b.no)∧a.words=b.words:=by cases a;cases b;simp[and_assoc]
instance:DecidableEq bx:=fun _ _=>decidable_of_iff _ K9.symm
def enHas (l:List bx):List DV→Bool
 | [.str a,.int .i64 b]=>l.any fun y=>y.desk==a&&decide (y.no=b)
 |_=>false
def zS (l:List bx)(x:bx):Bool:=enHas l [.str x.desk,.int .i64 x.no]
abbrev QE (l:List bx):aY:=.map true false [.str,.int .i64] [.bool false] (enHas l) (fun k=> [.bool (enHas l k)])
def uE (y x:bx):Bool:=y.desk==x.desk&&decide (y.no=x.no)
def lG (x:bx):aY:=.cells 129 ((iu x).map .d)
theorem Qe (y x:bx):ai Tryz.prog 47 [.agg ((iu y).map .d),.ptr 1000001 0] [(1000001,lG x)] (fun v r=>v= .d (.bool (uE y x))∧r= [(1000001,lG x)]):=by
 refine af hT (C:= []) Tryz.func47 rfl Tryz.call47 rfl rfl rfl ?_;conv=>whnf
 repeat' (first|((first|(refine aa ?_ ?_<;>intro hb<;>try simp only[az]at hb)|omega|refine aA ?_|decide|assumption)<;>conv=>whnf))
 all_goals
  refine .ret _ ?_;conv=>whnf
  refine⟨[(1000001,lG x)],⟨?_,rfl⟩,rr,trivial⟩;conv=>lhs;whnf
  congr 2
  unfold uE
  first
   |(rw[hb];simp;done)
   | (have:(y.desk==x.desk)=false:=by simpa using hb
      rw[this];rfl)
   |simp_all
theorem MO (l:List bx)(hl:l.length≤2^40)(x:bx):ai Tryz.prog 93 [.d (ga l),.fn 47 [.ptr 1000001 0]] [(1000001,lG x)] (fun v r=>v= .d (.int .i64 (j7 (fun i=>uE (l.getD i dQ) x) l.length))∧r= [(1000001,lG x)]):=by
 refine af hT (C:= []) Tryz.func93 rfl Tryz.call93 rfl rfl rfl ?_;conv=>whnf
 refine ah hT (C:= []) (ι:=Nat) (fun i=>i≤l.length∧∀j,j<i→uE (l.getD j dQ) x=false) (fun i=>aN [(0,.d (ga l)),(1,.fn 47 [.ptr 1000001 0]),(7,.d (.int .i64 l.length)),(8,.d (.int .i64 i))] [(1000001,lG x)]) (fun i=>l.length - i) 0 ⟨by omega,by omega⟩ (by exact bz [(1000001,1000001)]) ?_;rintro i ⟨p1,p2⟩;have e1:(i:Int).toNat=i:=Int.toNat_natCast i;conv=>whnf
 repeat' (first|((first|(refine cj (Qe (l.getD (i:Int).toNat dQ) x) [(1000001,1000001)] ?_;rintro v rout ⟨rfl,rfl⟩;refine⟨rfl,?_⟩)|(refine aa ?_ ?_<;>intro hb<;>try simp only[az]at hb)|omega|refine aA ?_|decide|assumption)<;>conv=>whnf))
 · refine .ret _ ?_;conv=>whnf
   refine⟨[(1000001,lG x)],⟨?_,rfl⟩,rr,trivial⟩;conv=>lhs;whnf
   congr 2
   exact(gm (by omega) p2 (by simpa using hb)).symm
 · exact⟨i+1,⟨by omega,bH p2 (by simpa using hb)⟩,by omega,(by exact bz [(1000001,1000001)])⟩
 · refine .ret _ ?_;conv=>whnf
   refine⟨[(1000001,lG x)],⟨?_,rfl⟩,rr,trivial⟩;conv=>lhs;whnf
   congr 2
   have:i=l.length:=by omega
   subst this;exact(eG p2).symm
theorem J7 (l:List bx)(x:bx):decide (0≤j7 (fun i=>uE (l.getD i dQ) x) l.length)=zS l x:=by
 rw[Bool.eq_iff_iff,decide_eq_true_eq];show _↔(l.any fun y=>y.desk==x.desk&&decide (y.no=x.no))=true;rw[List.any_eq_true];constructor
 · intro h;have:=e6 (p:=fun i=>uE (l.getD i dQ) x) (n:=l.length);exact⟨_,aq (x:=dQ) (by omega),this.2.2 h⟩
 · rintro⟨y,hy,he⟩;obtain⟨j,hj,rfl⟩:=bQ (d:=dQ) hy;exact FP hj he
theorem PF (l:List bx)(hl:l.length≤2^40)(x:bx):ai Tryz.prog 46 [.d (ga l),.fn 47 [.ptr 1000001 0]] [(1000001,lG x)] (fun v r=>v= .d (.bool (zS l x))∧r= [(1000001,lG x)]):=by
 refine af hT (C:= []) Tryz.func46 rfl Tryz.call46 rfl rfl rfl ?_;conv=>whnf
 repeat' (first|((first|(refine cj (MO l hl x) [(1000001,1000001)] ?_;rintro v rout ⟨rfl,rfl⟩;refine⟨rfl,?_⟩)|(refine aa ?_ ?_<;>intro hb<;>try simp only[az]at hb)|omega|refine aA ?_|decide|assumption)<;>conv=>whnf))
 refine .ret _ ?_;conv=>whnf
 refine⟨[(1000001,lG x)],⟨?_,rfl⟩,rr,trivial⟩;conv=>lhs;whnf
 rw[←J7]
def ry (x:bx):Int:=if ¬ (0≤x.tm∧x.tm≤5761439)then 1 else if aG x.desk=false then 5 else if ¬ (1≤x.no∧x.no≤1000000)then 1 else if ¬ (1≤x.words.length∧x.words.length≤200)then 3 else if KO x.words=false then 3 else 0
def rG (l:List bx)(i:Nat):Int:=if ry (l.getD i dQ)≠0 then ry (l.getD i dQ)else if 0<i∧0≤gg (l.getD (i - 1) dQ) (l.getD i dQ)then 7 else if zS (l.take i) (l.getD i dQ)=true then 6 else 0
def jx (l:List bx):Int:=if 1000<l.length then 2 else aX (rG l) l.length
def uJ (x:bx):Prop:=(x.desk.length≤2^40∧x.words.length≤2^40)∧Bd x
def Ci (l:List bx):Prop:=l.length≤2^40∧∀x ∈ l,uJ x
theorem Pv (x:bx)(hk:uJ x):ai Tryz.prog 45 [.agg ((iu x).map .d)] [] (fun v r=>v= .d (.int .i64 (ry x))∧r= []):=by
 have hw:=hk.1.2;refine af hT (C:= []) Tryz.func45 rfl Tryz.call45 rfl rfl rfl ?_;conv=>whnf
 repeat' (first|(refine ac (PK _) rfl rfl ?_;rotate_right;conv=>whnf)|(refine ac (Jr _ hk.1.1) rfl rfl ?_;rotate_right;conv=>whnf)|(refine ac (NS _ _ _) rfl rfl ?_;rotate_right;conv=>whnf)|((first|(refine aa ?_ ?_<;>intro hb<;>try simp only[az]at hb)|omega|refine aA ?_|decide|assumption)<;>conv=>whnf))
 iterate 4
  · refine .ret _ ?_;conv=>whnf
    refine⟨[],⟨?_,rfl⟩,trivial⟩;conv=>lhs;whnf
    congr 2
    unfold ry;grind
 have hf:ry x=if KO x.words=false then 3 else 0:=by unfold ry;grind
 rw[hf];refine ah hT (C:= []) (ι:=Nat) (fun i=>i≤x.words.length∧∀j,j<i→32≤(x.words.getD j 0).toNat∧(x.words.getD j 0).toNat≤126) (fun i=>aN [(1,.ptr 1 0),(27,.d (.int .i64 x.words.length)),(28,.d (.int .i64 i))] [(1,lG x)]) (fun i=>x.words.length - i) 0 ⟨by omega,by omega⟩ (by exact bz [(1,1)]) ?_;rintro i ⟨p1,p2⟩;have e1:(i:Int).toNat=i:=Int.toNat_natCast i;have hby:(x.words.getD (i:Int).toNat 0).toNat<256:=UInt8.toNat_lt _;have hby2:(x.words.getD i 0).toNat<256:=UInt8.toNat_lt _;conv=>whnf
 repeat' (first|(refine ac (NS _ _ _) rfl rfl ?_;rotate_right;conv=>whnf)|((first|(refine aa ?_ ?_<;>intro hb<;>try simp only[az]at hb)|omega|refine aA ?_|decide|assumption)<;>conv=>whnf))
 · refine .ret _ ?_;conv=>whnf
   refine⟨[],⟨?_,rfl⟩,trivial⟩;conv=>lhs;whnf
   congr 2
   rw[xh (i:=i) (by omega) (by omega)];rfl
 · exact⟨i+1,⟨by omega,bH p2 (by omega)⟩,by omega,(by exact bz [(1,1)])⟩
 · refine .ret _ ?_;conv=>whnf
   refine⟨[],⟨?_,rfl⟩,trivial⟩;conv=>lhs;whnf
   congr 2
   have:i=x.words.length:=by omega
   subst this;rw[wO.2 p2];rfl
theorem E7 {l:List bx}{i:Nat}(h:i≤l.length):SV.le (.d (.ro 4 i fun j=>aV iu dQ l (0+j))) (.d (ga (l.take i))):=
 bt (by rw[List.length_take];omega) (fun j hj=>by
  simp only[Nat.zero_add,aV]
  rw[List.getD_eq_getElem?_getD,List.getD_eq_getElem?_getD,List.getElem?_take_of_lt hj])
theorem tV {l:List bx}{i:Nat}{e:Int}(h0:¬ 1000<l.length)(h:i<l.length)(p:∀j,j<i→rG l j=0)(h1:e≠0)(h2:rG l i=e):jx l=e:=by
 unfold jx;rw[if_neg h0];exact aT h p h1 h2
theorem Ou (l:List bx)(hk:Ci l):ai Tryz.prog 21 [.d (ga l)] [] (fun x r=>x= .d (.int .i64 (jx l))∧r= []):=by
 refine af hT (C:= []) Tryz.func21 rfl Tryz.call21 rfl rfl rfl ?_;conv=>whnf
 refine aa (fun h0=> ?_) (fun h0=> ?_)
 · simp at h0;conv=>whnf
   refine .ret _ ?_;conv=>whnf
   refine⟨[],⟨?_,rfl⟩,trivial⟩;conv=>lhs;whnf
   unfold jx;rw[if_pos (by omega)]
 simp at h0;conv=>whnf
 refine ah hT (C:= []) (ι:=Nat) (fun i=>i≤l.length∧∀j,j<i→rG l j=0) (fun i=>aN [(0,.d (ga l)),(9,.d (ga l)),(10,.d (.int .i64 l.length)),(11,.d (.int .i64 i))] []) (fun i=>l.length - i) 0 ⟨by omega,by omega⟩ (by exact bz []) ?_;rintro i ⟨p1,p2⟩;have e1:(i:Int).toNat=i:=Int.toNat_natCast i;have hx:∀i,i<l.length→uJ (l.getD i dQ):=fun i hi=>hk.2 _ (aq hi)
 have hK:uJ (l.getD (i:Int).toNat dQ):=by
  rw[e1];rcases Nat.lt_or_ge i l.length with q|q
  · exact hx i q
  · rw[List.getD_eq_getElem?_getD,List.getElem?_eq_none q];simp[uJ,Bd,dQ]
 have hK2:uJ (l.getD ((i:Int) - 1).toNat dQ):=by
  rcases Nat.lt_or_ge ((i:Int) - 1).toNat l.length with q|q
  · exact hx _ q
  · rw[List.getD_eq_getElem?_getD,List.getElem?_eq_none q];simp[uJ,Bd,dQ]
 have hD:=PF (l.take (i:Int).toNat) (by rw[List.length_take];have:=hk.1;omega) (l.getD (i:Int).toNat dQ);conv=>whnf
 repeat' (first|(refine ac (Pv _ hK) rfl rfl ?_;rotate_right;conv=>whnf)|(refine ac (NM (l.getD ((i:Int) - 1).toNat dQ) (l.getD (i:Int).toNat dQ) hK2.2 hK.2) rfl rfl ?_;rotate_right;conv=>whnf)|((first|(refine fz.of hD [(1000001,4)] rfl ⟨E7 (by omega),lr,trivial⟩ ⟨rr,trivial⟩ rfl rfl ?_;rintro v rout ⟨rfl,rfl⟩;refine⟨rfl,?_⟩)|(refine aa ?_ ?_<;>intro hb<;>try simp only[az]at hb)|refine aw hT 9 DR ?_|omega|refine aA ?_|decide|assumption)<;>conv=>whnf))
 all_goals clear hD hK hK2 hx
 all_goals first
  |(refine⟨i+1,⟨by omega,aQ p2 (by clear p2 hk;simp only[e1,aJ]at*;unfold rG;grind)⟩,by omega,(by exact bz [])⟩)
  | (refine .ret _ ?_
     conv=>whnf
     refine⟨[],⟨?_,rfl⟩,trivial⟩;conv=>lhs;whnf
     congr 2
     first
      |exact(tV (by omega) (by omega) p2 hb (by clear p2 hk;simp only[e1,aJ]at*;unfold rG;grind)).symm
      |exact(tV (by omega) (by omega) p2 (by decide) (by clear p2 hk;simp only[e1,aJ]at*;unfold rG;grind)).symm
      | (have:i=l.length:=by omega
         subst this
         unfold jx;rw[if_neg (by omega),aC p2]))
def Au:OL:= [(0,[]),(1,[]),(2,[]),(3,[]),(4,[3]),(5,[3]),(6,[]),(7,[]),(8,[3,4,5,6,7]),(9,[]),(10,[]),(11,[]),(12,[])]
theorem CF {key:List DV}(h:wk [.str,.int .i64] key=true):∃a b,key= [.str a,.int .i64 b]:=by
 match key,h with
 | [.str a,.int k d],h=>
   have:IntKind.i64=k:=gi (by simpa [wk,iD]using h);subst this
   exact⟨a,d,rfl⟩
 | .str _:: .int _ _::_::_,h=>simp[wk]at h
theorem JV {l:List bx}{i:Nat}{x:bx}(hi:i<l.length)(hx:x=l.getD i dQ):
 aY.le (.map true false [.str,.int .i64] [.bool false] (fun q=>ay q [.str x.desk,.int .i64 x.no]||enHas (l.take i) q) (fun q=>bif ay q [.str x.desk,.int .i64 x.no]then [.bool true]else [.bool (enHas (l.take i) q)])) (QE (l.take (i+1))):=bC fun K hK=>by
 obtain⟨a,b,rfl⟩:=CF hK
 have e:l.take (i+1)=l.take i++ [x]:=by
  rw[hx,List.take_add_one];simp[List.getD_eq_getElem?_getD,hi]
 have h1:enHas (l.take (i+1)) [.str a,.int .i64 b]=(enHas (l.take i) [.str a,.int .i64 b]||(x.desk==a&&decide (x.no=b))):=by
  show(l.take (i+1)).any _=_;rw[e,List.any_append];simp[enHas]
 have h2:ay [.str a,.int .i64 b] [.str x.desk,.int .i64 x.no]=(x.desk==a&&decide (x.no=b)):=by
  rw[Bool.eq_iff_iff];simp[ay,dl];grind
 rw[h1,h2];cases hq:(x.desk==a&&decide (x.no=b))<;>simp
theorem Og (l:List bx)(hk:Ci l):ai Tryz.prog 51 [.d (ga l)] [] (fun x r=>x= .d (.int .i64 (jx l))∧r= []):=by
 refine af hT (C:= []) Tryz.func51 rfl Tryz.call51 rfl rfl rfl ?_;conv=>whnf
 refine aa (fun h0=> ?_) (fun h0=> ?_)
 · simp at h0;conv=>whnf
   refine .ret _ ?_;conv=>whnf
   refine⟨[],⟨?_,rfl⟩,trivial⟩;conv=>lhs;whnf
   unfold jx;rw[if_pos (by omega)]
 simp at h0;conv=>whnf
 refine ah hT (C:= []) (ι:=Nat) (fun i=>i≤l.length∧∀j,j<i→rG l j=0) (fun i=>aN [(0,.d (ga l)),(3,.mp 3),(11,.d (ga l)),(12,.d (.int .i64 l.length)),(13,.d (.int .i64 i))] [(3,QE (l.take i))]) (fun i=>l.length - i) 0 ⟨by omega,by omega⟩ ?_ ?_
 · refine ae [(3,10)] rfl rfl ⟨lr,lr,lr,lr,lr,trivial⟩ ⟨bC (fun key hk=> ?_),trivial⟩;obtain⟨a,b,rfl⟩:=CF hk;exact⟨rfl,rfl⟩
 rintro i ⟨p1,p2⟩;have e1:(i:Int).toNat=i:=Int.toNat_natCast i;have hx:∀i,i<l.length→uJ (l.getD i dQ):=fun i hi=>hk.2 _ (aq hi)
 have hK:uJ (l.getD (i:Int).toNat dQ):=by
  rw[e1];rcases Nat.lt_or_ge i l.length with q|q
  · exact hx i q
  · rw[List.getD_eq_getElem?_getD,List.getElem?_eq_none q];simp[uJ,Bd,dQ]
 conv=>whnf
 repeat' (first|(refine ac (Ex _) rfl rfl ?_;rotate_right;conv=>whnf)|(refine ac (gC _ hK.1.1) rfl rfl ?_;rotate_right;conv=>whnf)|(refine ac (fA _ _ _) rfl rfl ?_;rotate_right;conv=>whnf)|(refine ac (NT _ hK.1.2) rfl rfl ?_;rotate_right;conv=>whnf)|(refine ac (Nl (l.getD ((i:Int) - 1).toNat dQ) (l.getD (i:Int).toNat dQ)) rfl rfl ?_;rotate_right;conv=>whnf)|(refine And.intro (rfl:aK _=some [DV.bool false]) ?_;conv=>whnf)|(simp only[Nat.beq_refl,cond_true];conv=>whnf)|((first|(refine aa ?_ ?_<;>intro hb<;>try simp only[az]at hb)|refine aw hT 16 Au ?_|omega|refine aA ?_|decide|assumption)<;>conv=>whnf))
 all_goals have hwl:(l.getD i dQ).words= []↔(l.getD i dQ).words.length=0:=List.length_eq_zero_iff.symm
 all_goals clear hK hx
 all_goals first
  |(refine⟨i+1,⟨by omega,aQ p2 (by clear p2 hk;simp only[e1,aJ]at*;unfold rG ry zS;grind)⟩,by omega,ae [(3,3)] rfl rfl ⟨lr,lr,lr,lr,lr,trivial⟩ ⟨JV (x:=l.getD (i:Int).toNat dQ) (by omega) (by rw[e1]),trivial⟩⟩)
  | (refine .ret _ ?_
     conv=>whnf
     refine⟨[],⟨?_,rfl⟩,trivial⟩;conv=>lhs;whnf
     congr 2
     first
      |exact(tV (by omega) (by omega) p2 (by decide) (by clear p2 hk;simp only[e1,aJ]at*;unfold rG ry zS;grind)).symm
      | (have:i=l.length:=by omega
         subst this
         unfold jx;rw[if_neg (by omega),aC p2]))
end Go.Proofs.YtodakofifpaljaaGreatDoor
