/- EntriesAgree is proved: for every input the law returns true, and its argument reads afterwards as it read before. Conditions: those of the given row alone. -/
import Derived.Test.YtophabkpfpbadaaGreatDoorEaConTri
import Derived.Test.YtophabkpfpbadaaGreatDoorEaConSep
import Derived.Test.YtophabkpfpbadaaGreatDoorEaEngTwo
import Derived.Test.YtophabkpfpbadaaGreatDoorEaConQua
import Derived.Test.YtophabkpfpbadaaGreatDoorEaConSex
set_option linter.unusedVariables false
set_option linter.unusedSimpArgs false
set_option maxRecDepth 20000
namespace Go.Proofs.YtophabkpfpbadaaGreatDoor
open Go Go.Eng
def oQTmA56_12:OL:= [(0,[]),(1,[]),(2,[0,1]),(3,[0,1,2]),(4,[0,1]),(5,[]),(6,[])]
def ratM (x:Rat):Prop:=x.cls.length≤8
def c3:List (List UInt8):= [[109,97,120,105],[109,105,100,105],[109,105,110,105]]
set_option maxHeartbeats 4000000 in
theorem y169 (n:Nat)(L:Nat→Int)(hL:Rok n L)(a:Int)(h0:0≤a)(ha:a≤2^36):
 FSpec Tryz.prog 56 [.ptr 1000000 0] [(1000000,strm n L a)] (fun y r=>∃l:List Rat,∃b,allK ratM 9 l∧(a≤b∧b≤a+100)∧y= .buf 3∧r= [(3,seqB 210 7 ratF rat0 l),(1000000,strm n L b)]):=by
 refine spec_of hT (C:= []) Tryz.func56 rfl Tryz.call56 rfl rfl rfl ?_;conv=>whnf
 refine LoopX.rule hT (C:= []) (ι:=Int×List Rat×Nat) (fun(b,l,i)=>(a≤b∧b≤a+30*i∧i≤3)∧allK ratM (3*i) l)
  (fun(b,l,i)=>mkSt [(0,.ptr 1000000 0),(3,.buf 3),(8,.d (strs c3)),(9,.d (.int .i64 3)),(10,.d (.int .i64 i))] [(1000000,strm n L b),(3,seqB 210 7 ratF rat0 l)])
  (fun(_,_,i)=>3 - i) (a,[],0) ⟨⟨by simp,by simp,by simp⟩,⟨by simp,by simp⟩⟩ ?_ ?_
 · refine(Entails.nil 3 3 210 7 (rowF ratF rat0 []) rfl rfl (by decide)).trans (Entails.mk' [(1000000,1000000),(3,3)] rfl rfl ⟨lr,lr,SV.le_lit rfl rfl,lr,lr,trivial⟩ ⟨rr,rr,trivial⟩)
 rintro⟨b,l,i⟩ ⟨⟨p1,p2,p3⟩,p4⟩;have p1:a≤b:=p1;have p2:b≤a+30*i:=p2;have p3:i≤3:=p3;have p4:allK ratM (3*i) l:=p4;have hc3:c3.length=3:=rfl;have hl1:l.length≤3*i:=p4.1;rcases Nat.lt_or_ge i 3 with hi|hi
 · conv=>whnf
   repeat' (first|(refine CallX.of (s33 n L hL _ ?_ ?_ [0,0,0,3] ?_ ?_) [(1000000,1000000)] rfl ⟨lr,SV.le_lit rfl rfl,trivial⟩ ⟨rr,trivial⟩ rfl rfl ?_;rotate_right;rintro x rout ⟨⟨u1,hu1,rfl⟩,⟨c,c1,c2,rfl⟩⟩;have hw1:=pkD hu1 (by decide);refine⟨rfl,?_⟩;conv=>whnf)|(refine CallX.of (s33 n L hL _ ?_ ?_ [0,1,1,2,3] ?_ ?_) [(1000000,1000000)] rfl ⟨lr,SV.le_lit rfl rfl,trivial⟩ ⟨rr,trivial⟩ rfl rfl ?_;rotate_right;rintro x rout ⟨⟨u2,hu2,rfl⟩,⟨c,c1,c2,rfl⟩⟩;refine⟨rfl,?_⟩;conv=>whnf)|((first|(refine br_intro ?_ ?_<;>intro hb<;>try simp only[brs]at hb)|refine rAx hT 12 oQTmA56_12 ?_|omega|refine sAx ?_|decide|assumption)<;>conv=>whnf))
   all_goals try(exfalso;omega)
   have hw2:0≤u2∧u2≤3:=by simp only[List.mem_cons,List.not_mem_nil,or_false]at hu2;omega
   have hw3:u1≤5000:=by omega
   have hkk:(c3.getD (i:Int).toNat []).length≤8:=mem_len (getD_mem (by omega)) rfl;obtain⟨cc,hcc⟩:∃cc:Int,cc=c:=⟨_,rfl⟩;obtain⟨ky,hky⟩:∃ky,ky=c3.getD (i:Int).toNat []:=⟨_,rfl⟩
   refine LoopX.rule hT (C:= []) (ι:=Int×List Rat×Int×Nat) (fun(d,m,f,k)=>(cc≤d∧d≤cc+6*k∧(k:Int)≤u2)∧allK ratM (3*i+k) m∧0≤f∧f≤5000)
    (fun(d,m,f,k)=>mkSt [(0,.ptr 1000000 0),(3,.buf 3),(5,.d (.str ky)),(6,.d (.int .i64 f)),(8,.d (strs c3)),(9,.d (.int .i64 3)),(10,.d (.int .i64 i)),(19,.d (.int .i64 u2)),(20,.d (.int .i64 k))] [(1000000,strm n L d),(3,seqB 210 7 ratF rat0 m)])
    (fun(_,_,_,k)=>u2.toNat - k) (cc,l,u1,0) ⟨⟨by simp,by simp,by show((0:Nat):Int)≤u2;omega⟩,p4,by show 0≤u1;omega,by show u1≤5000;omega⟩ (by subst hcc hky;exact(by exact eAx [(1000000,1000000),(3,3)])) ?_
   rintro⟨d,m,f,k⟩ ⟨⟨q1,q2,q3⟩,q4,q5,q6⟩;have q1:cc≤d:=q1;have q2:d≤cc+6*k:=q2;have q3:(k:Int)≤u2:=q3;have q4:allK ratM (3*i+k) m:=q4;have q5:0≤f:=q5;have q6:f≤5000:=q6;have hm1:m.length≤3*i+k:=q4.1;conv=>whnf
   repeat' (first|(refine CallX.of (s33 n L hL _ ?_ ?_ [1,5,20,4000] ?_ ?_) [(1000000,1000000)] rfl ⟨lr,SV.le_lit rfl rfl,trivial⟩ ⟨rr,trivial⟩ rfl rfl ?_;rotate_right;rintro x rout ⟨⟨u3,hu3,rfl⟩,⟨c,c1,c2,rfl⟩⟩;have hw4:0≤u3∧u3≤4000:=(by simp only[List.mem_cons,List.not_mem_nil,or_false]at hu3;omega);refine⟨rfl,?_⟩;conv=>whnf)|(refine CallX.of (s33 n L hL _ ?_ ?_ [-1,5,10,10,0] ?_ ?_) [(1000000,1000000)] rfl ⟨lr,SV.le_lit rfl rfl,trivial⟩ ⟨rr,trivial⟩ rfl rfl ?_;rotate_right;rintro x rout ⟨⟨u4,hu4,rfl⟩,⟨c,c1,c2,rfl⟩⟩;refine⟨rfl,?_⟩;conv=>whnf)|(refine CallX.of (s33 n L hL _ ?_ ?_ [-1,50,50,70,40] ?_ ?_) [(1000000,1000000)] rfl ⟨lr,SV.le_lit rfl rfl,trivial⟩ ⟨rr,trivial⟩ rfl rfl ?_;rotate_right;rintro x rout ⟨⟨u5,hu5,rfl⟩,⟨c,c1,c2,rfl⟩⟩;refine⟨rfl,?_⟩;conv=>whnf)|(refine CallX.of (s33 n L hL _ ?_ ?_ [-1,70,90,100] ?_ ?_) [(1000000,1000000)] rfl ⟨lr,SV.le_lit rfl rfl,trivial⟩ ⟨rr,trivial⟩ rfl rfl ?_;rotate_right;rintro x rout ⟨⟨u6,hu6,rfl⟩,⟨c,c1,c2,rfl⟩⟩;refine⟨rfl,?_⟩;conv=>whnf)|(refine CallX.of (s33 n L hL _ ?_ ?_ [-1,200,250,300] ?_ ?_) [(1000000,1000000)] rfl ⟨lr,SV.le_lit rfl rfl,trivial⟩ ⟨rr,trivial⟩ rfl rfl ?_;rotate_right;rintro x rout ⟨⟨u7,hu7,rfl⟩,⟨c,c1,c2,rfl⟩⟩;refine⟨rfl,?_⟩;conv=>whnf)|(refine CallX.of (s33 n L hL _ ?_ ?_ [0,0,0,2] ?_ ?_) [(1000000,1000000)] rfl ⟨lr,SV.le_lit rfl rfl,trivial⟩ ⟨rr,trivial⟩ rfl rfl ?_;rotate_right;rintro x rout ⟨⟨u8,hu8,rfl⟩,⟨c,c1,c2,rfl⟩⟩;have hw8:0≤u8∧u8≤2:=(by simp only[List.mem_cons,List.not_mem_nil,or_false]at hu8;omega);refine⟨rfl,?_⟩;conv=>whnf)|((first|(refine And.intro (by show inI64 (min (f+u3) 4001+u8);unfold inI64;omega) ?_)|(refine br_intro ?_ ?_<;>intro hb<;>try simp only[brs]at hb)|refine rAx hT 12 oQTmA56_12 ?_|omega|refine sAx ?_|decide|assumption)<;>conv=>whnf))
   · exact⟨(c,m,i+1),⟨⟨by omega,by show _≤a+30*((i+1:Nat):Int);omega,by omega⟩,allK_le q4 (by omega)⟩,by show 3 - (i+1)<3 - i;omega,(by exact eAx [(1000000,1000000),(3,3)])⟩
   · exact⟨(_,m++ [⟨ky,f,min (f+u3) 4001,u4,u5,u6,u7⟩],min (f+u3) 4001+u8,k+1),⟨⟨by omega,by show _≤cc+6*((k+1:Nat):Int);omega,by show((k+1:Nat):Int)≤u2;omega⟩,allK_snoc q4 (by omega) (by show ky.length≤8;rw[hky];exact hkk),by show 0≤min (f+u3) 4001+u8;omega,by show min (f+u3) 4001+u8≤5000;omega⟩,by show u2.toNat - (k+1)<u2.toNat - k;omega,
      Entails.mk' [(1000000,1000000),(3,54)] rfl rfl ⟨lr,lr,lr,lr,lr,lr,lr,lr,lr,trivial⟩ ⟨rr,Res.le_snocF rfl,trivial⟩⟩
   · exact⟨(d,m,i+1),⟨⟨by omega,by show _≤a+30*((i+1:Nat):Int);omega,by omega⟩,allK_le q4 (by omega)⟩,by show 3 - (i+1)<3 - i;omega,(by exact eAx [(1000000,1000000),(3,3)])⟩
 · conv=>whnf
   repeat' (first|((first|(refine br_intro ?_ ?_<;>intro hb<;>try simp only[brs]at hb)|refine rAx hT 12 oQTmA56_12 ?_|omega|refine sAx ?_|decide|assumption)<;>conv=>whnf))
   all_goals try(exfalso;omega)
   refine .ret _ ?_;conv=>whnf
   exact⟨[(3,seqB 210 7 ratF rat0 l),(1000000,strm n L _)],⟨l,b,allK_le p4 (by omega),⟨by omega,by omega⟩,rfl,rfl⟩,rr,rr,trivial⟩
set_option maxHeartbeats 4000000 in
theorem yRates (n:Nat)(L:Nat→Int)(hL:Rok n L)(a:Int)(h0:0≤a)(ha:a≤2^35):
 FSpec Tryz.prog 92 [.ptr 1000000 0] [(1000000,strm n L a)] (fun y r=>(∃l:List Rat,allK ratM 10 l∧y= .d (rats l))∧Moved n L a 120 r):=by
 refine spec_of hT (C:= []) Tryz.func92 rfl Tryz.call92 rfl rfl rfl ?_;conv=>whnf
 refine CallX.of (y169 n L hL _ ?_ ?_) [(1000000,1000000),(3,6)] rfl ⟨lr,trivial⟩ ⟨rr,trivial⟩ rfl rfl ?_
 rotate_right
 rintro x rout ⟨l,b,p4,⟨p1,p2⟩,rfl,rfl⟩;refine⟨rfl,?_⟩;have hl1:l.length≤9:=p4.1;conv=>whnf
 repeat' (first|(refine CallX.of (s84 n L hL _ ?_ ?_ 12 ?_) [(1000000,1000000)] rfl ⟨lr,lr,trivial⟩ ⟨rr,trivial⟩ rfl rfl ?_;rotate_right;rintro x rout ⟨⟨w,rfl⟩,⟨c,c1,c2,rfl⟩⟩;refine⟨rfl,?_⟩;conv=>whnf)|(refine CallX.of (s86 n L hL _ ?_ ?_ 4 ?_) [(1000000,1000000)] rfl ⟨lr,lr,trivial⟩ ⟨rr,trivial⟩ rfl rfl ?_;rotate_right;rintro x rout ⟨⟨m,hm1,hm2,hm3,rfl⟩,⟨c,c1,c2,rfl⟩⟩;refine⟨rfl,?_⟩;conv=>whnf)|(refine CallX.of (s86 n L hL _ ?_ ?_ _ ?_) [(1000000,1000000)] rfl ⟨lr,lr,trivial⟩ ⟨rr,trivial⟩ rfl rfl ?_;rotate_right;rintro x rout ⟨⟨j,hj1,hj2,hj3,rfl⟩,⟨c,c1,c2,rfl⟩⟩;refine⟨rfl,?_⟩;conv=>whnf)|(refine CallX.of (s15 n L hL _ ?_ ?_ [[],[65],[109,105,110,105],[122,101,100]] (by simp) (by simp)) [(1000000,1000000)] rfl ⟨lr,SV.le_lit rfl rfl,trivial⟩ ⟨rr,trivial⟩ rfl rfl ?_;rotate_right;rintro x rout ⟨⟨u1,hu1,rfl⟩,⟨c,c1,c2,rfl⟩⟩;refine⟨rfl,?_⟩;conv=>whnf)|(refine CallX.of (s104 n L hL _ ?_ ?_ 0 10 ?_ ?_ ?_) [(1000000,1000000)] rfl ⟨lr,lr,lr,trivial⟩ ⟨rr,trivial⟩ rfl rfl ?_;rotate_right;rintro x rout ⟨⟨o1,ho1,ho2,rfl⟩,⟨c,c1,c2,rfl⟩⟩;refine⟨rfl,?_⟩;conv=>whnf)|(refine CallX.of (s104 n L hL _ ?_ ?_ 1 4001 ?_ ?_ ?_) [(1000000,1000000)] rfl ⟨lr,lr,lr,trivial⟩ ⟨rr,trivial⟩ rfl rfl ?_;rotate_right;rintro x rout ⟨⟨o2,ho3,ho4,rfl⟩,⟨c,c1,c2,rfl⟩⟩;refine⟨rfl,?_⟩;conv=>whnf)|(refine CallX.of (s104 n L hL _ ?_ ?_ (-1) 1000000 ?_ ?_ ?_) [(1000000,1000000)] rfl ⟨lr,lr,lr,trivial⟩ ⟨rr,trivial⟩ rfl rfl ?_;rotate_right;rintro x rout ⟨⟨o3,ho5,ho6,rfl⟩,⟨c,c1,c2,rfl⟩⟩;refine⟨rfl,?_⟩;conv=>whnf)|((first|(refine br_intro ?_ ?_<;>intro hb<;>try simp only[brs]at hb)|omega|refine sAx ?_|decide|assumption)<;>conv=>whnf))
 all_goals try(exact h0)
 all_goals try omega
 · have hw1:u1.length≤8:=mem_len hu1 rfl;refine .freeze _ 6 210 7 _ _ rfl (.weak _ ?_);conv=>whnf
   exact⟨.d (rats (updL l j.toNat rat0 fun y=>{y with cls:=u1})),[(1000000,strm n L _)],SV.le_upd (fun y:Rat=>{y with cls:=u1}) (fun _=>rfl),⟨⟨_,allK_upd (g:=fun y:Rat=>{y with cls:=u1}) (allK_le p4 (by omega)) (fun y hy=>hw1),rfl⟩,_,by omega,by omega,rfl⟩,rr,trivial⟩
 · refine .freeze _ 6 210 7 _ _ rfl (.weak _ ?_);conv=>whnf
   have hrow:=rows_updG (f:=ratF) (d:=rat0) (rows_updG (l:=l) (j:=j.toNat) (off:=1) (ds:= [.int .i64 o1]) (fun _ _=>rfl) (fun y:Rat=>{y with frm:=o1}) (fun _=>rfl)) (off:=2) (ds:= [.int .i64 o2]) (j:=j.toNat) (fun y:Rat=>{y with to:=o2}) (fun _=>rfl);exact⟨.d (rats (updL (updL l j.toNat rat0 fun y=>{y with frm:=o1}) j.toNat rat0 fun y=>{y with to:=o2})),[(1000000,strm n L _)],SV.le_ro (by simp) (fun i hi=>hrow i (by simpa using hi)),⟨⟨_,allK_upd (g:=fun y:Rat=>{y with to:=o2}) (allK_upd (g:=fun y:Rat=>{y with frm:=o1}) (allK_le p4 (by omega)) (fun y hy=>hy)) (fun y hy=>hy),rfl⟩,_,by omega,by omega,rfl⟩,rr,trivial⟩
 · refine .freeze _ 6 210 7 _ _ rfl (.weak _ ?_);conv=>whnf
   exact⟨.d (rats (updL l j.toNat rat0 fun y=>{y with dy:=o3})),[(1000000,strm n L _)],SV.le_upd (fun y:Rat=>{y with dy:=o3}) (fun _=>rfl),⟨⟨_,allK_upd (g:=fun y:Rat=>{y with dy:=o3}) (allK_le p4 (by omega)) (fun y hy=>hy),rfl⟩,_,by omega,by omega,rfl⟩,rr,trivial⟩
 · refine .freeze _ 27 210 7 _ _ rfl (.weak _ ?_);conv=>whnf
   exact⟨.d (rats (l++ [l.getD 0 rat0])),[(1000000,strm n L _)],SV.le_ro (by simp) (rows_snocF rfl),⟨⟨_,allK_snoc p4 (by omega) (p4.2 _ (getD_mem (by omega))),rfl⟩,_,by omega,by omega,rfl⟩,rr,trivial⟩
 all_goals
  refine .freeze _ 6 210 7 _ _ rfl (.weak _ ?_);conv=>whnf
  exact⟨.d (rats l),[(1000000,strm n L _)],lr,⟨⟨_,allK_le p4 (by omega),rfl⟩,_,by omega,by omega,rfl⟩,rr,trivial⟩
def oQTmB94_6:OL:= [(0,[]),(1,[0]),(2,[0]),(3,[0,1,2]),(4,[0,1,2]),(5,rg 5),(6,rg 6),(7,rg 5),(8,[0]),(9,[0]),(10,[]),(11,[])]
def extM (x:Ext):Prop:=x.key.length≤8
def feM (x:Fe):Prop:=x.a.length≤8∧x.b.length≤8
def codM (x:Cod):Prop:=x.key.length≤8∧x.cls.length≤8
theorem ext_cut {e:List Ext}{g:Nat→List DV}{m:Int}(h0:0≤m)(h2:m≤2)(hl:e.length=2)(q0:g 0=extF (e.getD 0 ext0))(q1:g 1=extF (e.getD 1 ext0)):SV.le (.d (.ro 4 m.toNat g)) (.d (exts (e.take m.toNat))):=
 SV.le_ro (by rw[List.length_take];omega) (fun i hi=>by
  have:i=0∨i=1:=by omega
  simp only[rowF,getD_take hi];rcases this with rfl|rfl
  · exact q0
  · exact q1)
set_option maxHeartbeats 4000000 in
theorem yExtras (n:Nat)(L:Nat→Int)(hL:Rok n L)(a:Int)(h0:0≤a)(ha:a≤2^36):
 FSpec Tryz.prog 93 [.ptr 1000000 0] [(1000000,strm n L a)] (fun y r=>(∃l:List Ext,allK extM 2 l∧y= .d (exts l))∧Moved n L a 20 r):=by
 refine spec_of hT (C:= [24]) Tryz.func93 rfl Tryz.call93 rfl rfl rfl ?_;conv=>whnf
 repeat' (first|(refine CallX.of (s33 n L hL _ ?_ ?_ [0,5,100] ?_ ?_) [(1000000,1000000)] rfl ⟨lr,SV.le_lit rfl rfl,trivial⟩ ⟨rr,trivial⟩ rfl rfl ?_;rotate_right;rintro x rout ⟨⟨u1,hu1,rfl⟩,⟨c,c1,c2,rfl⟩⟩;refine⟨rfl,?_⟩;conv=>whnf)|(refine CallX.of (s33 n L hL _ ?_ ?_ [0,2] ?_ ?_) [(1000000,1000000)] rfl ⟨lr,SV.le_lit rfl rfl,trivial⟩ ⟨rr,trivial⟩ rfl rfl ?_;rotate_right;rintro x rout ⟨⟨u2,hu2,rfl⟩,⟨c,c1,c2,rfl⟩⟩;refine⟨rfl,?_⟩;conv=>whnf)|(refine CallX.of (s33 n L hL _ ?_ ?_ [-1,0,7] ?_ ?_) [(1000000,1000000)] rfl ⟨lr,SV.le_lit rfl rfl,trivial⟩ ⟨rr,trivial⟩ rfl rfl ?_;rotate_right;rintro x rout ⟨⟨u3,hu3,rfl⟩,⟨c,c1,c2,rfl⟩⟩;refine⟨rfl,?_⟩;conv=>whnf)|(refine CallX.of (s33 n L hL _ ?_ ?_ [0,10] ?_ ?_) [(1000000,1000000)] rfl ⟨lr,SV.le_lit rfl rfl,trivial⟩ ⟨rr,trivial⟩ rfl rfl ?_;rotate_right;rintro x rout ⟨⟨u4,hu4,rfl⟩,⟨c,c1,c2,rfl⟩⟩;refine⟨rfl,?_⟩;conv=>whnf)|(refine CallX.of (s33 n L hL _ ?_ ?_ [0,3,50] ?_ ?_) [(1000000,1000000)] rfl ⟨lr,SV.le_lit rfl rfl,trivial⟩ ⟨rr,trivial⟩ rfl rfl ?_;rotate_right;rintro x rout ⟨⟨u5,hu5,rfl⟩,⟨c,c1,c2,rfl⟩⟩;refine⟨rfl,?_⟩;conv=>whnf)|(refine CallX.of (s33 n L hL _ ?_ ?_ [-1,-1,20,1000] ?_ ?_) [(1000000,1000000)] rfl ⟨lr,SV.le_lit rfl rfl,trivial⟩ ⟨rr,trivial⟩ rfl rfl ?_;rotate_right;rintro x rout ⟨⟨u6,hu6,rfl⟩,⟨c,c1,c2,rfl⟩⟩;refine⟨rfl,?_⟩;conv=>whnf)|(refine CallX.of (s84 n L hL _ ?_ ?_ 15 ?_) [(1000000,1000000)] rfl ⟨lr,lr,trivial⟩ ⟨rr,trivial⟩ rfl rfl ?_;rotate_right;rintro x rout ⟨⟨w,rfl⟩,⟨c,c1,c2,rfl⟩⟩;refine⟨rfl,?_⟩;conv=>whnf)|(refine CallX.of (s15 n L hL _ ?_ ?_ [[],[65],[109,97,112],[115,101,97,116]] (by simp) (by simp)) [(1000000,1000000)] rfl ⟨lr,SV.le_lit rfl rfl,trivial⟩ ⟨rr,trivial⟩ rfl rfl ?_;rotate_right;rintro x rout ⟨⟨v1,hv1,rfl⟩,⟨c,c1,c2,rfl⟩⟩;refine⟨rfl,?_⟩;conv=>whnf)|(refine CallX.of (s104 n L hL _ ?_ ?_ 0 1000000 ?_ ?_ ?_) [(1000000,1000000)] rfl ⟨lr,lr,lr,trivial⟩ ⟨rr,trivial⟩ rfl rfl ?_;rotate_right;rintro x rout ⟨⟨o1,ho1,ho2,rfl⟩,⟨c,c1,c2,rfl⟩⟩;refine⟨rfl,?_⟩;conv=>whnf)|(refine CallX.of (s104 n L hL _ ?_ ?_ (-1) 1000000 ?_ ?_ ?_) [(1000000,1000000)] rfl ⟨lr,lr,lr,trivial⟩ ⟨rr,trivial⟩ rfl rfl ?_;rotate_right;rintro x rout ⟨⟨o2,ho3,ho4,rfl⟩,⟨c,c1,c2,rfl⟩⟩;refine⟨rfl,?_⟩;conv=>whnf)|(refine CallX.of (s33 n L hL _ ?_ ?_ [0,1,2,2] ?_ ?_) [(1000000,1000000)] rfl ⟨lr,SV.le_lit rfl rfl,trivial⟩ ⟨rr,trivial⟩ rfl rfl ?_;rotate_right;rintro x rout ⟨⟨m,hm,rfl⟩,⟨c,c1,c2,rfl⟩⟩;have hm2:0≤m∧m≤2:=(by simp only[List.mem_cons,List.not_mem_nil,or_false]at hm;omega);refine⟨rfl,?_⟩;conv=>whnf)|((first|refine SliceX.first (lo:=none) rfl ?_|(refine br_intro ?_ ?_<;>intro hb<;>try simp only[brs]at hb)|omega|refine sAx ?_|decide|assumption)<;>conv=>whnf))
 all_goals try(exact h0)
 all_goals try omega
 · have hw:v1.length≤8:=mem_len hv1 rfl;refine .freeze _ 41 245 4 _ _ rfl (.weak _ ?_);conv=>whnf
   refine⟨.d (exts (([⟨[109,97,112],u1,u2,u3⟩,⟨v1,o1,0,o2⟩]:List Ext).take m.toNat)),[(1000000,strm n L _)],ext_cut hm2.1 hm2.2 rfl rfl rfl,⟨⟨_,⟨by rw[List.length_take];exact Nat.min_le_right _ _,fun x hx=> ?_⟩,rfl⟩,_,by omega,by omega,rfl⟩,rr,trivial⟩;have hx:=List.mem_of_mem_take hx;simp only[List.mem_cons,List.not_mem_nil,or_false]at hx;rcases hx with rfl|rfl
   · show([109,97,112]:List UInt8).length≤8;decide
   · exact hw
 · refine .freeze _ 41 245 4 _ _ rfl (.weak _ ?_);conv=>whnf
   refine⟨.d (exts (([⟨[109,97,112],u1,u2,u3⟩,⟨[115,101,97,116],u4,u5,u6⟩]:List Ext).take m.toNat)),[(1000000,strm n L _)],ext_cut hm2.1 hm2.2 rfl rfl rfl,⟨⟨_,⟨by rw[List.length_take];exact Nat.min_le_right _ _,fun x hx=> ?_⟩,rfl⟩,_,by omega,by omega,rfl⟩,rr,trivial⟩;have hx:=List.mem_of_mem_take hx;simp only[List.mem_cons,List.not_mem_nil,or_false]at hx;rcases hx with rfl|rfl
   · show([109,97,112]:List UInt8).length≤8;decide
   · show([115,101,97,116]:List UInt8).length≤8;decide
def p2F (p:List UInt8×List UInt8):List DV:= [.str p.1,.str p.2]
def f4:List (List UInt8×List UInt8):= [([115,49],[115,50]),([115,49],[115,51]),([115,50],[115,49]),([115,51],[115,50])]
theorem f4_len (i:Nat):(f4.getD i ([],[])).1.length≤8∧(f4.getD i ([],[])).2.length≤8:=by
 match i with
 |0=>decide
 |1=>decide
 |2=>decide
 |3=>decide
 |i+4=>simp[f4]
set_option maxHeartbeats 4000000 in
theorem yFees (n:Nat)(L:Nat→Int)(hL:Rok n L)(a:Int)(h0:0≤a)(ha:a≤2^36):
 FSpec Tryz.prog 94 [.ptr 1000000 0] [(1000000,strm n L a)] (fun y r=>(∃l:List Fe,allK feM 5 l∧y= .d (fes l))∧Moved n L a 20 r):=by
 refine spec_of hT (C:= []) Tryz.func94 rfl Tryz.call94 rfl rfl rfl ?_;conv=>whnf
 refine LoopX.rule hT (C:= []) (ι:=Int×List Fe×Nat) (fun(b,l,i)=>(a≤b∧b≤a+2*i∧i≤4)∧allK feM i l)
  (fun(b,l,i)=>mkSt [(0,.ptr 1000000 0),(3,.buf 3),(10,.d (seqD 2 p2F ([],[]) f4)),(11,.d (.int .i64 4)),(12,.d (.int .i64 i))] [(1000000,strm n L b),(3,seqB 249 3 feF fe0 l)])
  (fun(_,_,i)=>4 - i) (a,[],0) ⟨⟨by simp,by simp,by simp⟩,⟨by simp,by simp⟩⟩ ?_ ?_
 · refine(Entails.nil 3 3 249 3 (rowF feF fe0 []) rfl rfl (by decide)).trans (Entails.mk' [(1000000,1000000),(3,3)] rfl rfl ⟨lr,lr,SV.le_lit rfl rfl,lr,lr,trivial⟩ ⟨rr,rr,trivial⟩)
 rintro⟨b,l,i⟩ ⟨⟨p1,p2,p3⟩,p4⟩;have p1:a≤b:=p1;have p2:b≤a+2*i:=p2;have p3:i≤4:=p3;have p4:allK feM i l:=p4;have hc3:f4.length=4:=rfl;have hl1:l.length≤i:=p4.1;have e1:(i:Int).toNat=i:=Int.toNat_natCast i;have hf:=f4_len (i:Int).toNat;conv=>whnf
 repeat' (first|(refine CallX.of (s84 n L hL _ ?_ ?_ 3 ?_) [(1000000,1000000)] rfl ⟨lr,lr,trivial⟩ ⟨rr,trivial⟩ rfl rfl ?_;rotate_right;rintro x rout ⟨⟨w,rfl⟩,⟨c,c1,c2,rfl⟩⟩;refine⟨rfl,?_⟩;conv=>whnf)|(refine CallX.of (s33 n L hL _ ?_ ?_ [0,40,700] ?_ ?_) [(1000000,1000000)] rfl ⟨lr,SV.le_lit rfl rfl,trivial⟩ ⟨rr,trivial⟩ rfl rfl ?_;rotate_right;rintro x rout ⟨⟨u1,hu1,rfl⟩,⟨c,c1,c2,rfl⟩⟩;refine⟨rfl,?_⟩;conv=>whnf)|(refine CallX.of (s84 n L hL _ ?_ ?_ 15 ?_) [(1000000,1000000)] rfl ⟨lr,lr,trivial⟩ ⟨rr,trivial⟩ rfl rfl ?_;rotate_right;rintro x rout ⟨⟨w2,rfl⟩,⟨c,c1,c2,rfl⟩⟩;refine⟨rfl,?_⟩;conv=>whnf)|(refine CallX.of (s15 n L hL _ ?_ ?_ [[115,51],[65],[115,49]] (by simp) (by simp)) [(1000000,1000000)] rfl ⟨lr,SV.le_lit rfl rfl,trivial⟩ ⟨rr,trivial⟩ rfl rfl ?_;rotate_right;rintro x rout ⟨⟨v1,hv1,rfl⟩,⟨c,c1,c2,rfl⟩⟩;refine⟨rfl,?_⟩;conv=>whnf)|(refine CallX.of (s15 n L hL _ ?_ ?_ [[115,51],[115,57],[]] (by simp) (by simp)) [(1000000,1000000)] rfl ⟨lr,SV.le_lit rfl rfl,trivial⟩ ⟨rr,trivial⟩ rfl rfl ?_;rotate_right;rintro x rout ⟨⟨v2,hv2,rfl⟩,⟨c,c1,c2,rfl⟩⟩;refine⟨rfl,?_⟩;conv=>whnf)|(refine CallX.of (s104 n L hL _ ?_ ?_ 0 1000000 ?_ ?_ ?_) [(1000000,1000000)] rfl ⟨lr,lr,lr,trivial⟩ ⟨rr,trivial⟩ rfl rfl ?_;rotate_right;rintro x rout ⟨⟨o1,ho1,ho2,rfl⟩,⟨c,c1,c2,rfl⟩⟩;refine⟨rfl,?_⟩;conv=>whnf)|((first|(refine br_intro ?_ ?_<;>intro hb<;>try simp only[brs]at hb)|refine rAx hT 6 oQTmB94_6 ?_|omega|refine sAx ?_|decide|assumption)<;>conv=>whnf))
 all_goals try(exact h0)
 all_goals try omega
 · exact⟨(c,l++ [⟨(f4.getD (i:Int).toNat ([],[])).1,(f4.getD (i:Int).toNat ([],[])).2,u1⟩],i+1),⟨⟨by omega,by show _≤a+2*((i+1:Nat):Int);omega,by omega⟩,allK_snoc p4 (by omega) (show feM ⟨(f4.getD (i:Int).toNat ([],[])).1,(f4.getD (i:Int).toNat ([],[])).2,u1⟩from hf)⟩,by show 4 - (i+1)<4 - i;omega,
    Entails.mk' [(1000000,1000000),(3,29)] rfl rfl ⟨lr,lr,lr,lr,lr,trivial⟩ ⟨rr,Res.le_snocF rfl,trivial⟩⟩
 · exact⟨(c,l,i+1),⟨⟨by omega,by show _≤a+2*((i+1:Nat):Int);omega,by omega⟩,allK_le p4 (by omega)⟩,by show 4 - (i+1)<4 - i;omega,(by exact eAx [(1000000,1000000),(3,3)])⟩
 · refine .freeze _ 44 249 3 _ _ rfl (.weak _ ?_);conv=>whnf
   exact⟨.d (fes (l++ [⟨v1,v2,o1⟩])),[(1000000,strm n L _)],SV.le_ro (by simp) (rows_snocF rfl),⟨⟨_,allK_snoc p4 (by omega) ⟨mem_len hv1 rfl,mem_len hv2 rfl⟩,rfl⟩,_,by omega,by omega,rfl⟩,rr,trivial⟩
 · refine .freeze _ 3 249 3 _ _ rfl (.weak _ ?_);conv=>whnf
   exact⟨.d (fes l),[(1000000,strm n L _)],lr,⟨⟨_,allK_le p4 (by omega),rfl⟩,_,by omega,by omega,rfl⟩,rr,trivial⟩
def k3:List (List UInt8):= [[97,49,48],[98,50,48],[99,51,48]]
set_option maxHeartbeats 4000000 in
theorem yCodes (n:Nat)(L:Nat→Int)(hL:Rok n L)(a:Int)(h0:0≤a)(ha:a≤2^36):
 FSpec Tryz.prog 95 [.ptr 1000000 0] [(1000000,strm n L a)] (fun y r=>(∃l:List Cod,allK codM 3 l∧y= .d (cods l))∧Moved n L a 40 r):=by
 refine spec_of hT (C:= []) Tryz.func95 rfl Tryz.call95 rfl rfl rfl ?_;conv=>whnf
 refine LoopX.rule hT (C:= []) (ι:=Int×List Cod×Nat) (fun(b,l,i)=>(a≤b∧b≤a+8*i∧i≤3)∧allK codM i l)
  (fun(b,l,i)=>mkSt [(0,.ptr 1000000 0),(3,.buf 3),(8,.d (strs k3)),(9,.d (.int .i64 3)),(10,.d (.int .i64 i))] [(1000000,strm n L b),(3,seqB 251 6 codF cod0 l)])
  (fun(_,_,i)=>3 - i) (a,[],0) ⟨⟨by simp,by simp,by simp⟩,⟨by simp,by simp⟩⟩ ?_ ?_
 · refine(Entails.nil 3 3 251 6 (rowF codF cod0 []) rfl rfl (by decide)).trans (Entails.mk' [(1000000,1000000),(3,3)] rfl rfl ⟨lr,lr,SV.le_lit rfl rfl,lr,lr,trivial⟩ ⟨rr,rr,trivial⟩)
 rintro⟨b,l,i⟩ ⟨⟨p1,p2,p3⟩,p4⟩;have p1:a≤b:=p1;have p2:b≤a+8*i:=p2;have p3:i≤3:=p3;have p4:allK codM i l:=p4;have hc3:k3.length=3:=rfl;have hl1:l.length≤i:=p4.1;have hkk:(i:Int)<3→(k3.getD (i:Int).toNat []).length≤8:=fun h=>mem_len (getD_mem (by omega)) rfl
 conv=>whnf
 repeat' (first|(refine CallX.of (s84 n L hL _ ?_ ?_ 4 ?_) [(1000000,1000000)] rfl ⟨lr,lr,trivial⟩ ⟨rr,trivial⟩ rfl rfl ?_;rotate_right;rintro x rout ⟨⟨w,rfl⟩,⟨c,c1,c2,rfl⟩⟩;refine⟨rfl,?_⟩;conv=>whnf)|(refine CallX.of (s33 n L hL _ ?_ ?_ [0,0,3] ?_ ?_) [(1000000,1000000)] rfl ⟨lr,SV.le_lit rfl rfl,trivial⟩ ⟨rr,trivial⟩ rfl rfl ?_;rotate_right;rintro x rout ⟨⟨u1,hu1,rfl⟩,⟨c,c1,c2,rfl⟩⟩;have hw1:=pkD hu1 (by decide);refine⟨rfl,?_⟩;conv=>whnf)|(refine CallX.of (s15 n L hL _ ?_ ?_ [[],[],[109,105,110,105]] (by simp) (by simp)) [(1000000,1000000)] rfl ⟨lr,SV.le_lit rfl rfl,trivial⟩ ⟨rr,trivial⟩ rfl rfl ?_;rotate_right;rintro x rout ⟨⟨v1,hv1,rfl⟩,⟨c,c1,c2,rfl⟩⟩;refine⟨rfl,?_⟩;conv=>whnf)|(refine CallX.of (s33 n L hL _ ?_ ?_ [0,1,10,3000] ?_ ?_) [(1000000,1000000)] rfl ⟨lr,SV.le_lit rfl rfl,trivial⟩ ⟨rr,trivial⟩ rfl rfl ?_;rotate_right;rintro x rout ⟨⟨u2,hu2,rfl⟩,⟨c,c1,c2,rfl⟩⟩;have hw2:=pkD hu2 (by decide);refine⟨rfl,?_⟩;conv=>whnf)|(refine CallX.of (s33 n L hL _ ?_ ?_ [1,1,2,5] ?_ ?_) [(1000000,1000000)] rfl ⟨lr,SV.le_lit rfl rfl,trivial⟩ ⟨rr,trivial⟩ rfl rfl ?_;rotate_right;rintro x rout ⟨⟨u3,hu3,rfl⟩,⟨c,c1,c2,rfl⟩⟩;refine⟨rfl,?_⟩;conv=>whnf)|(refine CallX.of (s33 n L hL _ ?_ ?_ [1,100,100,250,1000] ?_ ?_) [(1000000,1000000)] rfl ⟨lr,SV.le_lit rfl rfl,trivial⟩ ⟨rr,trivial⟩ rfl rfl ?_;rotate_right;rintro x rout ⟨⟨u4,hu4,rfl⟩,⟨c,c1,c2,rfl⟩⟩;refine⟨rfl,?_⟩;conv=>whnf)|(refine CallX.of (s84 n L hL _ ?_ ?_ 15 ?_) [(1000000,1000000)] rfl ⟨lr,lr,trivial⟩ ⟨rr,trivial⟩ rfl rfl ?_;rotate_right;rintro x rout ⟨⟨w2,rfl⟩,⟨c,c1,c2,rfl⟩⟩;refine⟨rfl,?_⟩;conv=>whnf)|(refine CallX.of (s86 n L hL _ ?_ ?_ _ ?_) [(1000000,1000000)] rfl ⟨lr,lr,trivial⟩ ⟨rr,trivial⟩ rfl rfl ?_;rotate_right;rintro x rout ⟨⟨j,hj1,hj2,hj3,rfl⟩,⟨c,c1,c2,rfl⟩⟩;refine⟨rfl,?_⟩;conv=>whnf)|(refine CallX.of (s15 n L hL _ ?_ ?_ [(l.getD j.toNat cod0).key,[],[122,101,100],[97,49,48]] (by simp) (by simp)) [(1000000,1000000)] rfl ⟨lr,SV.le_lit rfl rfl,trivial⟩ ⟨rr,trivial⟩ rfl rfl ?_;rotate_right;rintro x rout ⟨⟨v2,hv2,rfl⟩,⟨c,c1,c2,rfl⟩⟩;refine⟨rfl,?_⟩;conv=>whnf)|(refine CallX.of (s104 n L hL _ ?_ ?_ 1 120 ?_ ?_ ?_) [(1000000,1000000)] rfl ⟨lr,lr,lr,trivial⟩ ⟨rr,trivial⟩ rfl rfl ?_;rotate_right;rintro x rout ⟨⟨o1,ho1,ho2,rfl⟩,⟨c,c1,c2,rfl⟩⟩;refine⟨rfl,?_⟩;conv=>whnf)|(refine CallX.of (s104 n L hL _ ?_ ?_ 1 1000 ?_ ?_ ?_) [(1000000,1000000)] rfl ⟨lr,lr,lr,trivial⟩ ⟨rr,trivial⟩ rfl rfl ?_;rotate_right;rintro x rout ⟨⟨o2,ho3,ho4,rfl⟩,⟨c,c1,c2,rfl⟩⟩;refine⟨rfl,?_⟩;conv=>whnf)|((first|(refine br_intro ?_ ?_<;>intro hb<;>try simp only[brs]at hb)|omega|refine sAx ?_|decide|assumption)<;>conv=>whnf))
 all_goals try(exact h0)
 all_goals try omega
 · exact⟨(c,l,i+1),⟨⟨by omega,by show _≤a+8*((i+1:Nat):Int);omega,by omega⟩,allK_le p4 (by omega)⟩,by show 3 - (i+1)<3 - i;omega,(by exact eAx [(1000000,1000000),(3,3)])⟩
 · exact⟨(c,l++ [⟨k3.getD (i:Int).toNat [],v1,u1,u1+u2,u3,u4⟩],i+1),⟨⟨by omega,by show _≤a+8*((i+1:Nat):Int);omega,by omega⟩,allK_snoc p4 (by omega) ⟨hkk (by omega),mem_len hv1 rfl⟩⟩,by show 3 - (i+1)<3 - i;omega,
    Entails.mk' [(1000000,1000000),(3,38)] rfl rfl ⟨lr,lr,lr,lr,lr,trivial⟩ ⟨rr,Res.le_snocF rfl,trivial⟩⟩
 · have hv:v2.length≤8:=by
    simp only[List.mem_cons,List.not_mem_nil,or_false]at hv2;rcases hv2 with rfl|rfl|rfl|rfl
    · exact(p4.2 _ (getD_mem (by omega))).1
    · decide
    · decide
    · decide
   refine .freeze _ 3 251 6 _ _ rfl (.weak _ ?_);conv=>whnf
   have hrow:=rows_updG (f:=codF) (d:=cod0) (rows_updG (rows_updG (l:=l) (j:=j.toNat) (off:=0) (ds:= [.str v2]) (fun _ _=>rfl) (fun y:Cod=>{y with key:=v2}) (fun _=>rfl)) (off:=4) (ds:= [.int .i64 o1]) (j:=j.toNat) (fun y:Cod=>{y with days:=o1}) (fun _=>rfl)) (off:=5) (ds:= [.int .i64 o2]) (j:=j.toNat) (fun y:Cod=>{y with per:=o2}) (fun _=>rfl);exact⟨.d (cods (updL (updL (updL l j.toNat cod0 fun y=>{y with key:=v2}) j.toNat cod0 fun y=>{y with days:=o1}) j.toNat cod0 fun y=>{y with per:=o2})),[(1000000,strm n L _)],SV.le_ro (by simp) (fun i hi=>hrow i (by simpa using hi)),⟨⟨_,allK_upd (g:=fun y:Cod=>{y with per:=o2}) (allK_upd (g:=fun y:Cod=>{y with days:=o1}) (allK_upd (g:=fun y:Cod=>{y with key:=v2}) (allK_le p4 (by omega)) (fun y hy=>⟨hv,hy.2⟩)) (fun y hy=>hy)) (fun y hy=>hy),rfl⟩,_,by omega,by omega,rfl⟩,rr,trivial⟩
 all_goals
  refine .freeze _ 3 251 6 _ _ rfl (.weak _ ?_);conv=>whnf
  exact⟨.d (cods l),[(1000000,strm n L _)],lr,⟨⟨_,allK_le p4 (by omega),rfl⟩,_,by omega,by omega,rfl⟩,rr,trivial⟩
end Go.Proofs.YtophabkpfpbadaaGreatDoor
namespace Go.Eng
open Go
variable {A:Amb} {G:Hp} {β:Env} {s:St} {t:Array Value} {w:World}
theorem Entails.bunchNew (e k:Nat)(hk:0<k)(hu:s.used 999999=false):Entails s (s.app ⟨none,.any,[(999999,some (.bunch e k []))],[999999]⟩):=by
 refine⟨fun A a w=> ?_⟩;rintro⟨h0,G,β,h⟩;exact⟨h0,G,_,h.bunchNew hk hu⟩
theorem MG.bunchFreeAll {q e k:Nat}:∀ (l:List (Value×Nat×(Nat→List DV))) {G:Hp} {s:St},MG A G β s t w→s.res q=some (.bunch e k l)→
 ∃G',G.le G'∧(∀p ∈ l,DV.Den G' (.ro k p.2.1 p.2.2) p.1)∧MG A G' β (s.app ⟨none,.any,[(q,some (.bunch e k []))],[]⟩) t w:=by
 intro l
 induction l with
 | nil =>
   intro G s h hq;refine⟨G,Hp.le_refl G,fun p hp=>(by cases hp),?_⟩
   have:s.app ⟨none,.any,[(q,some (.bunch e k []))],[]⟩=s:=by
    cases s with
    | mk tm rs us=>
      simp only[St.app,St.mk.injEq];refine⟨rfl,?_,rfl⟩;funext x
      simp only[putR_apply,lookR]
      by_cases c:x=q
      · subst c;simpa using hq.symm
      · rw[nbeq_ne c];rfl
   rw[this];exact h
 | cons p l ih=>
   obtain⟨v,n,get⟩:=p;intro G s h hq;obtain⟨G1,h1,h2,h3⟩:=h.bunchFree hq;obtain⟨G2,k1,k2,k3⟩:=ih h3 (by simp[St.app,putR_apply,lookR]);refine⟨G2,Hp.le_trans h1 k1,fun p hp=> ?_,?_⟩
   · rcases List.mem_cons.1 hp with rfl|hp
     · exact h2.mono k1
     · exact k2 p hp
   · have:(s.app ⟨none,.any,[(q,some (.bunch e k l))],[]⟩).app ⟨none,.any,[(q,some (.bunch e k []))],[]⟩=s.app ⟨none,.any,[(q,some (.bunch e k []))],[]⟩:=by
      simp only[St.app,St.mk.injEq];refine⟨rfl,?_,rfl⟩;funext x
      simp only[putR_apply,lookR]
      by_cases c:x=q
      · subst c;simp
      · rw[nbeq_ne c];rfl
     rw[this]at k3;exact k3
theorem Entails.bunchFro {q e k e2 k2 N:Nat}{l:List (Value×Nat×(Nat→List DV))}{get:Nat→List DV}(get':Nat→List DV)(hb:s.res 999999=some (.bunch e k l))(hq:s.res q=some (.buf e2 k2 N get))
 (hl:∀i,i<N→(get' i).length=(get i).length)
 (hg:∀ (i j:Nat) (x:DV),i<N→(get' i)[j]? =some x→(get i)[j]? =some x∨∃p ∈ l,(get i)[j]? =some (.opq p.1)∧∀G v,DV.Den G (.ro k p.2.1 p.2.2) v→DV.Den G x v):
 Entails s (s.app ⟨none,.any,[(999999,none),(q,some (.buf e2 k2 N get'))],[]⟩):=by
 refine⟨fun A a w=> ?_⟩;rintro⟨h0,G,β,h⟩;obtain⟨G',h1,h2,h3⟩:=MG.bunchFreeAll l h hb;have hne:¬q=999999:=fun c=>by rw[c,hb]at hq;cases hq
 have hq1:(s.app ⟨none,.any,[(999999,some (.bunch e k []))],[]⟩).res q=some (.buf e2 k2 N get):=by
  simp only[St.app,putR_apply,lookR];rw[nbeq_ne hne];exact hq
 obtain⟨v,xs,hv,hown,hk,hlen,hden⟩:=h3.rs _ _ hq1
 have h4:=h3.changeG (r':=.buf e2 k2 N get') hq1 rfl hv rfl rfl rfl rfl (fun _ _=>rfl) (fun b hb=>hb.to rfl) ⟨v,xs,hv,hown,hk,fun i hi=>(hl i hi).trans (hlen i hi),fun i j x hi hx=>by
  rcases hg i j x hi hx with c|⟨p,hp,c,hx⟩
  · exact hden i j x hi c
  · obtain⟨u,hu,hd⟩:=hden i j _ hi c
    cases hd with|opq _ _=>exact⟨_,hu,hx _ _ (h2 p hp)⟩⟩
 have h5:=h4.drop 999999;refine⟨h0,G',β,?_⟩
 have:((s.app ⟨none,.any,[(999999,some (.bunch e k []))],[]⟩).app ⟨none,.any,[(q,some (.buf e2 k2 N get'))],[]⟩).app ⟨none,.any,[(999999,none)],[]⟩=s.app ⟨none,.any,[(999999,none),(q,some (.buf e2 k2 N get'))],[]⟩:=by
  simp only[St.app,St.mk.injEq];refine⟨rfl,?_,rfl⟩;funext x
  simp only[putR_apply,lookR]
  by_cases c:x=999999
  · subst c;simp
  · rw[nbeq_ne c]
    by_cases d:x=q
    · subst d;simp
    · rw[nbeq_ne d];rfl
 rw[←this];exact h5
end Go.Eng
set_option maxRecDepth 20000
namespace Go.Proofs.YtophabkpfpbadaaGreatDoor
open Go Go.Eng
def oQTmC96_18:OL:= [(0,[]),(1,[0]),(2,[0]),(3,[0]),(4,[0]),(5,rg 5),(6,rg 6),(7,rg 5),(8,rg 5),(9,[0]),(10,[]),(11,[]),(12,[])]
def taxM (x:Tax):Prop:=x.key.length≤8∧x.on.length≤8
structure BTx where
 key:List UInt8
 per:Int
 v:Value
 on:List Int
 over:Bool
def btF (x:BTx):List DV:= [.str x.key,.int .i64 x.per,.opq x.v,.bool x.over]
def bt0:BTx:=⟨[],0,.nilFunc,[],false⟩
def bM (x:BTx):Prop:=x.key.length≤8∧x.on.length≤5
def bT (x:BTx):Tax:=⟨x.key,x.per,x.on,x.over⟩
def bE (x:BTx):Value×Nat×(Nat→List DV):=(x.v,x.on.length,rowF iF 0 x.on)
def bL (l:List BTx):List (Value×Nat×(Nat→List DV)):=(l.map bE).reverse
theorem bL_snoc (l:List BTx)(x:BTx):bL (l++ [x])=bE x::bL l:=by simp[bL]
theorem bL_mem {l:List BTx}{x:BTx}(h:x ∈ l):bE x ∈ bL l:=by
 unfold bL;rw[List.mem_reverse];exact List.mem_map.2 ⟨x,h,rfl⟩
theorem bL_split (l:List BTx){j:Nat}(h:j<l.length):∃A B,bL l=A++bE (l.getD j bt0)::B∧∀x,∀t ∈ l.set j x,t=x∨bE t ∈ A++B:=by
 have e:l=l.take j++l.getD j bt0::l.drop (j+1):=by
  rw[List.getD_eq_getElem?_getD,List.getElem?_eq_getElem h,Option.getD_some,←List.drop_eq_getElem_cons h,List.take_append_drop]
 refine⟨((l.drop (j+1)).map bE).reverse,((l.take j).map bE).reverse,?_,fun x t ht=> ?_⟩
 · conv=>lhs;rw[e]
   simp[bL]
 · rw[List.set_eq_take_append_cons_drop,if_pos h]at ht;rcases List.mem_append.1 ht with q|q
   · exact .inr (List.mem_append.2 (.inr (by rw[List.mem_reverse];exact List.mem_map.2 ⟨t,q,rfl⟩)))
   · rcases List.mem_cons.1 q with q|q
     · exact .inl q
     · exact .inr (List.mem_append.2 (.inl (by rw[List.mem_reverse];exact List.mem_map.2 ⟨t,q,rfl⟩)))
theorem tax_fro {s:St}{q N:Nat}{Bn:List (Value×Nat×(Nat→List DV))}{get:Nat→List DV}(hb:s.res 999999=some (.bunch 3 1 Bn))(hq:s.res q=some (.buf 254 4 N get))(l:List BTx)(hN:N=l.length)(hg:∀i,i<N→get i=rowF btF bt0 l i)
 (hB:∀t ∈ l,∃p ∈ Bn,p.1=t.v∧p.2.1=t.on.length∧∀i,i<p.2.1→p.2.2 i=rowF iF 0 t.on i):
 Entails s (s.app ⟨none,.any,[(999999,none),(q,some (.buf 254 4 N (rowF taxF tax0 (l.map bT))))],[]⟩):=by
 have hrow:∀i,i<N→rowF taxF tax0 (l.map bT) i=taxF (bT (l.getD i bt0)):=fun i hi=>by
  unfold rowF;congr 1
  rw[List.getD_eq_getElem?_getD,List.getElem?_map,List.getD_eq_getElem?_getD,List.getElem?_eq_getElem (by omega)];rfl
 refine Entails.bunchFro _ hb hq (fun i hi=>by rw[hrow i hi,hg i hi];rfl) (fun i j x hi hx=> ?_);rw[hrow i hi]at hx;rw[hg i hi];obtain⟨t,ht⟩:∃t,t=l.getD i bt0:=⟨_,rfl⟩;have hm:t ∈ l:=by rw[ht];exact getD_mem (by omega)
 show(btF (l.getD i bt0))[j]? =some x∨∃p ∈ Bn,(btF (l.getD i bt0))[j]? =some (.opq p.1)∧∀G v,DV.Den G (.ro 1 p.2.1 p.2.2) v→DV.Den G x v;rw[←ht]at hx ⊢
 match j with
 |0=>exact .inl hx
 |1=>exact .inl hx
 |3=>exact .inl hx
 | 2=>
   obtain⟨p,hp,h1,h2,h3⟩:=hB t hm;cases hx
   exact .inr ⟨p,hp,by rw[h1];rfl,fun G v hv=>DV.ro_ext h2 h3 hv⟩
 |j+4=>cases hx
def tk3:List (List UInt8):= [[99,105,116,121],[115,116,97,116,101],[118,97,116]]
theorem taxM_map {l:List BTx}{k:Nat}(hl:l.length≤k)(h:∀t ∈ l,t.key.length≤8∧t.on.length≤8):allK taxM k (l.map bT):=
 ⟨by rw[List.length_map];exact hl,fun x hx=>by
   obtain⟨t,ht,rfl⟩:=List.mem_map.1 hx
   exact h t ht⟩
set_option maxHeartbeats 4000000 in
theorem yTaxes (n:Nat)(L:Nat→Int)(hL:Rok n L)(a:Int)(h0:0≤a)(ha:a≤2^36):
 FSpec Tryz.prog 96 [.ptr 1000000 0] [(1000000,strm n L a)] (fun y r=>(∃l:List Tax,allK taxM 3 l∧y= .d (taxs l))∧Moved n L a 50 r):=by
 refine spec_of hT (C:= []) Tryz.func96 rfl Tryz.call96 rfl rfl rfl ?_;conv=>whnf
 refine LoopX.rule hT (C:= []) (ι:=Int×List BTx×Nat) (fun(b,l,i)=>(a≤b∧b≤a+10*i∧i≤3)∧allK bM i l)
  (fun(b,l,i)=>mkSt [(0,.ptr 1000000 0),(3,.buf 3),(10,.d (strs tk3)),(11,.d (.int .i64 3)),(12,.d (.int .i64 i))] [(1000000,strm n L b),(3,seqB 254 4 btF bt0 l),(999999,.bunch 3 1 (bL l))])
  (fun(_,_,i)=>3 - i) (a,[],0) ⟨⟨by simp,by simp,by simp⟩,⟨by simp,by simp⟩⟩ ?_ ?_
 · refine(Entails.bunchNew 3 1 (by decide) rfl).trans ((Entails.nil 3 3 254 4 (rowF btF bt0 []) rfl rfl (by decide)).trans (Entails.mk' [(1000000,1000000),(3,3),(999999,999999)] rfl rfl ⟨lr,lr,SV.le_lit rfl rfl,lr,lr,trivial⟩ ⟨rr,rr,rr,trivial⟩))
 rintro⟨b,l,i⟩ ⟨⟨p1,p2,p3⟩,p4⟩;have p1:a≤b:=p1;have p2:b≤a+10*i:=p2;have p3:i≤3:=p3;have p4:allK bM i l:=p4;have hc3:tk3.length=3:=rfl;have hl1:l.length≤i:=p4.1;have hkk:(i:Int)<3→(tk3.getD (i:Int).toNat []).length≤8:=fun h=>mem_len (getD_mem (by omega)) rfl
 rcases Nat.lt_or_ge i 3 with hi|hi
 · conv=>whnf
   repeat' (first|(refine CallX.of (s84 n L hL _ ?_ ?_ 3 ?_) [(1000000,1000000)] rfl ⟨lr,lr,trivial⟩ ⟨rr,trivial⟩ rfl rfl ?_;rotate_right;rintro x rout ⟨⟨w,rfl⟩,⟨c,c1,c2,rfl⟩⟩;refine⟨rfl,?_⟩;conv=>whnf)|(refine CallX.of (s33 n L hL _ ?_ ?_ [0,50,75,200,1000] ?_ ?_) [(1000000,1000000)] rfl ⟨lr,SV.le_lit rfl rfl,trivial⟩ ⟨rr,trivial⟩ rfl rfl ?_;rotate_right;rintro x rout ⟨⟨u1,hu1,rfl⟩,⟨c,c1,c2,rfl⟩⟩;refine⟨rfl,?_⟩;conv=>whnf)|(refine CallX.of (s84 n L hL _ ?_ ?_ 2 ?_) [(1000000,1000000)] rfl ⟨lr,lr,trivial⟩ ⟨rr,trivial⟩ rfl rfl ?_;rotate_right;rintro x rout ⟨⟨w2,rfl⟩,⟨c,c1,c2,rfl⟩⟩;refine⟨rfl,?_⟩;conv=>whnf)|((first|(refine br_intro ?_ ?_<;>intro hb<;>try simp only[brs]at hb)|refine rAx hT 18 oQTmC96_18 ?_|omega|refine sAx ?_|decide|assumption)<;>conv=>whnf))
   all_goals try(exact h0)
   all_goals try omega
   · exact⟨(c,l,i+1),⟨⟨by omega,by show _≤a+10*((i+1:Nat):Int);omega,by omega⟩,allK_le p4 (by omega)⟩,by show 3 - (i+1)<3 - i;omega,(by exact eAx [(1000000,1000000),(3,3),(999999,999999)])⟩
   · have hk:=hkk (by omega);obtain⟨ky,hky⟩:∃ky,ky=tk3.getD (i:Int).toNat []:=⟨_,rfl⟩;obtain⟨cc,hcc⟩:∃cc:Int,cc=c:=⟨_,rfl⟩;rw[←hky]at hk
     refine LoopX.rule hT (C:= []) (ι:=Int×List Int×Nat) (fun(d,on,k)=>(cc≤d∧d≤cc+k∧k≤5)∧on.length≤k)
      (fun(d,on,k)=>mkSt [(0,.ptr 1000000 0),(3,.buf 3),(6,.ptr 6 0),(10,.d (strs tk3)),(11,.d (.int .i64 3)),(12,.d (.int .i64 i)),(25,.d (ints [1,2,3,4,6])),(26,.d (.int .i64 5)),(27,.d (.int .i64 k))] [(1000000,strm n L d),(3,seqB 254 4 btF bt0 l),(999999,.bunch 3 1 (bL l)),(6,.cells 254 [.d (.str ky),.d (.int .i64 u1),.buf 7,.d (.bool w2)]),(7,seqB 3 1 iF 0 on)])
      (fun(_,_,k)=>5 - k) (cc,[],0) ⟨⟨by simp,by simp,by simp⟩,by simp⟩ ?_ ?_
     · subst hcc hky;refine(Entails.nilCell 6 7 3 1 2 (rowF iF 0 []) rfl rfl rfl (by decide) rfl).trans (Entails.mk' [(1000000,1000000),(3,3),(999999,999999),(6,6),(7,7)] rfl rfl ⟨lr,lr,lr,lr,lr,lr,SV.le_lit rfl rfl,lr,lr,trivial⟩ ⟨rr,rr,rr,?_,rr,trivial⟩);conv=>whnf
       refine⟨rfl,fun _ _ _ _ h=> ?_⟩;exact h
     rintro⟨d,on,k⟩ ⟨⟨q1,q2,q3⟩,q4⟩;have q1:cc≤d:=q1;have q2:d≤cc+k:=q2;have q3:k≤5:=q3;have q4:on.length≤k:=q4;conv=>whnf
     repeat' (first|(refine CallX.of (s84 n L hL _ ?_ ?_ 2 ?_) [(1000000,1000000)] rfl ⟨lr,lr,trivial⟩ ⟨rr,trivial⟩ rfl rfl ?_;rotate_right;rintro x rout ⟨⟨w3,rfl⟩,⟨c,c1,c2,rfl⟩⟩;refine⟨rfl,?_⟩;conv=>whnf)|(intro v;conv=>whnf)|((first|(refine br_intro ?_ ?_<;>intro hb<;>try simp only[brs]at hb)|refine rAx hT 18 oQTmC96_18 ?_|omega|refine sAx ?_|decide|assumption)<;>conv=>whnf))
     all_goals try(exact h0)
     all_goals try omega
     · exact⟨(c,on++ [([1,2,3,4,6]:List Int).getD (k:Int).toNat 0],k+1),⟨⟨by omega,by show _≤cc+((k+1:Nat):Int);omega,by omega⟩,by show(on++_).length≤k+1;rw[List.length_append];simp;omega⟩,by show 5 - (k+1)<5 - k;omega,
        Entails.mk' [(1000000,1000000),(3,3),(999999,999999),(6,6),(7,37)] rfl rfl ⟨lr,lr,lr,lr,lr,lr,lr,lr,lr,trivial⟩ ⟨rr,rr,rr,rr,Res.le_snocF rfl,trivial⟩⟩
     · exact⟨(c,on,k+1),⟨⟨by omega,by show _≤cc+((k+1:Nat):Int);omega,by omega⟩,by show on.length≤k+1;omega⟩,by show 5 - (k+1)<5 - k;omega,(by exact eAx [(1000000,1000000),(3,3),(999999,999999),(6,6),(7,7)])⟩
     · exact⟨(d,l++ [⟨ky,u1,v,on,w2⟩],i+1),⟨⟨by omega,by show _≤a+10*((i+1:Nat):Int);omega,by omega⟩,allK_snoc p4 (by omega) ⟨hk,by show on.length≤5;omega⟩⟩,by show 3 - (i+1)<3 - i;omega,
        Entails.mk' [(1000000,1000000),(3,43),(999999,999999)] rfl rfl ⟨lr,lr,lr,lr,lr,trivial⟩ ⟨rr,Res.le_snocF rfl,(by rw[bL_snoc];exact rr),trivial⟩⟩
 · have hi3:i=3:=by omega
   subst hi3;have hsp:=fun(j:Int) (h1:0≤j) (h2:j<l.length)=>bL_split l (j:=j.toNat) (by omega)
   have hon:∀j:Int,0≤j→j<l.length→(l.getD j.toNat bt0).on.length≤5:=fun j h1 h2=>(p4.2 _ (getD_mem (by omega))).2
   have hB:∀t ∈ l,∃p ∈ bL l,p.1=t.v∧p.2.1=t.on.length∧∀i,i<p.2.1→p.2.2 i=rowF iF 0 t.on i:=fun t ht=>⟨_,bL_mem ht,rfl,rfl,fun _ _=>rfl⟩
   conv=>whnf
   repeat' (first|(refine CallX.of (s84 n L hL _ ?_ ?_ 15 ?_) [(1000000,1000000)] rfl ⟨lr,lr,trivial⟩ ⟨rr,trivial⟩ rfl rfl ?_;rotate_right;rintro x rout ⟨⟨w,rfl⟩,⟨c,c1,c2,rfl⟩⟩;refine⟨rfl,?_⟩;conv=>whnf)|(refine CallX.of (s86 n L hL _ ?_ ?_ 3 ?_) [(1000000,1000000)] rfl ⟨lr,lr,trivial⟩ ⟨rr,trivial⟩ rfl rfl ?_;rotate_right;rintro x rout ⟨⟨m,hm1,hm2,hm3,rfl⟩,⟨c,c1,c2,rfl⟩⟩;refine⟨rfl,?_⟩;conv=>whnf)|(refine CallX.of (s86 n L hL _ ?_ ?_ _ ?_) [(1000000,1000000)] rfl ⟨lr,lr,trivial⟩ ⟨rr,trivial⟩ rfl rfl ?_;rotate_right;rintro x rout ⟨⟨j,hj1,hj2,hj3,rfl⟩,⟨c,c1,c2,rfl⟩⟩;refine⟨rfl,?_⟩;conv=>whnf)|(refine CallX.of (s15 n L hL _ ?_ ?_ [[],[99,105,116,121],[65]] (by simp) (by simp)) [(1000000,1000000)] rfl ⟨lr,SV.le_lit rfl rfl,trivial⟩ ⟨rr,trivial⟩ rfl rfl ?_;rotate_right;rintro x rout ⟨⟨v1,hv1,rfl⟩,⟨c,c1,c2,rfl⟩⟩;refine⟨rfl,?_⟩;conv=>whnf)|(refine CallX.of (s104 n L hL _ ?_ ?_ 0 1000 ?_ ?_ ?_) [(1000000,1000000)] rfl ⟨lr,lr,lr,trivial⟩ ⟨rr,trivial⟩ rfl rfl ?_;rotate_right;rintro x rout ⟨⟨o1,ho1,ho2,rfl⟩,⟨c,c1,c2,rfl⟩⟩;refine⟨rfl,?_⟩;conv=>whnf)|(refine CallX.of (s33 n L hL _ ?_ ?_ [0,5,6,7,1] ?_ ?_) [(1000000,1000000)] rfl ⟨lr,SV.le_lit rfl rfl,trivial⟩ ⟨rr,trivial⟩ rfl rfl ?_;rotate_right;rintro x rout ⟨⟨u1,hu1,rfl⟩,⟨c,c1,c2,rfl⟩⟩;refine⟨rfl,?_⟩;conv=>whnf)|((first|(obtain⟨A,B,hAB,hset⟩:=hsp j hj1 (hj2 (by omega));refine⟨A,_,_,B,hAB,?_⟩)|(refine And.intro (by have:=hon j hj1 (hj2 (by omega));show((l.getD j.toNat bt0).on.length+1)*8≤140737488355328;omega) ?_))<;>conv=>whnf)|(intro v';conv=>whnf)|((first|(refine br_intro ?_ ?_<;>intro hb<;>try simp only[brs]at hb)|refine rAx hT 18 oQTmC96_18 ?_|omega|refine sAx ?_|decide|assumption)<;>conv=>whnf))
   all_goals try(exact h0)
   all_goals try omega
   · have hw:v1.length≤8:=mem_len hv1 rfl;refine .ent _ _ (tax_fro (q:=3) rfl rfl (updL l j.toNat bt0 fun y=>{y with key:=v1}) (by simp) (fun i hi=>rows_updG (f:=btF) (d:=bt0) (l:=l) (j:=j.toNat) (off:=0) (ds:= [.str v1]) (fun _ _=>rfl) (fun y:BTx=>{y with key:=v1}) (fun _=>rfl) i (by simpa using hi)) (fun t ht=> ?_)) (.freeze _ 3 254 4 _ _ rfl (.weak _ ?_))
     · rcases List.mem_or_eq_of_mem_set ht with q|rfl
       · exact hB t q
       · exact hB (l.getD j.toNat bt0) (getD_mem (by omega))
     conv=>whnf
     exact⟨.d (taxs ((updL l j.toNat bt0 fun y=>{y with key:=v1}).map bT)),[(1000000,strm n L _)],SV.le_ro (by simp) (fun _ _=>rfl),⟨⟨_,taxM_map (by simpa using p4.1) (fun t ht=>by
      rcases List.mem_or_eq_of_mem_set ht with q|rfl
      · exact⟨(p4.2 t q).1,Nat.le_trans (p4.2 t q).2 (by decide)⟩
      · exact⟨hw,Nat.le_trans (p4.2 _ (getD_mem (by omega))).2 (by decide)⟩),rfl⟩,_,by omega,by omega,rfl⟩,rr,trivial⟩
   · refine .ent _ _ (tax_fro (q:=3) rfl rfl (updL l j.toNat bt0 fun y=>{y with per:=o1}) (by simp) (fun i hi=>rows_updG (f:=btF) (d:=bt0) (l:=l) (j:=j.toNat) (off:=1) (ds:= [.int .i64 o1]) (fun _ _=>rfl) (fun y:BTx=>{y with per:=o1}) (fun _=>rfl) i (by simpa using hi)) (fun t ht=> ?_)) (.freeze _ 3 254 4 _ _ rfl (.weak _ ?_))
     · rcases List.mem_or_eq_of_mem_set ht with q|rfl
       · exact hB t q
       · exact hB (l.getD j.toNat bt0) (getD_mem (by omega))
     conv=>whnf
     exact⟨.d (taxs ((updL l j.toNat bt0 fun y=>{y with per:=o1}).map bT)),[(1000000,strm n L _)],SV.le_ro (by simp) (fun _ _=>rfl),⟨⟨_,taxM_map (by simpa using p4.1) (fun t ht=>by
      rcases List.mem_or_eq_of_mem_set ht with q|rfl
      · exact⟨(p4.2 t q).1,Nat.le_trans (p4.2 t q).2 (by decide)⟩
      · exact⟨(p4.2 _ (getD_mem (by omega))).1,Nat.le_trans (p4.2 _ (getD_mem (by omega))).2 (by decide)⟩),rfl⟩,_,by omega,by omega,rfl⟩,rr,trivial⟩
   · have hon:=hon j hj1 (hj2 (by omega));refine .ent _ _ (tax_fro (q:=3) rfl rfl (updL l j.toNat bt0 fun y=>{y with v:=v',on:=y.on++ [u1]}) (by simp) (fun i hi=>rows_updG (f:=btF) (d:=bt0) (l:=l) (j:=j.toNat) (off:=2) (ds:= [.opq v']) (fun _ _=>rfl) (fun y:BTx=>{y with v:=v',on:=y.on++ [u1]}) (fun _=>rfl) i (by simpa using hi)) (fun t ht=> ?_)) (.freeze _ 3 254 4 _ _ rfl (.weak _ ?_))
     · rcases hset _ t ht with rfl|q
       · exact⟨_,List.mem_cons_self,rfl,by simp,fun i hi=>rows_snocF (f:=iF) (d:=0) (l:=(l.getD j.toNat bt0).on) (x:=u1) (h:=fun i=> [[DV.int .i64 u1]].getD i []) rfl i hi⟩
       · exact⟨_,List.mem_cons_of_mem _ q,rfl,rfl,fun _ _=>rfl⟩
     conv=>whnf
     exact⟨.d (taxs ((updL l j.toNat bt0 fun y=>{y with v:=v',on:=y.on++ [u1]}).map bT)),[(1000000,strm n L _)],SV.le_ro (by simp) (fun _ _=>rfl),⟨⟨_,taxM_map (by simpa using p4.1) (fun t ht=>by
      rcases List.mem_or_eq_of_mem_set ht with q|rfl
      · exact⟨(p4.2 t q).1,Nat.le_trans (p4.2 t q).2 (by decide)⟩
      · exact⟨(p4.2 _ (getD_mem (by omega))).1,by show(_++ [u1]).length≤8;rw[List.length_append,List.length_singleton];omega⟩),rfl⟩,_,by omega,by omega,rfl⟩,rr,trivial⟩
   all_goals
    refine .ent _ _ (tax_fro (q:=3) rfl rfl l rfl (fun _ _=>rfl) hB) (.freeze _ 3 254 4 _ _ rfl (.weak _ ?_));conv=>whnf
    exact⟨.d (taxs (l.map bT)),[(1000000,strm n L _)],SV.le_ro (by simp) (fun _ _=>rfl),⟨⟨_,taxM_map p4.1 (fun t q=>⟨(p4.2 t q).1,Nat.le_trans (p4.2 t q).2 (by decide)⟩),rfl⟩,_,by omega,by omega,rfl⟩,rr,trivial⟩
def dea (d:Dea):SV:=.agg ((deaF d).map .d)
set_option maxHeartbeats 4000000 in
theorem yDeal (n:Nat)(L:Nat→Int)(hL:Rok n L)(a:Int)(h0:0≤a)(ha:a≤2^37):
 FSpec Tryz.prog 57 [.ptr 1000000 0] [(1000000,strm n L a)] (fun y r=>(∃d:Dea,y=dea d)∧Moved n L a 20 r):=by
 refine spec_of hT (C:= []) Tryz.func57 rfl Tryz.call57 rfl rfl rfl ?_;conv=>whnf
 repeat' (first|(refine CallX.of (s33 n L hL _ ?_ ?_ [0,100,200,10000] ?_ ?_) [(1000000,1000000)] rfl ⟨lr,SV.le_lit rfl rfl,trivial⟩ ⟨rr,trivial⟩ rfl rfl ?_;rotate_right;rintro x rout ⟨⟨u1,hu1,rfl⟩,⟨c,c1,c2,rfl⟩⟩;refine⟨rfl,?_⟩;conv=>whnf)|(refine CallX.of (s33 n L hL _ ?_ ?_ [0,2,30] ?_ ?_) [(1000000,1000000)] rfl ⟨lr,SV.le_lit rfl rfl,trivial⟩ ⟨rr,trivial⟩ rfl rfl ?_;rotate_right;rintro x rout ⟨⟨u2,hu2,rfl⟩,⟨c,c1,c2,rfl⟩⟩;refine⟨rfl,?_⟩;conv=>whnf)|(refine CallX.of (s33 n L hL _ ?_ ?_ [0,300,1000] ?_ ?_) [(1000000,1000000)] rfl ⟨lr,SV.le_lit rfl rfl,trivial⟩ ⟨rr,trivial⟩ rfl rfl ?_;rotate_right;rintro x rout ⟨⟨u3,hu3,rfl⟩,⟨c,c1,c2,rfl⟩⟩;refine⟨rfl,?_⟩;conv=>whnf)|(refine CallX.of (s33 n L hL _ ?_ ?_ [0,29,30,59,60] ?_ ?_) [(1000000,1000000)] rfl ⟨lr,SV.le_lit rfl rfl,trivial⟩ ⟨rr,trivial⟩ rfl rfl ?_;rotate_right;rintro x rout ⟨⟨u4,hu4,rfl⟩,⟨c,c1,c2,rfl⟩⟩;refine⟨rfl,?_⟩;conv=>whnf)|(refine CallX.of (s33 n L hL _ ?_ ?_ [0,500,1000,2000] ?_ ?_) [(1000000,1000000)] rfl ⟨lr,SV.le_lit rfl rfl,trivial⟩ ⟨rr,trivial⟩ rfl rfl ?_;rotate_right;rintro x rout ⟨⟨u5,hu5,rfl⟩,⟨c,c1,c2,rfl⟩⟩;refine⟨rfl,?_⟩;conv=>whnf)|(refine CallX.of (s33 n L hL _ ?_ ?_ [0,4000,5000,9000] ?_ ?_) [(1000000,1000000)] rfl ⟨lr,SV.le_lit rfl rfl,trivial⟩ ⟨rr,trivial⟩ rfl rfl ?_;rotate_right;rintro x rout ⟨⟨u6,hu6,rfl⟩,⟨c,c1,c2,rfl⟩⟩;refine⟨rfl,?_⟩;conv=>whnf)|(refine CallX.of (s33 n L hL _ ?_ ?_ [0,10000,1000000] ?_ ?_) [(1000000,1000000)] rfl ⟨lr,SV.le_lit rfl rfl,trivial⟩ ⟨rr,trivial⟩ rfl rfl ?_;rotate_right;rintro x rout ⟨⟨u7,hu7,rfl⟩,⟨c,c1,c2,rfl⟩⟩;refine⟨rfl,?_⟩;conv=>whnf)|(refine CallX.of (s84 n L hL _ ?_ ?_ 15 ?_) [(1000000,1000000)] rfl ⟨lr,lr,trivial⟩ ⟨rr,trivial⟩ rfl rfl ?_;rotate_right;rintro x rout ⟨⟨w,rfl⟩,⟨c,c1,c2,rfl⟩⟩;refine⟨rfl,?_⟩;conv=>whnf)|(refine CallX.of (s104 n L hL _ ?_ ?_ 0 10000 ?_ ?_ ?_) [(1000000,1000000)] rfl ⟨lr,lr,lr,trivial⟩ ⟨rr,trivial⟩ rfl rfl ?_;rotate_right;rintro x rout ⟨⟨o1,ho1,ho2,rfl⟩,⟨c,c1,c2,rfl⟩⟩;refine⟨rfl,?_⟩;conv=>whnf)|(refine CallX.of (s104 n L hL _ ?_ ?_ 0 1440 ?_ ?_ ?_) [(1000000,1000000)] rfl ⟨lr,lr,lr,trivial⟩ ⟨rr,trivial⟩ rfl rfl ?_;rotate_right;rintro x rout ⟨⟨o2,ho3,ho4,rfl⟩,⟨c,c1,c2,rfl⟩⟩;refine⟨rfl,?_⟩;conv=>whnf)|(refine CallX.of (s104 n L hL _ ?_ ?_ 0 1000000 ?_ ?_ ?_) [(1000000,1000000)] rfl ⟨lr,lr,lr,trivial⟩ ⟨rr,trivial⟩ rfl rfl ?_;rotate_right;rintro x rout ⟨⟨o3,ho5,ho6,rfl⟩,⟨c,c1,c2,rfl⟩⟩;refine⟨rfl,?_⟩;conv=>whnf)|(refine CallX.of (s104 n L hL _ ?_ ?_ 0 1000000 ?_ ?_ ?_) [(1000000,1000000)] rfl ⟨lr,lr,lr,trivial⟩ ⟨rr,trivial⟩ rfl rfl ?_;rotate_right;rintro x rout ⟨⟨o4,ho7,ho8,rfl⟩,⟨c,c1,c2,rfl⟩⟩;refine⟨rfl,?_⟩;conv=>whnf)|((first|(refine br_intro ?_ ?_<;>intro hb<;>try simp only[brs]at hb)|omega|refine sAx ?_|decide|assumption)<;>conv=>whnf))
 all_goals try(exact h0)
 all_goals try omega
 all_goals refine .ret _ ?_
 all_goals conv=>whnf
 · exact⟨[(1000000,strm n L _)],⟨⟨⟨_,_,_,_,_,_,_⟩,rfl⟩,_,by omega,by omega,rfl⟩,rr,trivial⟩
 · exact⟨[(1000000,strm n L _)],⟨⟨⟨_,_,_,_,_,_,_⟩,rfl⟩,_,by omega,by omega,rfl⟩,rr,trivial⟩
def dea0:Dea:=⟨0,0,0,0,0,0,0⟩
set_option maxHeartbeats 4000000 in
theorem yRDeal (n:Nat)(L:Nat→Int)(hL:Rok n L)(a:Int)(h0:0≤a)(ha:a≤2^36):
 FSpec Tryz.prog 29 [.ptr 1000000 0] [(1000000,strm n L a)] (fun y r=>(∃d:Dea,deaE d=0∧y=dea d)∧Moved n L a 160 r):=by
 refine spec_of hT (C:= []) Tryz.func29 rfl Tryz.call29 rfl rfl rfl ?_;conv=>whnf
 refine LoopX.rule hT (C:= []) (ι:=Int×Nat) (fun(b,i)=>a≤b∧b≤a+20*i∧i≤8)
  (fun(b,i)=>mkSt [(0,.ptr 1000000 0),(2,.ptr 2 0),(4,.d (.int .i64 i))] [(1000000,strm n L b),(2,.cells 40 ((deaF dea0).map .d))])
  (fun(_,i)=>8 - i) (a,0) ⟨by simp,by simp,by simp⟩ (by exact eAx [(1000000,1000000),(2,2)]) ?_
 rintro⟨b,i⟩ ⟨p1,p2,p3⟩;have p1:a≤b:=p1;have p2:b≤a+20*i:=p2;have p3:i≤8:=p3;conv=>whnf
 repeat' (first|(refine CallX.of (yDeal n L hL _ ?_ ?_) [(1000000,1000000)] rfl ⟨lr,trivial⟩ ⟨rr,trivial⟩ rfl rfl ?_;rotate_right;rintro x rout ⟨⟨d,rfl⟩,⟨c,c1,c2,rfl⟩⟩;refine⟨rfl,?_⟩;conv=>whnf)|((first|refine CallX.pure (y85 _) ⟨lr,trivial⟩ rfl ?_|(refine br_intro ?_ ?_<;>intro hb<;>try simp only[brs]at hb)|omega|refine sAx ?_|decide|assumption)<;>conv=>whnf))
 all_goals try omega
 · refine .ret _ ?_;conv=>whnf
   exact⟨[(1000000,strm n L _)],⟨⟨d,by simpa using hb,rfl⟩,_,by omega,by omega,rfl⟩,rr,trivial⟩
 · exact⟨(c,i+1),⟨by omega,by show _≤a+20*((i+1:Nat):Int);omega,by omega⟩,by show 8 - (i+1)<8 - i;omega,(by exact eAx [(1000000,1000000),(2,2)])⟩
 · refine .ret _ ?_;conv=>whnf
   exact⟨[(1000000,strm n L _)],⟨⟨dea0,by decide,rfl⟩,_,by omega,by omega,rfl⟩,rr,trivial⟩
structure tarM (t:Tar):Prop where
 rat:allK ratM 10 t.rat
 ext:allK extM 2 t.ext
 fe:allK feM 5 t.fe
 cod:allK codM 3 t.cod
 tax:allK taxM 3 t.tax
theorem tarM.ok {t:Tar}(h:tarM t):tarOk t:=
 ⟨⟨Nat.le_trans h.rat.1 (by decide),fun x hx=>Nat.le_trans (h.rat.2 x hx) (by decide)⟩,⟨Nat.le_trans h.ext.1 (by decide),fun x hx=>Nat.le_trans (h.ext.2 x hx) (by decide)⟩,
   ⟨Nat.le_trans h.fe.1 (by decide),fun x hx=>⟨Nat.le_trans (h.fe.2 x hx).1 (by decide),Nat.le_trans (h.fe.2 x hx).2 (by decide)⟩⟩,
   ⟨Nat.le_trans h.cod.1 (by decide),fun x hx=>⟨Nat.le_trans (h.cod.2 x hx).1 (by decide),Nat.le_trans (h.cod.2 x hx).2 (by decide)⟩⟩,
   ⟨Nat.le_trans h.tax.1 (by decide),fun x hx=>⟨Nat.le_trans (h.tax.2 x hx).1 (by decide),Nat.le_trans (h.tax.2 x hx).2 (by decide)⟩⟩⟩
def tar (t:Tar):SV:=.agg (tarL t)
set_option maxHeartbeats 4000000 in
theorem yTariff (n:Nat)(L:Nat→Int)(hL:Rok n L)(a:Int)(h0:0≤a)(ha:a≤2^34):
 FSpec Tryz.prog 54 [.ptr 1000000 0] [(1000000,strm n L a)] (fun y r=>(∃t:Tar,tarM t∧y=tar t)∧Moved n L a 250 r):=by
 refine spec_of hT (C:= []) Tryz.func54 rfl Tryz.call54 rfl rfl rfl ?_;conv=>whnf
 repeat' (first|(refine CallX.of (yRates n L hL _ ?_ ?_) [(1000000,1000000)] rfl ⟨lr,trivial⟩ ⟨rr,trivial⟩ rfl rfl ?_;rotate_right;rintro x rout ⟨⟨t1,ht1,rfl⟩,⟨c,c1,c2,rfl⟩⟩;refine⟨rfl,?_⟩;conv=>whnf)|(refine CallX.of (yExtras n L hL _ ?_ ?_) [(1000000,1000000)] rfl ⟨lr,trivial⟩ ⟨rr,trivial⟩ rfl rfl ?_;rotate_right;rintro x rout ⟨⟨t2,ht2,rfl⟩,⟨c,c1,c2,rfl⟩⟩;refine⟨rfl,?_⟩;conv=>whnf)|(refine CallX.of (yFees n L hL _ ?_ ?_) [(1000000,1000000)] rfl ⟨lr,trivial⟩ ⟨rr,trivial⟩ rfl rfl ?_;rotate_right;rintro x rout ⟨⟨t3,ht3,rfl⟩,⟨c,c1,c2,rfl⟩⟩;refine⟨rfl,?_⟩;conv=>whnf)|(refine CallX.of (yCodes n L hL _ ?_ ?_) [(1000000,1000000)] rfl ⟨lr,trivial⟩ ⟨rr,trivial⟩ rfl rfl ?_;rotate_right;rintro x rout ⟨⟨t4,ht4,rfl⟩,⟨c,c1,c2,rfl⟩⟩;refine⟨rfl,?_⟩;conv=>whnf)|(refine CallX.of (yTaxes n L hL _ ?_ ?_) [(1000000,1000000)] rfl ⟨lr,trivial⟩ ⟨rr,trivial⟩ rfl rfl ?_;rotate_right;rintro x rout ⟨⟨t5,ht5,rfl⟩,⟨c,c1,c2,rfl⟩⟩;refine⟨rfl,?_⟩;conv=>whnf)|((first|(refine br_intro ?_ ?_<;>intro hb<;>try simp only[brs]at hb)|omega|refine sAx ?_|decide|assumption)<;>conv=>whnf))
 all_goals try omega
 refine .ret _ ?_;conv=>whnf
 exact⟨[(1000000,strm n L _)],⟨⟨⟨t1,t2,t3,t4,t5⟩,⟨ht1,ht2,ht3,ht4,ht5⟩,rfl⟩,_,by omega,by omega,rfl⟩,rr,trivial⟩
structure houM (h:Hou):Prop where
 flt:fltK h.flt
 tar:tarM h.tar
theorem houM.ok {h:Hou}(k:houM h):houOk h:=⟨k.flt.ok,k.tar.ok⟩
def st2:List Sta:= [⟨[115,49],fun _=>0⟩,⟨[115,50],fun _=>0⟩]
def vk3:List (List UInt8):= [[118,49],[118,50],[118,51]]
def oQTnA56_12:OL:= [(0,[]),(1,[]),(2,[0,1]),(3,[0,1,2]),(4,[0,1]),(5,[]),(6,[])]
def oQTnA5_5:OL:= [(0,[]),(1,[]),(2,[0,1]),(3,[0,1,2]),(4,rg 4),(5,[0,1,2]),(6,[0,1]),(7,[0,1]),(8,[]),(9,[]),(10,[])]
def oQTnA5_7:OL:= [(0,[]),(1,[0]),(3,[0,1]),(2,[0,3]),(4,[0]),(5,[]),(6,[])]
theorem getD_left {α:Type}{m:List α}{x d:α}{j:Nat}(h:j<m.length):(m++ [x]).getD j d=m.getD j d:=by
 rw[List.getD_eq_getElem?_getD,List.getElem?_append_left h,List.getD_eq_getElem?_getD]
theorem getD_last {α:Type}{m:List α}{x d:α}:(m++ [x]).getD m.length d=x:=by
 rw[List.getD_eq_getElem?_getD,List.getElem?_append_right (Nat.le_refl _),Nat.sub_self];rfl
structure ratI (i:Nat)(f:Int)(m:List Rat):Prop where
 ok:∀j,j<m.length→ratE m j=0
 la:m.length=0∨∃k,k≤i∧k<3∧(m.getD (m.length - 1) rat0).cls=c3.getD k []∧(k=i→(m.getD (m.length - 1) rat0).to≤f)
theorem c3_key:∀i,i<3→isKeyB (c3.getD i [])=true:=by decide+kernel
theorem c3_less:∀i,i<3→∀k,k<3→k<i→Op.bytesLess (c3.getD i []) (c3.getD k [])=false∧c3.getD k []≠c3.getD i []:=by decide+kernel
theorem c3_irr:∀i,i<3→Op.bytesLess (c3.getD i []) (c3.getD i [])=false:=by decide+kernel
theorem ratI_up {i j:Nat}{f g:Int}{m:List Rat}(h:ratI i f m)(hij:i<j):ratI j g m:=⟨h.ok,by
 rcases h.la with h|⟨k,h1,h2,h3,h4⟩
 · exact .inl h
 · exact .inr ⟨k,by omega,h2,h3,fun e=>by omega⟩⟩
theorem ratI_to {i:Nat}{f g:Int}{m:List Rat}(h:ratI i f m)(hfg:f≤g):ratI i g m:=⟨h.ok,by
 rcases h.la with h|⟨k,h1,h2,h3,h4⟩
 · exact .inl h
 · exact .inr ⟨k,h1,h2,h3,fun e=>by have:=h4 e;omega⟩⟩
theorem ratI_snoc {i:Nat}{f:Int}{m:List Rat}(h:ratI i f m)(hi:i<3){x:Rat}(h1:x.cls=c3.getD i [])(h2:x.frm=f)(h3:0≤f)(h4:f<x.to)(h5:x.to≤4001)(h6:nums x){g:Int}(hg:x.to≤g):ratI i g (m++ [x]):=by
 refine⟨fun j hj=> ?_,.inr ⟨i,Nat.le_refl _,hi,?_,fun _=> ?_⟩⟩
 · rw [List.length_append,List.length_singleton]at hj;rcases Nat.lt_or_ge j m.length with q|q
   · have:=h.ok j q;unfold ratE at this ⊢;rw[getD_left q,getD_left (show j - 1<m.length by omega)];exact this
   · have hjm:j=m.length:=by omega
     subst hjm;unfold ratE;rw[getD_last]
     dsimp only
     rw[h1,c3_key i hi,if_neg (by simp),if_neg (fun c=>c ⟨by omega,by omega,h5,h6⟩)];rcases h.la with q0|⟨k,k1,k2,k3,k4⟩
     · rw[if_neg (fun c=>by omega),if_neg (fun c=>by omega)]
     · rcases Nat.eq_zero_or_pos m.length with q0|q0
       · rw[if_neg (fun c=>by omega),if_neg (fun c=>by omega)]
       rw[getD_left (show m.length - 1<m.length by omega),k3];have hq:=h.ok (m.length - 1) (by omega)
       have hft:(m.getD (m.length - 1) rat0).frm<(m.getD (m.length - 1) rat0).to:=by
        unfold ratE at hq
        dsimp only at hq
        by_cases c:0≤(m.getD (m.length - 1) rat0).frm∧(m.getD (m.length - 1) rat0).frm<(m.getD (m.length - 1) rat0).to∧(m.getD (m.length - 1) rat0).to≤4001∧nums (m.getD (m.length - 1) rat0)
        · exact c.2.1
        · exfalso;split at hq
          · exact absurd hq (by decide)
          · first
            |exact absurd hq (by decide)
            |(rw[if_pos c]at hq;exact absurd hq (by decide))
       rcases Nat.lt_or_ge k i with r|r
       · obtain⟨u1,u2⟩:=c3_less i hi k k2 r;rw[if_neg (fun c=>by rcases c.2 with d|d;(rw[u1]at d;cases d);exact u2 d.1),if_neg (fun c=>u2 c.2.1)]
       · have hki:k=i:=by omega
         subst hki;have:=k4 rfl;rw[if_neg (fun c=>by rcases c.2 with d|d;(rw[c3_irr k hi]at d;cases d);(have:=d.2;omega)),if_neg (fun c=>by have:=c.2.2;omega)]
 · rw[List.length_append,List.length_singleton,Nat.add_sub_cancel,getD_last];exact h1
 · rw[List.length_append,List.length_singleton,Nat.add_sub_cancel,getD_last];exact hg
set_option maxHeartbeats 4000000 in
theorem gRates (n:Nat)(L:Nat→Int)(hL:Rok n L)(a:Int)(h0:0≤a)(ha:a≤2^36):
 FSpec Tryz.prog 56 [.ptr 1000000 0] [(1000000,strm n L a)] (fun y r=>∃l:List Rat,∃b,(allK ratM 9 l∧ratsE l=0)∧(a≤b∧b≤a+100)∧y= .buf 3∧r= [(3,seqB 210 7 ratF rat0 l),(1000000,strm n L b)]):=by
 refine spec_of hT (C:= []) Tryz.func56 rfl Tryz.call56 rfl rfl rfl ?_;conv=>whnf
 refine LoopX.rule hT (C:= []) (ι:=Int×List Rat×Nat) (fun(b,l,i)=>(a≤b∧b≤a+30*i∧i≤3)∧allK ratM (3*i) l∧(i=0∧l= []∨1≤i∧ratI (i - 1) 6000 l))
  (fun(b,l,i)=>mkSt [(0,.ptr 1000000 0),(3,.buf 3),(8,.d (strs c3)),(9,.d (.int .i64 3)),(10,.d (.int .i64 i))] [(1000000,strm n L b),(3,seqB 210 7 ratF rat0 l)])
  (fun(_,_,i)=>3 - i) (a,[],0) ⟨⟨by simp,by simp,by simp⟩,⟨by simp,by simp⟩,.inl ⟨rfl,rfl⟩⟩ ?_ ?_
 · refine(Entails.nil 3 3 210 7 (rowF ratF rat0 []) rfl rfl (by decide)).trans (Entails.mk' [(1000000,1000000),(3,3)] rfl rfl ⟨lr,lr,SV.le_lit rfl rfl,lr,lr,trivial⟩ ⟨rr,rr,trivial⟩)
 rintro⟨b,l,i⟩ ⟨⟨p1,p2,p3⟩,p4,p5⟩;have p5:i=0∧l= []∨1≤i∧ratI (i - 1) 6000 l:=p5;have p1:a≤b:=p1;have p2:b≤a+30*i:=p2;have p3:i≤3:=p3;have e1:(i:Int).toNat=i:=Int.toNat_natCast i;have p4:allK ratM (3*i) l:=p4;have hc3:c3.length=3:=rfl;have hl1:l.length≤3*i:=p4.1;rcases Nat.lt_or_ge i 3 with hi|hi
 · have p6:∀f,ratI i f l:=fun f=>by
    rcases p5 with⟨e1,e2⟩|⟨e1,e2⟩
    · rw[e2];exact⟨fun j hj=>absurd hj (by simp),.inl rfl⟩
    · exact ratI_up e2 (by omega)
   conv=>whnf
   repeat' (first|(refine CallX.of (s33 n L hL _ ?_ ?_ [0,0,0,3] ?_ ?_) [(1000000,1000000)] rfl ⟨lr,SV.le_lit rfl rfl,trivial⟩ ⟨rr,trivial⟩ rfl rfl ?_;rotate_right;rintro x rout ⟨⟨u1,hu1,rfl⟩,⟨c,c1,c2,rfl⟩⟩;have hw1:=pkD hu1 (by decide);refine⟨rfl,?_⟩;conv=>whnf)|(refine CallX.of (s33 n L hL _ ?_ ?_ [0,1,1,2,3] ?_ ?_) [(1000000,1000000)] rfl ⟨lr,SV.le_lit rfl rfl,trivial⟩ ⟨rr,trivial⟩ rfl rfl ?_;rotate_right;rintro x rout ⟨⟨u2,hu2,rfl⟩,⟨c,c1,c2,rfl⟩⟩;refine⟨rfl,?_⟩;conv=>whnf)|((first|(refine br_intro ?_ ?_<;>intro hb<;>try simp only[brs]at hb)|refine rAx hT 12 oQTnA56_12 ?_|omega|refine sAx ?_|decide|assumption)<;>conv=>whnf))
   all_goals try(exfalso;omega)
   have hw2:0≤u2∧u2≤3:=by simp only[List.mem_cons,List.not_mem_nil,or_false]at hu2;omega
   have hw3:u1≤5000:=by omega
   have hkk:(c3.getD (i:Int).toNat []).length≤8:=mem_len (getD_mem (by omega)) rfl;obtain⟨cc,hcc⟩:∃cc:Int,cc=c:=⟨_,rfl⟩;obtain⟨ky,hky⟩:∃ky,ky=c3.getD (i:Int).toNat []:=⟨_,rfl⟩
   refine LoopX.rule hT (C:= []) (ι:=Int×List Rat×Int×Nat) (fun(d,m,f,k)=>(cc≤d∧d≤cc+6*k∧(k:Int)≤u2)∧allK ratM (3*i+k) m∧0≤f∧f≤5000∧ratI i f m)
    (fun(d,m,f,k)=>mkSt [(0,.ptr 1000000 0),(3,.buf 3),(5,.d (.str ky)),(6,.d (.int .i64 f)),(8,.d (strs c3)),(9,.d (.int .i64 3)),(10,.d (.int .i64 i)),(19,.d (.int .i64 u2)),(20,.d (.int .i64 k))] [(1000000,strm n L d),(3,seqB 210 7 ratF rat0 m)])
    (fun(_,_,_,k)=>u2.toNat - k) (cc,l,u1,0) ⟨⟨by simp,by simp,by show((0:Nat):Int)≤u2;omega⟩,p4,by show 0≤u1;omega,by show u1≤5000;omega,p6 u1⟩ (by subst hcc hky;exact(by exact eAx [(1000000,1000000),(3,3)])) ?_
   rintro⟨d,m,f,k⟩ ⟨⟨q1,q2,q3⟩,q4,q5,q6,q7⟩;have q7:ratI i f m:=q7;have q1:cc≤d:=q1;have q2:d≤cc+6*k:=q2;have q3:(k:Int)≤u2:=q3;have q4:allK ratM (3*i+k) m:=q4;have q5:0≤f:=q5;have q6:f≤5000:=q6;have hm1:m.length≤3*i+k:=q4.1;conv=>whnf
   repeat' (first|(refine CallX.of (s33 n L hL _ ?_ ?_ [1,5,20,4000] ?_ ?_) [(1000000,1000000)] rfl ⟨lr,SV.le_lit rfl rfl,trivial⟩ ⟨rr,trivial⟩ rfl rfl ?_;rotate_right;rintro x rout ⟨⟨u3,hu3,rfl⟩,⟨c,c1,c2,rfl⟩⟩;have hw4:0≤u3∧u3≤4000:=(by simp only[List.mem_cons,List.not_mem_nil,or_false]at hu3;omega);refine⟨rfl,?_⟩;conv=>whnf)|(refine CallX.of (s33 n L hL _ ?_ ?_ [-1,5,10,10,0] ?_ ?_) [(1000000,1000000)] rfl ⟨lr,SV.le_lit rfl rfl,trivial⟩ ⟨rr,trivial⟩ rfl rfl ?_;rotate_right;rintro x rout ⟨⟨u4,hu4,rfl⟩,⟨c,c1,c2,rfl⟩⟩;refine⟨rfl,?_⟩;conv=>whnf)|(refine CallX.of (s33 n L hL _ ?_ ?_ [-1,50,50,70,40] ?_ ?_) [(1000000,1000000)] rfl ⟨lr,SV.le_lit rfl rfl,trivial⟩ ⟨rr,trivial⟩ rfl rfl ?_;rotate_right;rintro x rout ⟨⟨u5,hu5,rfl⟩,⟨c,c1,c2,rfl⟩⟩;refine⟨rfl,?_⟩;conv=>whnf)|(refine CallX.of (s33 n L hL _ ?_ ?_ [-1,70,90,100] ?_ ?_) [(1000000,1000000)] rfl ⟨lr,SV.le_lit rfl rfl,trivial⟩ ⟨rr,trivial⟩ rfl rfl ?_;rotate_right;rintro x rout ⟨⟨u6,hu6,rfl⟩,⟨c,c1,c2,rfl⟩⟩;refine⟨rfl,?_⟩;conv=>whnf)|(refine CallX.of (s33 n L hL _ ?_ ?_ [-1,200,250,300] ?_ ?_) [(1000000,1000000)] rfl ⟨lr,SV.le_lit rfl rfl,trivial⟩ ⟨rr,trivial⟩ rfl rfl ?_;rotate_right;rintro x rout ⟨⟨u7,hu7,rfl⟩,⟨c,c1,c2,rfl⟩⟩;refine⟨rfl,?_⟩;conv=>whnf)|(refine CallX.of (s33 n L hL _ ?_ ?_ [0,0,0,2] ?_ ?_) [(1000000,1000000)] rfl ⟨lr,SV.le_lit rfl rfl,trivial⟩ ⟨rr,trivial⟩ rfl rfl ?_;rotate_right;rintro x rout ⟨⟨u8,hu8,rfl⟩,⟨c,c1,c2,rfl⟩⟩;have hw8:0≤u8∧u8≤2:=(by simp only[List.mem_cons,List.not_mem_nil,or_false]at hu8;omega);refine⟨rfl,?_⟩;conv=>whnf)|((first|(refine And.intro (by show inI64 (min (f+u3) 4001+u8);unfold inI64;omega) ?_)|(refine br_intro ?_ ?_<;>intro hb<;>try simp only[brs]at hb)|refine rAx hT 12 oQTnA56_12 ?_|omega|refine sAx ?_|decide|assumption)<;>conv=>whnf))
   · exact⟨(c,m,i+1),⟨⟨by omega,by show _≤a+30*((i+1:Nat):Int);omega,by omega⟩,allK_le q4 (by omega),.inr ⟨by omega,by show ratI (i+1 - 1) 6000 m;rw[Nat.add_sub_cancel];exact ratI_to q7 (by omega)⟩⟩,by show 3 - (i+1)<3 - i;omega,(by exact eAx [(1000000,1000000),(3,3)])⟩
   · have hnm:nums ⟨ky,f,min (f+u3) 4001,u4,u5,u6,u7⟩:=by
      simp only[List.mem_cons,List.not_mem_nil,or_false]at hu4 hu5 hu6 hu7;refine⟨?_,?_,?_,?_⟩<;>unfold numO<;>dsimp only<;>omega
     exact⟨(_,m++ [⟨ky,f,min (f+u3) 4001,u4,u5,u6,u7⟩],min (f+u3) 4001+u8,k+1),⟨⟨by omega,by show _≤cc+6*((k+1:Nat):Int);omega,by show((k+1:Nat):Int)≤u2;omega⟩,allK_snoc q4 (by omega) (by show ky.length≤8;rw[hky];exact hkk),by show 0≤min (f+u3) 4001+u8;omega,by show min (f+u3) 4001+u8≤5000;omega,ratI_snoc (x:=⟨ky,f,min (f+u3) 4001,u4,u5,u6,u7⟩) q7 hi (by rw[hky,e1]) rfl q5 (by show f<min (f+u3) 4001;simp only[cond_false]at*;omega) (by show min (f+u3) 4001≤4001;omega) hnm (by show min (f+u3) 4001≤min (f+u3) 4001+u8;omega)⟩,by show u2.toNat - (k+1)<u2.toNat - k;omega,
      Entails.mk' [(1000000,1000000),(3,54)] rfl rfl ⟨lr,lr,lr,lr,lr,lr,lr,lr,lr,trivial⟩ ⟨rr,Res.le_snocF rfl,trivial⟩⟩
   · exact⟨(d,m,i+1),⟨⟨by omega,by show _≤a+30*((i+1:Nat):Int);omega,by omega⟩,allK_le q4 (by omega),.inr ⟨by omega,by show ratI (i+1 - 1) 6000 m;rw[Nat.add_sub_cancel];exact ratI_to q7 (by omega)⟩⟩,by show 3 - (i+1)<3 - i;omega,(by exact eAx [(1000000,1000000),(3,3)])⟩
 · conv=>whnf
   repeat' (first|((first|(refine br_intro ?_ ?_<;>intro hb<;>try simp only[brs]at hb)|refine rAx hT 12 oQTnA56_12 ?_|omega|refine sAx ?_|decide|assumption)<;>conv=>whnf))
   all_goals try(exfalso;omega)
   have hle:ratsE l=0:=by
    unfold ratsE;rw[if_neg (by omega)];rcases p5 with⟨e1,e2⟩|⟨e1,e2⟩
    · omega
    · exact firstAt_zero e2.ok
   refine .ret _ ?_;conv=>whnf
   exact⟨[(3,seqB 210 7 ratF rat0 l),(1000000,strm n L _)],⟨l,b,⟨allK_le p4 (by omega),hle⟩,⟨by omega,by omega⟩,rfl,rfl⟩,rr,rr,trivial⟩
def clsI (i:Nat)(l:List Cls):Prop:=l.length=4∧∀j,j<4→(l.getD j cls0).key=(cls4.getD j cls0).key∧((l.getD j cls0).up= []∨j<i∧∃k,k<j∧(l.getD j cls0).up=(cls4.getD k cls0).key)
theorem clsI_K {i:Nat}{l:List Cls}(h:clsI i l):∀x ∈ l,clsK x:=fun x hx=>by
 obtain⟨j,hj,rfl⟩:=mem_getD (d:=cls0) hx;obtain⟨h1,h2⟩:=h.2 j (by have:=h.1;omega);have hk:∀k,k<4→(cls4.getD k cls0).key.length≤8:=by decide
 have hj4:j<4:=by have:=h.1;omega
 refine⟨by rw[h1];exact hk j hj4,?_⟩;rcases h2 with e|⟨_,k,hk1,e⟩
 · rw[e];simp
 · rw[e];exact hk k (by omega)
theorem clsI_E {i:Nat}{l:List Cls}(h:clsI i l):clssE l=0:=by
 obtain⟨h1,h2⟩:=h
 match l,h1 with
 | [a, b,c,d],_=>
   obtain⟨a1,a2⟩:=h2 0 (by omega);obtain⟨b1,b2⟩:=h2 1 (by omega);obtain⟨c1,c2⟩:=h2 2 (by omega);obtain⟨d1,d2⟩:=h2 3 (by omega);obtain⟨ak,au⟩:=a;obtain⟨bk,bu⟩:=b;obtain⟨ck,cu⟩:=c;obtain⟨dk,du⟩:=d;simp only[List.getD_cons_zero,List.getD_cons_succ]at a1 a2 b1 b2 c1 c2 d1 d2;have ha:au= []:=by rcases a2 with e|⟨_,k,hk,_⟩;exact e;omega
   have hb:bu= []∨bu=(cls4.getD 0 cls0).key:=by
    rcases b2 with e|⟨_,k,hk,e⟩
    · exact .inl e
    · have:k=0:=by omega
      subst this;exact .inr e
   have hc:cu= []∨cu=(cls4.getD 0 cls0).key∨cu=(cls4.getD 1 cls0).key:=by
    rcases c2 with e|⟨_,k,hk,e⟩
    · exact .inl e
    · rcases(show k=0∨k=1 by omega)with r|r<;>subst r
      · exact .inr (.inl e)
      · exact .inr (.inr e)
   have hd:du= []∨du=(cls4.getD 0 cls0).key∨du=(cls4.getD 1 cls0).key∨du=(cls4.getD 2 cls0).key:=by
    rcases d2 with e|⟨_,k,hk,e⟩
    · exact .inl e
    · rcases(show k=0∨k=1∨k=2 by omega)with r|r|r<;>subst r
      · exact .inr (.inl e)
      · exact .inr (.inr (.inl e))
      · exact .inr (.inr (.inr e))
   subst a1 b1 c1 d1 ha;rcases hb with e|e<;>subst e<;>rcases hc with e|e|e<;>subst e<;>rcases hd with e|e|e|e<;>subst e<;>decide+kernel
theorem clsI_upd {i:Nat}{l:List Cls}(h:clsI i l)(hi:i<4){j:Nat}(hj:j<i):clsI (i+1) (updL l i cls0 fun y=>{y with up:=(l.getD j cls0).key}):=by
 refine⟨by unfold updL;rw[List.length_set];exact h.1,fun q hq=> ?_⟩;have hl:=h.1;unfold updL;rw[List.getD_eq_getElem?_getD,List.getElem?_set]
 by_cases e:i=q
 · subst e;rw[if_pos rfl,if_pos (by omega)];exact⟨(h.2 i hi).1,.inr ⟨by omega,j,hj,(h.2 j (by omega)).1⟩⟩
 · rw[if_neg e,←List.getD_eq_getElem?_getD];obtain⟨h1,h2⟩:=h.2 q hq;exact⟨h1,h2.imp id fun h3=>⟨by omega,h3.2⟩⟩
theorem clsI_skip {i:Nat}{l:List Cls}(h:clsI i l):clsI (i+1) l:=⟨h.1,fun q hq=>⟨(h.2 q hq).1,(h.2 q hq).2.imp id fun h3=>⟨by omega,h3.2⟩⟩⟩
set_option maxHeartbeats 4000000 in
theorem gClss (n:Nat)(L:Nat→Int)(hL:Rok n L)(a:Int)(h0:0≤a)(ha:a≤2^38):
 FSpec Tryz.prog 26 [.ptr 1000000 0] [(1000000,strm n L a)] (fun y r=>∃l:List Cls,∃b,clsI 4 l∧(a≤b∧b≤a+8)∧y= .buf 9∧r= [(9,seqB 153 2 clsF cls0 l),(1000000,strm n L b)]):=by
 refine spec_of hT (C:= [9]) Tryz.func26 rfl Tryz.call26 rfl rfl rfl ?_;conv=>whnf
 refine LoopX.rule hT (C:= []) (ι:=Int×List Cls×Nat) (fun(b,l,i)=>(a≤b∧b≤a+2*i)∧i≤4∧clsI i l)
  (fun(b,l,i)=>mkSt [(0,.ptr 1000000 0),(3,.buf 9),(11,.d (.int .i64 4)),(12,.d (.int .i64 i))] [(1000000,strm n L b),(9,seqB 153 2 clsF cls0 l)])
  (fun(_,_,i)=>4 - i) (a,cls4,0) ⟨⟨by simp,by simp⟩,by simp,rfl,by decide⟩ ?_ ?_
 · exact Entails.mk' [(1000000,1000000),(9,9)] rfl rfl ⟨lr,lr,lr,lr,trivial⟩ ⟨rr,Res.le_lit rfl rfl,trivial⟩
 rintro⟨b,l,i⟩ ⟨⟨p1,p2⟩,p3,p45⟩;have p45:clsI i l:=p45;have p1:a≤b:=p1;have p2:b≤a+2*i:=p2;have p3:i≤4:=p3;have p4:l.length=4:=p45.1;have e1:(i:Int).toNat=i:=Int.toNat_natCast i;conv=>whnf
 repeat' (first|(refine CallX.of (s84 n L hL _ ?_ ?_ 3 ?_) [(1000000,1000000)] rfl ⟨lr,lr,trivial⟩ ⟨rr,trivial⟩ rfl rfl ?_;rotate_right;rintro x rout ⟨⟨w,rfl⟩,⟨c,c1,c2,rfl⟩⟩;refine⟨rfl,?_⟩;conv=>whnf)|(refine CallX.of (s86 n L hL _ ?_ ?_ _ ?_) [(1000000,1000000)] rfl ⟨lr,lr,trivial⟩ ⟨rr,trivial⟩ rfl rfl ?_;rotate_right;rintro x rout ⟨⟨j,hj1,hj2,hj3,rfl⟩,⟨c,c1,c2,rfl⟩⟩;refine⟨rfl,?_⟩;conv=>whnf)|((first|(refine br_intro ?_ ?_<;>intro hb<;>try simp only[brs]at hb)|omega|refine sAx ?_|decide|assumption)<;>conv=>whnf))
 · have p5:=clsI_K p45;have hu:clsK (l.getD j.toNat cls0):=p5 _ (getD_mem (by omega))
   refine⟨(c+1,updL l i cls0 (fun y=>{y with up:=(l.getD j.toNat cls0).key}),i+1),⟨⟨by omega,by show _≤a+2*((i+1:Nat):Int);omega⟩,by omega,clsI_upd p45 (by omega) (by omega)⟩,by show 4 - (i+1)<4 - i;omega,
    Entails.mk' [(1000000,1000000),(9,9)] rfl rfl ⟨lr,lr,lr,lr,trivial⟩ ⟨rr,?_,trivial⟩⟩
   exact Res.le_upd (fun y:Cls=>{y with up:=(l.getD j.toNat cls0).key}) (fun _=>rfl)
 · exact⟨(c,l,i+1),⟨⟨by omega,by show _≤a+2*((i+1:Nat):Int);omega⟩,by omega,clsI_skip p45⟩,by show 4 - (i+1)<4 - i;omega,(by exact eAx [(1000000,1000000),(9,9)])⟩
 · exact⟨(b,l,i+1),⟨⟨p1,by show _≤a+2*((i+1:Nat):Int);omega⟩,by omega,clsI_skip p45⟩,by show 4 - (i+1)<4 - i;omega,(by exact eAx [(1000000,1000000),(9,9)])⟩
 · refine .ret _ ?_;conv=>whnf
   exact⟨[(9,seqB 153 2 clsF cls0 l),(1000000,strm n L _)],⟨l,b,by rw[show(4:Nat)=i by omega];exact p45,⟨by omega,by omega⟩,rfl,rfl⟩,rr,rr,trivial⟩
set_option maxHeartbeats 4000000 in
theorem gRTariff (n:Nat)(L:Nat→Int)(hL:Rok n L)(a:Int)(h0:0≤a)(ha:a≤2^33):
 FSpec Tryz.prog 28 [.ptr 1000000 0] [(1000000,strm n L a)] (fun y r=>(∃t:Tar,(tarM t∧tarE t=0)∧y=tar t)∧Moved n L a 2200 r):=by
 refine spec_of hT (C:= []) Tryz.func28 rfl Tryz.call28 rfl rfl rfl ?_;conv=>whnf
 refine LoopX.rule hT (C:= []) (ι:=Int×Nat) (fun(b,i)=>a≤b∧b≤a+250*i∧i≤8)
  (fun(b,i)=>mkSt [(0,.ptr 1000000 0),(2,.ptr 2 0),(4,.d (.int .i64 i))] [(1000000,strm n L b),(2,.cells 38 [.d .nilsl,.d .nilsl,.d .nilsl,.d .nilsl,.d .nilsl])])
  (fun(_,i)=>8 - i) (a,0) ⟨by simp,by simp,by simp⟩ (by exact eAx [(1000000,1000000),(2,2)]) ?_
 rintro⟨b,i⟩ ⟨p1,p2,p3⟩;have p1:a≤b:=p1;have p2:b≤a+250*i:=p2;have p3:i≤8:=p3;conv=>whnf
 repeat' (first|(refine CallX.of (yTariff n L hL _ ?_ ?_) [(1000000,1000000)] rfl ⟨lr,trivial⟩ ⟨rr,trivial⟩ rfl rfl ?_;rotate_right;rintro x rout ⟨⟨t,ht,rfl⟩,⟨c,c1,c2,rfl⟩⟩;refine⟨rfl,?_⟩;conv=>whnf)|(refine CallX.pure (y84 _ ht.ok) ⟨lr,trivial⟩ rfl ?_;conv=>whnf)|(refine CallX.of (gRates n L hL _ ?_ ?_) [(1000000,1000000),(3,14)] rfl ⟨lr,trivial⟩ ⟨rr,trivial⟩ rfl rfl ?_;rotate_right;rintro x rout ⟨l,c,⟨hl,hlE⟩,⟨c1,c2⟩,rfl,rfl⟩;refine⟨rfl,?_⟩;conv=>whnf)|((first|(refine br_intro ?_ ?_<;>intro hb<;>try simp only[brs]at hb)|omega|refine sAx ?_|decide|assumption)<;>conv=>whnf))
 all_goals try omega
 · refine .ret _ ?_;conv=>whnf
   exact⟨[(1000000,strm n L _)],⟨⟨t,⟨ht,by simpa using hb⟩,rfl⟩,_,by omega,by omega,rfl⟩,rr,trivial⟩
 · exact⟨(c,i+1),⟨by omega,by show _≤a+250*((i+1:Nat):Int);omega,by omega⟩,by show 8 - (i+1)<8 - i;omega,(by exact eAx [(1000000,1000000),(2,2)])⟩
 · refine .freeze _ 14 210 7 _ _ rfl (.ent _ _ (Entails.froCell 2 14 7 _ 0 _ rfl rfl rfl) (.weak _ ?_));conv=>whnf
   exact⟨tar ⟨l,[],[],[],[]⟩,[(1000000,strm n L _)],SV.le_agg ⟨lr,SV.le_nilS,SV.le_nilS,SV.le_nilS,SV.le_nilS,trivial⟩,⟨⟨⟨l,[],[],[],[]⟩,⟨⟨allK_le hl (by omega),⟨by simp,by simp⟩,⟨by simp,by simp⟩,⟨by simp,by simp⟩,⟨by simp,by simp⟩⟩,by unfold tarE;rw[hlE];rfl⟩,rfl⟩,_,by omega,by omega,rfl⟩,rr,trivial⟩
def vehI (i:Nat)(l:List Veh):Prop:=l.length=i∧∀j,j<i→(l.getD j veh0).key=vk3.getD j []∧((l.getD j veh0).cls= [109,105,110,105]∨(l.getD j veh0).cls= [109,105,100,105])
theorem vehI_snoc {i:Nat}{l:List Veh}(h:vehI i l){k c:List UInt8}(hk:k=vk3.getD i [])(hc:c ∈ [[109,105,110,105],[109,105,110,105],[109,105,100,105]]):vehI (i+1) (l++ [⟨k,c⟩]):=by
 refine⟨by rw[List.length_append,h.1];rfl,fun j hj=> ?_⟩;have hl:=h.1;rcases Nat.lt_or_ge j l.length with q|q
 · rw[getD_left q];exact h.2 j (by omega)
 · have:j=l.length:=by omega
   subst this;rw[getD_last];refine⟨by rw[hl];exact hk,?_⟩;simp only[List.mem_cons,List.not_mem_nil,or_false]at hc;show c=_∨c=_;rcases hc with e|e|e
   · exact .inl e
   · exact .inl e
   · exact .inr e
theorem clIx_hit {cl:List Cls}(h:clsI 4 cl){c:List UInt8}(hc:c= [109,105,110,105]∨c= [109,105,100,105]):¬clIx cl c<0:=by
 have h3:=(h.2 3 (by omega)).1;have h2:=(h.2 2 (by omega)).1;have hl:=h.1;unfold clIx;rcases hc with e|e
 · have:=ixF_pos (p:=fun i=>(cl.getD i cls0).key==c) (n:=cl.length) (k:=3) (by omega) (by rw[h3,e];decide);omega
 · have:=ixF_pos (p:=fun i=>(cl.getD i cls0).key==c) (n:=cl.length) (k:=2) (by omega) (by rw[h2,e];decide);omega
theorem houE_right {cl:List Cls}{l:List Veh}{t:Tar}{d:Dea}(hc:clsI 4 cl)(hv:vehI 3 l)(ht:tarE t=0)(hd:deaE d=0):houE ⟨⟨st2,cl,l,[]⟩,t,d⟩=0:=by
 have h1:fltE0 ⟨st2,cl,l,[]⟩=0:=by
  unfold fltE0
  dsimp only
  rw[clsI_E hc,show stasE st2=0 by decide+kernel,if_neg (by have:=hv.1;omega)];rfl
 have h2:firstAt (vehE1 ⟨st2,cl,l,[]⟩) l.length=0:=by
  refine firstAt_zero fun j hj=> ?_
  have hl:=hv.1;obtain⟨k1,k2⟩:=hv.2 j (by omega);have hk:∀j,j<3→isKeyB (vk3.getD j [])=true∧(0<j→strLe (vk3.getD j []) (vk3.getD (j - 1) [])=false):=by decide+kernel
  obtain⟨q1,q2⟩:=hk j (by omega);unfold vehE1
  dsimp only
  rw[k1,q1,if_neg (by simp),if_neg (fun c=>by
   rw[(hv.2 (j - 1) (by omega)).1,q2 c.1]at c;exact absurd c.2 (by simp)),if_neg (clIx_hit hc k2)]
 have h3:fltE ⟨st2,cl,l,[]⟩=0:=by
  unfold fltE;rw[h1,if_neg (fun c=>c rfl)]
  dsimp only
  rw[h2,if_neg (fun c=>c rfl)];rfl
 unfold houE
 dsimp only
 rw[h3,ht,hd];rfl
set_option maxHeartbeats 4000000 in
theorem gRHouse (n:Nat)(L:Nat→Int)(hL:Rok n L)(a:Int)(h0:0≤a)(ha:a≤2^32):
 FSpec Tryz.prog 5 [.ptr 1000000 0] [(1000000,strm n L a)] (fun y r=>(∃h:Hou,(houM h∧houE h=0)∧y=hou h)∧Moved n L a 2400 r):=by
 refine spec_of hT (C:= []) Tryz.func5 rfl Tryz.call5 rfl rfl rfl ?_;conv=>whnf
 repeat' (first|(refine CallX.of (gClss n L hL _ ?_ ?_) [(1000000,1000000),(9,10)] rfl ⟨lr,trivial⟩ ⟨rr,trivial⟩ rfl rfl ?_;rotate_right;rintro x rout ⟨cl,c,hcl,⟨c1,c2⟩,rfl,rfl⟩;refine⟨rfl,?_⟩;conv=>whnf)|((first|(refine br_intro ?_ ?_<;>intro hb<;>try simp only[brs]at hb)|refine rAx hT 5 oQTnA5_5 ?_|refine rAx hT 7 oQTnA5_7 ?_|omega|refine sAx ?_|decide|assumption)<;>conv=>whnf))
 all_goals try omega
 obtain⟨cc,hcc⟩:∃cc:Int,cc=c:=⟨_,rfl⟩;have hclb:clsB cl:=⟨by have:=hcl.1;omega,clsI_K hcl⟩
 refine LoopX.rule hT (C:= []) (ι:=Int×List Veh×Nat) (fun(b,l,i)=>(cc≤b∧b≤cc+i∧i≤3)∧allK vehK i l∧vehI i l)
  (fun(b,l,i)=>mkSt [(0,.ptr 1000000 0),(2,.ptr 2 0),(3,.ptr 3 0),(12,.d (strs vk3)),(13,.d (.int .i64 3)),(14,.d (.int .i64 i))] [(1000000,strm n L b),(3,.cells 31 [.d (stas st2),.buf 10,.buf 20,.d .nilsl]),(10,seqB 153 2 clsF cls0 cl),(20,seqB 99 2 vehF veh0 l),(2,.cells 42 ([.d .nilsl,.d .nilsl,.d .nilsl,.d .nilsl,.d .nilsl,.d .nilsl,.d .nilsl,.d .nilsl,.d .nilsl]++(deaF dea0).map .d))])
  (fun(_,_,i)=>3 - i) (cc,[],0) ⟨⟨by simp,by simp,by simp⟩,⟨by simp,by simp⟩,rfl,by simp⟩ ?_ ?_
 · subst hcc
   exact(Entails.nilCell 3 20 99 2 2 (rowF vehF veh0 []) rfl rfl rfl (by decide) rfl).trans (Entails.mk' [(1000000,1000000),(3,3),(10,10),(20,20),(2,2)] rfl rfl ⟨lr,lr,lr,SV.le_lit rfl rfl,lr,lr,trivial⟩ ⟨rr,Res.le_cells rfl (by
    intro i x y hx hy
    match i with
    |0=>cases hx;cases hy;exact SV.le_lit rfl rfl
    |1=>cases hx;cases hy;exact lr
    |2=>cases hx;cases hy;exact lr
    |3=>cases hx;cases hy;exact lr
    |i+4=>cases hx),rr,rr,rr,trivial⟩)
 rintro⟨b,l,i⟩ ⟨⟨p1,p2,p3⟩,p4,p5⟩;have p5:vehI i l:=p5;have p1:cc≤b:=p1;have p2:b≤cc+i:=p2;have p3:i≤3:=p3;have p4:allK vehK i l:=p4;have hc3:vk3.length=3:=rfl;have hl1:l.length≤i:=p4.1;have hkk:(i:Int)<3→(vk3.getD (i:Int).toNat []).length≤8:=fun h=>mem_len (getD_mem (by omega)) rfl
 conv=>whnf
 repeat' (first|(refine CallX.of (s15 n L hL _ ?_ ?_ [[109,105,110,105],[109,105,110,105],[109,105,100,105]] (by simp) (by simp)) [(1000000,1000000)] rfl ⟨lr,SV.le_lit rfl rfl,trivial⟩ ⟨rr,trivial⟩ rfl rfl ?_;rotate_right;rintro x rout ⟨⟨v1,hv1,rfl⟩,⟨c,c1,c2,rfl⟩⟩;refine⟨rfl,?_⟩;conv=>whnf)|(refine CallX.of (gRTariff n L hL _ ?_ ?_) [(1000000,1000000)] rfl ⟨lr,trivial⟩ ⟨rr,trivial⟩ rfl rfl ?_;rotate_right;rintro x rout ⟨⟨t,⟨ht,htE⟩,rfl⟩,⟨c,c1,c2,rfl⟩⟩;refine⟨rfl,?_⟩;conv=>whnf)|(refine CallX.of (yRDeal n L hL _ ?_ ?_) [(1000000,1000000)] rfl ⟨lr,trivial⟩ ⟨rr,trivial⟩ rfl rfl ?_;rotate_right;rintro x rout ⟨⟨d,hd,rfl⟩,⟨c,c1,c2,rfl⟩⟩;refine⟨rfl,?_⟩;conv=>whnf)|((first|(refine br_intro ?_ ?_<;>intro hb<;>try simp only[brs]at hb)|refine rAx hT 5 oQTnA5_5 ?_|refine rAx hT 7 oQTnA5_7 ?_|omega|refine sAx ?_|decide|assumption)<;>conv=>whnf))
 all_goals try omega
 · exact⟨(c,l++ [⟨vk3.getD (i:Int).toNat [],v1⟩],i+1),⟨⟨by omega,by show _≤cc+((i+1:Nat):Int);omega,by omega⟩,allK_snoc p4 (by omega) ⟨hkk (by omega),mem_len hv1 rfl⟩,vehI_snoc p5 (by rw[Int.toNat_natCast]) hv1⟩,by show 3 - (i+1)<3 - i;omega,
    Entails.mk' [(1000000,1000000),(3,3),(10,10),(20,26),(2,2)] rfl rfl ⟨lr,lr,lr,lr,lr,lr,trivial⟩ ⟨rr,rr,rr,Res.le_snocF rfl,rr,trivial⟩⟩
 · refine .freeze _ 10 153 2 _ _ rfl (.freeze _ 20 99 2 _ _ rfl (.ent _ _ (Entails.froCell 2 10 2 _ 1 _ rfl rfl rfl) (.ent _ _ (Entails.froCell 2 20 2 _ 2 _ rfl rfl rfl) (.weak _ ?_))));conv=>whnf
   exact⟨hou ⟨⟨st2,cl,l,[]⟩,t,d⟩,[(1000000,strm n L _)],SV.le_agg ⟨lr,lr,lr,SV.le_nilS,lr,lr,lr,lr,lr,lr,lr,lr,lr,lr,lr,lr,trivial⟩,⟨⟨⟨⟨st2,cl,l,[]⟩,t,d⟩,⟨⟨⟨⟨by show st2.length≤4;decide,fun x hx=>by
    simp only[st2,List.mem_cons,List.not_mem_nil,or_false]at hx;rcases hx with rfl|rfl
    · show([115,49]:List UInt8).length≤8;decide
    · show([115,50]:List UInt8).length≤8;decide⟩,hclb,allK_le p4 (by omega),⟨by simp,by simp⟩⟩,ht⟩,houE_right hcl (by rw[show(3:Nat)=i by omega];exact p5) htE hd⟩,rfl⟩,_,by omega,by omega,rfl⟩,rr,trivial⟩
set_option maxHeartbeats 4000000 in
theorem gREnt (n:Nat)(L:Nat→Int)(hL:Rok n L)(a:Int)(h0:0≤a)(ha:a≤2^35)(m:Int)(hm1:0≤m)(hm2:m≤19):
 FSpec Tryz.prog 6 [.ptr 1000000 0,.d (.int .i64 m)] [(1000000,strm n L a),(1000009,KX)] (fun y r=>∃l:List Ent,∃b,(allK entG m.toNat l∧entsE l=0)∧(a≤b∧b≤a+5000)∧y= .d (ents l)∧r= [(1000000,strm n L b),(1000009,KX)]):=by
 refine spec_of hT (C:= []) Tryz.func6 rfl Tryz.call6 rfl rfl rfl ?_;conv=>whnf
 refine LoopX.rule hT (C:= []) (ι:=Int×Nat) (fun(b,k)=>(a≤b∧b≤a+1000*k)∧k≤5)
  (fun(b,k)=>mkSt [(0,.ptr 1000000 0),(1,.d (.int .i64 m)),(6,.d (.int .i64 k))] [(1000000,strm n L b),(1000009,KX)]) (fun(_,k)=>5 - k) (a,0) ⟨⟨by simp,by simp⟩,by simp⟩ (by exact eAx [(1000000,1000000),(1000009,1000009)]) ?_
 rintro⟨b,k⟩ ⟨⟨p1,p2⟩,p3⟩;have p1:a≤b:=p1;have p2:b≤a+1000*k:=p2;have p3:k≤5:=p3;conv=>whnf
 repeat' (first|((first|(refine oAx (lz9 n L hL b (by omega) (by omega) m hm1 hm2) [(1000000,1000000),(1000009,1000009),(5,10)] ?_;rintro x rout ⟨l,c,hl,⟨c1,c2⟩,rfl,rfl⟩;refine⟨rfl,?_⟩)|(refine CallX.freeze _ _ _ _ 10 52 4 _ _ rfl rfl ?_;refine pAx (lz12 l (entG_ok hl (by omega))) ?_)|(refine br_intro ?_ ?_<;>intro hb<;>try simp only[brs]at hb)|omega|refine sAx ?_|decide|assumption)<;>conv=>whnf))
 · refine .ret _ ?_;conv=>whnf
   exact⟨[(1000000,strm n L c),(1000009,KX)],⟨l,c,⟨hl,hb⟩,⟨by omega,by omega⟩,rfl,rfl⟩,rr,rr,trivial⟩
 · exact⟨(c,k+1),⟨⟨by show a≤c;omega,by show c≤a+1000*((k+1:Nat):Int);omega⟩,by show k+1≤5;omega⟩,by show 5 - (k+1)<5 - k;omega,(by exact eAx [(1000000,1000000),(1000009,1000009)])⟩
 · refine .weak _ ?_;conv=>whnf
   exact⟨_,[(1000000,strm n L b),(1000009,KX)],SV.le_nilS,⟨[],b,⟨⟨by simp,by simp⟩,rfl⟩,⟨by omega,by omega⟩,rfl,rfl⟩,rr,rr,trivial⟩
theorem evn_eq {a b:Evn}:a=b↔(((a.tm=b.tm∧a.veh=b.veh)∧a.st=b.st)∧a.kind=b.kind)∧a.to=b.to:=by cases a;cases b;simp[and_assoc]
instance:DecidableEq Evn:=fun _ _=>decidable_of_iff _ evn_eq.symm
theorem bok_eq {a b:Bok}:a=b↔((((a.key=b.key∧a.cls=b.cls)∧a.frm=b.frm)∧a.to=b.to)∧a.made=b.made)∧a.pct=b.pct:=by cases a;cases b;simp[and_assoc]
instance:DecidableEq Bok:=fun _ _=>decidable_of_iff _ bok_eq.symm
theorem offH_of {h:Hou}{l:List Ent}{k:Nat}(hh:houM h)(hE:houE h=0)(hG:allK entG k l)(hk:k≤400)(hlE:entsE l=0):offH h l:=
 ⟨hh.ok,entG_ok hG (by omega),by have:=hG.1;omega,fun x hx=>by have:=(hG.2 x hx).1.2;omega,hE,hlE⟩
theorem keysS_spec {has:List UInt8→Bool}{L:List (List UInt8)}(hL:∀k,has k=true→k ∈ L):(keysS has).Nodup∧(keysS has).Pairwise (fun a b=>a≤b)∧∀k,k ∈ keysS has↔has k=true:=by
 have ex : ∀L:List (List UInt8),∃K:List (List UInt8),K.Nodup∧∀k,k ∈ K↔k ∈ L∧has k=true:=fun L=>by
  induction L with
  |nil=>exact⟨[],List.nodup_nil,fun k=>⟨fun h=>(by cases h),fun h=>(by cases h.1)⟩⟩
  | cons x L ih=>
    obtain⟨K,h1,h2⟩:=ih
    by_cases q:has x=true∧x ∉ K
    · refine⟨x::K,List.nodup_cons.2 ⟨q.2,h1⟩,fun k=> ?_⟩;rw[List.mem_cons,List.mem_cons,h2];constructor
      · rintro(e|e)
        · exact⟨.inl e,by rw[e];exact q.1⟩
        · exact⟨.inr e.1,e.2⟩
      · rintro⟨e|e,f⟩
        · exact .inl e
        · exact .inr ⟨e,f⟩
    · refine⟨K,h1,fun k=> ?_⟩;rw[h2,List.mem_cons];constructor
      · exact fun e=>⟨.inr e.1,e.2⟩
      · rintro⟨e|e,f⟩
        · rw[e]at f ⊢
          by_cases z:x ∈ K
          · exact⟨((h2 x).1 z).1,f⟩
          · exact absurd ⟨f,z⟩ q
        · exact⟨e,f⟩
 obtain⟨K,h1,h2⟩:=ex L
 have h3:∀k,k ∈ K↔has k=true:=fun k=>by
  rw[h2];exact⟨fun h=>h.2,fun h=>⟨hL k h,h⟩⟩
 rw[←keysS_eq h1 h3];exact⟨(sortS_perm K).nodup_iff.2 h1,sortS_sorted K,fun k=>by rw[(sortS_perm K).mem_iff];exact h3 k⟩
theorem vmO_has {l:List Veh}{k:List UInt8}(h:(vmO l).has k=true):0≤veIx l k:=by
 have key:∀ (l:List Veh) (m:Mp (List UInt8)),(l.foldl (fun m v=>m.put v.key v.cls) m).has k=true→m.has k=true∨∃v ∈ l,v.key=k:=by
  intro l
  induction l with
  |nil=>intro m h;exact .inl h
  | cons v l ih=>
    intro m h;rcases ih _ h with q|⟨w,q1,q2⟩
    · have q:(decide (k=v.key)||m.has k)=true:=q;rw[Bool.or_eq_true,decide_eq_true_eq]at q;rcases q with q|q
      · exact .inr ⟨v,by simp,q.symm⟩
      · exact .inl q
    · exact .inr ⟨w,by simp[q1],q2⟩
 rcases key l _ h with q|⟨v,q1,q2⟩
 · cases q
 · obtain⟨j,hj,rfl⟩:=mem_getD (d:=veh0) q1;exact ixF_pos hj (by show((l.getD j veh0).key==k)=true;rw[q2];simp)
theorem smO_val {l:List Sta}{k:List UInt8}(h:(smO l).val k=true):∃s ∈ l,s.key=k:=by
 have key:∀ (l:List Sta) (m:Mp Bool),(l.foldl (fun m s=>m.put s.key true) m).val k=true→m.val k=true∨∃s ∈ l,s.key=k:=by
  intro l
  induction l with
  |nil=>intro m h;exact .inl h
  | cons v l ih=>
    intro m h;rcases ih _ h with q|⟨w,q1,q2⟩
    · have q:(if k=v.key then true else m.val k)=true:=q
      by_cases e:k=v.key
      · exact .inr ⟨v,by simp,e.symm⟩
      · rw[if_neg e]at q;exact .inl q
    · exact .inr ⟨w,by simp[q1],q2⟩
 rcases key l _ h with q|q
 · cases q
 · exact q
theorem smO_has {l:List Sta}{k:List UInt8}(h:(smO l).val k=true):stHas l k=true:=by
 obtain⟨s,h1,h2⟩:=smO_val h;obtain⟨j,hj,rfl⟩:=mem_getD (d:=sta0) h1;unfold stHas stIx;rw[decide_eq_true_eq];exact ixF_pos hj (by show((l.getD j sta0).key==k)=true;rw[h2];simp)
theorem fltE_parts {f:Flt}(h:fltE f=0):stasE f.sta=0∧vehS f.veh:=by
 unfold fltE at h
 by_cases q:fltE0 f=0
 · rw[if_neg (fun c=>c q)]at h
   by_cases r:firstAt (vehE1 f) f.veh.length=0
   · exact⟨firstE_mem q _ (List.mem_cons_self ..),vehE_sorted r⟩
   · rw[if_pos r]at h;exact absurd h r
 · rw[if_pos q]at h;exact absurd h q
theorem houE_flt {h:Hou}(hE:houE h=0):fltE h.flt=0:=firstE_mem hE _ (List.mem_cons_self ..)
theorem smO_nil {h:Hou}(hE:houE h=0):(smO h.flt.sta).val []=false:=by
 cases q:(smO h.flt.sta).val []with
 |false=>rfl
 | true=>
   obtain⟨s,h1,h2⟩:=smO_val q;obtain⟨j,hj,rfl⟩:=mem_getD (d:=sta0) h1;have hS:=(fltE_parts (houE_flt hE)).1;unfold stasE at hS
   by_cases c:50<h.flt.sta.length
   · rw[if_pos c]at hS;exact absurd hS (by decide)
   rw[if_neg c]at hS;have:=firstAt_all hS j hj;unfold stnE at this;rw[h2,if_pos (by decide)]at this;exact absurd this (by decide)
theorem log_right {h:Hou}{l:List Ent}(k:offH h l):(∀i,i<(isort evCmp (offZ h l).log).length→evG h.flt ((isort evCmp (offZ h l).log).getD i ev0))∧
 (∀i,0<i→i<(isort evCmp (offZ h l).log).length→evCmp ((isort evCmp (offZ h l).log).getD (i - 1) ev0) ((isort evCmp (offZ h l).log).getD i ev0)<0)∧∀v,chn ss0 (byV v (isort evCmp (offZ h l).log)):=by
 obtain⟨t1,h1,hb,hc⟩:=offZ_BC h (smO_nil k.hE) (ents_iff.1 k.lE);have hI:offI (2*l.length) l.length (offZ h l):=offN_I h _ _ l l.length (Nat.le_refl _);refine⟨fun i hi=> ?_,fun i h0 hi=> ?_,fun v=> ?_⟩
 · have hm:(isort evCmp (offZ h l).log).getD i ev0 ∈ (offZ h l).log:=(isort_perm evCmp _).mem_iff.1 (getD_mem hi);have g:=hb.rt _ hm;exact⟨g.tm,vmO_has g.veh,smO_has g.st,g.kind,g.to,fun q=>smO_has (g.lv q),g.ne⟩
 · have hs:=(pw_getD ev0).1 (isort_srt evCmp_ord (offZ h l).log) (i - 1) i (by omega) hi;have ha:(isort evCmp (offZ h l).log).Pairwise fun a b=>¬ (a.veh=b.veh∧a.tm=b.tm):=(isort_perm evCmp _).symm.pairwise hI.apt fun{a b} q e=>q ⟨e.1.symm,e.2.symm⟩
   have hn:=(pw_getD ev0).1 ha (i - 1) i (by omega) hi;have hz:evCmp ((isort evCmp (offZ h l).log).getD (i - 1) ev0) ((isort evCmp (offZ h l).log).getD i ev0)≠0:=fun e=>hn ⟨(evCmp_zero e).2,(evCmp_zero e).1⟩
   omega
 · rw[byV_sort hb hI.apt v];exact hb.ok v
noncomputable def hirZ (h:Hou)(l:List Ent):List Hir:=(keysS (offZ h l).his.has).map (hirG (offZ h l).his)
theorem hires_right {h:Hou}{l:List Ent}(k:offH h l):hiOk (hirZ h l)∧hirsE (hirZ h l)=0∧(hirZ h l).length≤l.length∧(∀g ∈ hirZ h l,g.legs.length≤2^20)∧∀i j,i<j→j<(hirZ h l).length→aprt ((hirZ h l).getD i hi0).legs ((hirZ h l).getD j hi0).legs:=by
 obtain⟨t1,h1,hb,hc⟩:=offZ_BC h (smO_nil k.hE) (ents_iff.1 k.lE);have hI:offI (2*l.length) l.length (offZ h l):=offN_I h _ _ l l.length (Nat.le_refl _);obtain⟨L,hL1,hL2⟩:=hI.fh;obtain⟨n1,n2,n3⟩:=keysS_spec hL2
 have hlen:(hirZ h l).length≤l.length:=by
  unfold hirZ;rw[List.length_map];have:=keysS_len hL2;omega
 have hget:∀i,i<(hirZ h l).length→∃g,(hirZ h l).getD i hi0=g∧(offZ h l).his.val ((keysS (offZ h l).his.has).getD i [])=some g∧hirE g=0:=fun i hi=>by
  have hi':i<(keysS (offZ h l).his.has).length:=by unfold hirZ at hi;rwa [List.length_map]at hi
  obtain⟨g,e1,e2⟩:=hI.his _ ((n3 _).1 (getD_mem (x:= []) hi'));refine⟨g,?_,e1,e2⟩;unfold hirZ;rw[List.getD_eq_getElem?_getD,List.getElem?_map,List.getElem?_eq_getElem hi'];show hirG (offZ h l).his (keysS (offZ h l).his.has)[i]=g;rw[List.getD_eq_getElem?_getD,List.getElem?_eq_getElem hi']at e1;unfold hirG;rw[show(offZ h l).his.val (keysS (offZ h l).his.has)[i]=some g from e1];rfl
 have hE:∀g ∈ hirZ h l,hirE g=0:=fun g hg=>by
  obtain⟨i,hi,rfl⟩:=mem_getD (d:=hi0) hg;obtain⟨g',e1,_,e3⟩:=hget i hi;rw[e1];exact e3
 refine⟨⟨by have:=k.len;omega,fun g hg=>(hirE_K (hE g hg)).1.k⟩,?_,hlen,fun g hg=>by have:=(hirE_K (hE g hg)).2.2.1;omega,fun i j hij hj=> ?_⟩
 · unfold hirsE;rw[if_neg (by have:=k.len;omega)];refine firstAt_zero fun i hi=> ?_
   unfold hirsE1;obtain⟨g,e1,e2,e3⟩:=hget i hi;rw[e1,e3,if_neg (fun c=>c rfl)]
   by_cases q:0<i
   · obtain⟨g2,f1,f2,f3⟩:=hget (i - 1) (by omega);rw[f1,hc.key _ _ e2,hc.key _ _ f2];have hi':i<(keysS (offZ h l).his.has).length:=by unfold hirZ at hi;rwa [List.length_map]at hi
     have a1:((keysS (offZ h l).his.has).getD (i - 1) [])≤((keysS (offZ h l).his.has).getD i []):=(pw_getD []).1 n2 (i - 1) i (by omega) hi';have a2:((keysS (offZ h l).his.has).getD (i - 1) [])≠((keysS (offZ h l).his.has).getD i []):=(pw_getD []).1 n1 (i - 1) i (by omega) hi'
     have a3:strLe ((keysS (offZ h l).his.has).getD i []) ((keysS (offZ h l).his.has).getD (i - 1) [])=false:=by
      unfold strLe;rw[Go.Proofs.bytesLess_eq,decide_eq_false (fun c=>(List.not_lt.2 a1) c),Bool.false_or];exact beq_eq_false_iff_ne.2 fun e=>a2 e.symm
     rw[a3,if_neg (fun c=>by cases c.2)]
   · rw[if_neg (fun c=>q c.1)]
 · obtain⟨g1,e1,e2,e3⟩:=hget i (by omega);obtain⟨g2,f1,f2,f3⟩:=hget j hj;rw[e1,f1];have hj':j<(keysS (offZ h l).his.has).length:=by unfold hirZ at hj;rwa [List.length_map]at hj
   exact hc.dis _ _ _ _ ((pw_getD []).1 n1 i j hij hj') e2 f2
def prt (l:List Ent)(i:Nat)(a b c:List Ent):Prop:=(a.Sublist (l.take i)∧b.Sublist (l.take i)∧c.Sublist (l.take i))∧∀e ∈ l.take i,e ∈ a∨e ∈ b∨e ∈ c
theorem prt_step {l:List Ent}{i:Nat}{a b c a' b' c':List Ent}(hi:i<l.length)(h:prt l i a b c)(ha:a' =a∨a' =a++ [l.getD i en0])(hb:b' =b∨b' =b++ [l.getD i en0])(hc:c' =c∨c' =c++ [l.getD i en0])
 (hx:a' =a++ [l.getD i en0]∨b' =b++ [l.getD i en0]∨c' =c++ [l.getD i en0]):prt l (i+1) a' b' c':=by
 have ht:l.take (i+1)=l.take i++ [l.getD i en0]:=by
  rw[List.take_succ_eq_append_getElem hi,List.getD_eq_getElem?_getD,List.getElem?_eq_getElem hi];rfl
 obtain⟨⟨h1,h2,h3⟩,h4⟩:=h;unfold prt;rw[ht]
 have one:∀ {p p':List Ent},p.Sublist (l.take i)→(p' =p∨p' =p++ [l.getD i en0])→p'.Sublist (l.take i++ [l.getD i en0]):=fun{p p'} hp hq=>by
  rcases hq with e|e
  · rw[e];exact hp.trans (List.sublist_append_left _ _)
  · rw[e];exact hp.append (List.Sublist.refl _)
 have mono:∀ {p p':List Ent} {e:Ent},(p' =p∨p' =p++ [l.getD i en0])→e ∈ p→e ∈ p':=fun{p p' e} hq he=>by
  rcases hq with q|q
  · rw[q];exact he
  · rw[q];exact List.mem_append_left _ he
 refine⟨⟨one h1 ha,one h2 hb,one h3 hc⟩,fun e he=> ?_⟩;rcases List.mem_append.1 he with q|q
 · rcases h4 e q with r|r|r
   · exact .inl (mono ha r)
   · exact .inr (.inl (mono hb r))
   · exact .inr (.inr (mono hc r))
 · rw[List.mem_singleton]at q;rw[q];rcases hx with r|r|r
   · left;rw[r];simp
   · right;left;rw[r];simp
   · right;right;rw[r];simp
structure Cla where
 a:List UInt8
 b:List UInt8
 kind:Int
 tm:Int
def claF:Cla→List DV:=fun c=> [.str c.a,.str c.b,.int .i64 c.kind,.int .i64 c.tm]
def cla0:Cla:=⟨[],[],0,0⟩
abbrev clas (l:List Cla):DV:=seqD 4 claF cla0 l
abbrev claB (l:List Cla):Res:=seqB 90 4 claF cla0 l
theorem getD_drop (l:List Hir)(m k:Nat):(l.drop m).getD k hi0=l.getD (m+k) hi0:=by
 rw[List.getD_eq_getElem?_getD,List.getElem?_drop,List.getD_eq_getElem?_getD]
set_option maxHeartbeats 4000000 in
theorem wClashes (l:List Hir)(hk:hiOk l)(hE:hirsE l=0)(hn:l.length≤500)(hL:∀h ∈ l,h.legs.length≤2^20)(hd:∀i j,i<j→j<l.length→aprt (l.getD i hi0).legs (l.getD j hi0).legs):
 FSpec Tryz.prog 23 [.d (hirs l)] [] (fun y r=>(∃out:List Cla,((∀c ∈ out,c.kind=2)∧out.length≤250000)∧y= .tup [.d (clas out),.d (.int .i64 0)])∧r= []):=by
 have c1:=z124 l hk;rw[hE]at c1;refine spec_of hT (C:= []) Tryz.func23 rfl Tryz.call23 rfl rfl rfl ?_;conv=>whnf
 repeat' (first|(refine CallX.exact (c1) rfl rfl ?_;rotate_right;conv=>whnf)|((first|(refine br_intro ?_ ?_<;>intro hb<;>try simp only[brs]at hb)|omega|refine sAx ?_|decide|assumption)<;>conv=>whnf))
 all_goals try(exfalso;contradiction)
 refine LoopX.rule hT (C:= []) (ι:=Nat×List Cla) (fun(i,out)=>i≤l.length∧(∀c ∈ out,c.kind=2)∧out.length≤500*i)
  (fun(i,out)=>mkSt [(0,.d (hirs l)),(5,.buf 5),(17,.d (hirs l)),(18,.d (.int .i64 l.length)),(19,.d (.int .i64 i))] [(5,claB out)])
  (fun(i,_)=>l.length - i) (0,[]) ⟨Nat.zero_le _,by simp,by simp⟩ ?_ ?_
 · exact(Entails.nil 5 5 90 4 (rowF claF cla0 []) rfl rfl (by decide)).trans (Entails.mk' [(5,5)] rfl rfl ⟨lr,lr,lr,lr,lr,trivial⟩ ⟨rr,trivial⟩)
 rintro⟨i,out⟩ ⟨hi,ho,hlo⟩;have hi:i≤l.length:=hi;have ho:∀c ∈ out,c.kind=2:=ho;have hlo:out.length≤500*i:=hlo;have e1:(i:Int).toNat=i:=Int.toNat_natCast i;rcases Nat.lt_or_ge i l.length with hin|hin
 · obtain ⟨A,hA⟩:∃A,A=l.getD (i:Int).toNat hi0:=⟨_,rfl⟩;have hAm:A ∈ l:=by rw[hA,e1];exact getD_mem hin
   have hAl:=hL A hAm;obtain⟨D,hD⟩:∃D,D=l.drop (i+1):=⟨_,rfl⟩;have hDl:D.length=l.length - (i+1):=by rw[hD,List.length_drop]
   conv=>whnf
   repeat' (first|((first|(refine br_intro ?_ ?_<;>intro hb<;>try simp only[brs]at hb)|omega|refine sAx ?_|decide|assumption)<;>conv=>whnf))
   all_goals try(exfalso;omega)
   refine LoopX.rule hT (C:= []) (ι:=Nat×List Cla) (fun(j,out)=>j≤D.length∧(∀c ∈ out,c.kind=2)∧out.length≤500*i+j)
    (fun(j,out)=>mkSt [(0,.d (hirs l)),(5,.buf 5),(7,.ptr 7 0),(17,.d (hirs l)),(18,.d (.int .i64 l.length)),(19,.d (.int .i64 i)),(27,.d (hirs D)),(28,.d (.int .i64 D.length)),(29,.d (.int .i64 j))] [(7,hcell A),(5,claB out)])
    (fun(j,_)=>D.length - j) (0,out) ⟨Nat.zero_le _,ho,by show out.length≤500*i+0;omega⟩ ?_ ?_
   · rw[hA]
     exact Entails.mk' [(7,7),(5,5)] rfl rfl ⟨lr,lr,lr,lr,lr,lr,SV.le_ro (by rw[hDl];omega) (fun k hk=>by
      show hiF (l.getD _ hi0)=hiF (D.getD k hi0);rw[hD,getD_drop]
      congr 2),SV.le_int (by rw[hDl];omega),lr,trivial⟩ ⟨rr,rr,trivial⟩
   clear ho hlo;rintro⟨j,out⟩ ⟨hj,ho,hlo⟩;have hj:j≤D.length:=hj;have ho:∀c ∈ out,c.kind=2:=ho;have hlo:out.length≤500*i+j:=hlo;have e2:(j:Int).toNat=j:=Int.toNat_natCast j;rcases Nat.lt_or_ge j D.length with hjn|hjn
   · obtain ⟨B,hB⟩:∃B,B=D.getD (j:Int).toNat hi0:=⟨_,rfl⟩;have hBm:B ∈ D:=by rw[hB,e2];exact getD_mem hjn
     have hBl:=hL B (by rw[hD]at hBm;exact List.mem_of_mem_drop hBm)
     have hAB:aprt A.legs B.legs:=by
      rw[hA,hB,e1,e2,hD,getD_drop];exact hd i (i+1+j) (by omega) (by omega)
     conv=>whnf
     repeat' (first|(rw[←hB];conv=>whnf)|((first|(refine oAx (wTog A B hAl hBl true) [] ?_;rintro x rout ⟨⟨n1,hn1,rfl⟩,rfl⟩;obtain rfl:n1= -1:=hn1 rfl hAB;refine⟨rfl,?_⟩)|(refine oAx (wTog A B hAl hBl false) [] ?_;rintro x rout ⟨⟨n2,hn2,rfl⟩,rfl⟩;refine⟨rfl,?_⟩)|(refine br_intro ?_ ?_<;>intro hb<;>try simp only[brs]at hb)|omega|refine sAx ?_|decide|assumption)<;>conv=>whnf))
     all_goals try(exfalso;omega)
     all_goals first
      |exact⟨(j+1,out),⟨by show j+1≤_;omega,ho,by show out.length≤500*i+(j+1);omega⟩,by show D.length - (j+1)<D.length - j;omega,Entails.mk' [(7,7),(5,5)] rfl rfl ⟨lr,lr,lr,lr,lr,lr,lr,lr,SV.le_int (by omega),trivial⟩ ⟨rr,rr,trivial⟩⟩
      | (refine⟨(j+1,out++ [⟨A.key,B.key,2,n2⟩]),⟨by show j+1≤_;omega,fun c hc=> ?_,by show(out++ [_]).length≤500*i+(j+1);rw[List.length_append,List.length_singleton];omega⟩,by show D.length - (j+1)<D.length - j;omega,Entails.mk' [(7,7),(5,65)] rfl rfl ⟨lr,lr,lr,lr,lr,lr,lr,lr,SV.le_int (by omega),trivial⟩ ⟨rr,?_,trivial⟩⟩
         · rcases List.mem_append.1 hc with q|q
           · exact ho c q
           · rw[List.mem_singleton]at q;rw[q]
         · exact Res.le_snocF (x:=(⟨A.key,B.key,2,n2⟩:Cla)) rfl)
   · conv=>whnf
     repeat' (first|((first|(refine br_intro ?_ ?_<;>intro hb<;>try simp only[brs]at hb)|omega|refine sAx ?_|decide|assumption)<;>conv=>whnf))
     all_goals try(exfalso;omega)
     exact⟨(i+1,out),⟨by show i+1≤_;omega,ho,by show out.length≤500*(i+1);omega⟩,by show l.length - (i+1)<l.length - i;omega,(by exact eAx [(5,5)])⟩
 · conv=>whnf
   repeat' (first|((first|(refine br_intro ?_ ?_<;>intro hb<;>try simp only[brs]at hb)|omega|refine sAx ?_|decide|assumption)<;>conv=>whnf))
   all_goals try(exfalso;omega)
   refine .freeze _ 5 90 4 _ _ rfl (.weak _ ?_);conv=>whnf
   exact⟨.tup [.d (clas out),.d (.int .i64 0)],[],SV.le_tup ⟨lr,lr,trivial⟩,⟨⟨out,⟨ho,by omega⟩,rfl⟩,rfl⟩,trivial⟩
theorem wCl25 (c:Cla):FSpec Tryz.prog 25 [.agg ((claF c).map .d)] [] (fun v q=>v= .d (.bool (decide (c.kind=1)))∧q= []):=by
 refine spec_of hT (C:= []) Tryz.func25 rfl Tryz.call25 rfl rfl rfl ?_;conv=>whnf
 refine .ret _ ?_;conv=>whnf
 refine⟨[],⟨?_,rfl⟩,trivial⟩;conv=>lhs;whnf
theorem wCl53 (l:List Cla)(hl:l.length≤2^40)(h:∀c ∈ l,c.kind=2):FSpec Tryz.prog 53 [.d (clas l),.fn 25 []] [] (fun v q=>v= .d (.int .i64 (-1))∧q= []):=by
 refine spec_of hT (C:= []) Tryz.func53 rfl Tryz.call53 rfl rfl rfl ?_;conv=>whnf
 refine LoopX.rule hT (C:= []) (ι:=Nat) (fun j=>j≤l.length) (fun j=>mkSt [(0,.d (clas l)),(1,.fn 25 []),(7,.d (.int .i64 l.length)),(8,.d (.int .i64 j))] []) (fun j=>l.length - j) 0 (Nat.zero_le _) (by exact eAx []) ?_;rintro j hj;have hj:j≤l.length:=hj;have e1:(j:Int).toNat=j:=Int.toNat_natCast j;rcases Nat.lt_or_ge j l.length with hjn|hjn
 · have c1:=wCl25 (l.getD (j:Int).toNat cla0);rw[h _ (by rw[e1];exact getD_mem hjn)]at c1;conv=>whnf
   repeat' (first|(refine CallX.exact (c1) rfl rfl ?_;rotate_right;conv=>whnf)|((first|(refine br_intro ?_ ?_<;>intro hb<;>try simp only[brs]at hb)|omega|refine sAx ?_|decide|assumption)<;>conv=>whnf))
   all_goals try(exfalso;omega)
   all_goals try(exfalso;contradiction)
   exact⟨j+1,by show j+1≤_;omega,by show l.length - (j+1)<l.length - j;omega,(by exact eAx [])⟩
 · conv=>whnf
   repeat' (first|((first|(refine br_intro ?_ ?_<;>intro hb<;>try simp only[brs]at hb)|omega|refine sAx ?_|decide|assumption)<;>conv=>whnf))
   all_goals try(exfalso;omega)
   refine .ret _ ?_;conv=>whnf
   refine⟨[],⟨?_,rfl⟩,trivial⟩;conv=>lhs;whnf
theorem wCl24 (l:List Cla)(hl:l.length≤2^40)(h:∀c ∈ l,c.kind=2):FSpec Tryz.prog 24 [.d (clas l),.fn 25 []] [] (fun v q=>v= .d (.bool false)∧q= []):=by
 refine spec_of hT (C:= []) Tryz.func24 rfl Tryz.call24 rfl rfl rfl ?_;conv=>whnf
 repeat' (first|((first|refine pAx (wCl53 l hl h) ?_|(refine br_intro ?_ ?_<;>intro hb<;>try simp only[brs]at hb)|omega|refine sAx ?_|decide|assumption)<;>conv=>whnf))
 refine .ret _ ?_;conv=>whnf
 refine⟨[],⟨?_,rfl⟩,trivial⟩;conv=>lhs;whnf
 rfl
end Go.Proofs.YtophabkpfpbadaaGreatDoor
