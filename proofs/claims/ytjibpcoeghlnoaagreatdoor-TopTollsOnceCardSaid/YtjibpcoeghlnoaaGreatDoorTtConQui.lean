/- TopTollsOnce is proved: for every input the law returns true, and its argument reads afterwards as it read before. Conditions: those of the given row alone. -/
import Derived.Test.YtjibpcoeghlnoaaGreatDoorTtConQua
import Derived.Test.YtjibpcoeghlnoaaGreatDoorTtEngTwo
import Derived.Shelf.Spec.SlicesGrow
import Derived.Test.YtjibpcoeghlnoaaGreatDoorTtConTwo
import Derived.Test.YtjibpcoeghlnoaaGreatDoorTtConOne
import Derived.Test.YtjibpcoeghlnoaaGreatDoorProg
set_option linter.unusedVariables false
set_option linter.unusedSimpArgs false
set_option maxRecDepth 20000
namespace Go.Proofs.YtjibpcoeghlnoaaGreatDoor
open Go Go.Eng
def oKTmB96_6:OL:= [(0,[]),(1,[0]),(2,[0]),(3,[0,1,2]),(4,[0,1,2]),(5,rg 5),(6,rg 6),(7,rg 5),(8,[0]),(9,[0]),(10,[]),(11,[])]
def extM (x:Ext):Prop:=x.key.length≤8
def feM (x:Fe):Prop:=x.a.length≤8∧x.b.length≤8
def codM (x:Cod):Prop:=x.key.length≤8∧x.cls.length≤8
theorem ext_cut {e:List Ext}{g:Nat→List DV}{m:Int}(h0:0≤m)(h2:m≤2)(hl:e.length=2)(q0:g 0=extF (e.getD 0 ext0))(q1:g 1=extF (e.getD 1 ext0)):SV.le (.d (.ro 4 m.toNat g)) (.d (exts (e.take m.toNat))):=
 SV.le_ro (by rw[List.length_take];omega) (fun i hi=>by
  have:i=0∨i=1:=by omega
  simp only[rowF,getD_take hi];rcases this with rfl|rfl
  · exact q0
  · exact q1)
set_option maxHeartbeats 4000000 in
theorem yExtras (n:Nat)(L:Nat→Int)(hL:Rok n L)(a:Int)(h0:0≤a)(ha:a≤2^36):
 FSpec Tryz.prog 95 [.ptr 1000000 0] [(1000000,strm n L a)] (fun y r=>(∃l:List Ext,allK extM 2 l∧y= .d (exts l))∧Moved n L a 20 r):=by
 refine spec_of hT (C:= [24]) Tryz.func95 rfl Tryz.call95 rfl rfl rfl ?_;conv=>whnf
 repeat' (first|(refine CallX.of (s33 n L hL _ ?_ ?_ [0,5,100] ?_ ?_) [(1000000,1000000)] rfl ⟨lr,SV.le_lit rfl rfl,trivial⟩ ⟨rr,trivial⟩ rfl rfl ?_;rotate_right;rintro x rout ⟨⟨u1,hu1,rfl⟩,⟨c,c1,c2,rfl⟩⟩;refine⟨rfl,?_⟩;conv=>whnf)|(refine CallX.of (s33 n L hL _ ?_ ?_ [0,2] ?_ ?_) [(1000000,1000000)] rfl ⟨lr,SV.le_lit rfl rfl,trivial⟩ ⟨rr,trivial⟩ rfl rfl ?_;rotate_right;rintro x rout ⟨⟨u2,hu2,rfl⟩,⟨c,c1,c2,rfl⟩⟩;refine⟨rfl,?_⟩;conv=>whnf)|(refine CallX.of (s33 n L hL _ ?_ ?_ [-1,0,7] ?_ ?_) [(1000000,1000000)] rfl ⟨lr,SV.le_lit rfl rfl,trivial⟩ ⟨rr,trivial⟩ rfl rfl ?_;rotate_right;rintro x rout ⟨⟨u3,hu3,rfl⟩,⟨c,c1,c2,rfl⟩⟩;refine⟨rfl,?_⟩;conv=>whnf)|(refine CallX.of (s33 n L hL _ ?_ ?_ [0,10] ?_ ?_) [(1000000,1000000)] rfl ⟨lr,SV.le_lit rfl rfl,trivial⟩ ⟨rr,trivial⟩ rfl rfl ?_;rotate_right;rintro x rout ⟨⟨u4,hu4,rfl⟩,⟨c,c1,c2,rfl⟩⟩;refine⟨rfl,?_⟩;conv=>whnf)|(refine CallX.of (s33 n L hL _ ?_ ?_ [0,3,50] ?_ ?_) [(1000000,1000000)] rfl ⟨lr,SV.le_lit rfl rfl,trivial⟩ ⟨rr,trivial⟩ rfl rfl ?_;rotate_right;rintro x rout ⟨⟨u5,hu5,rfl⟩,⟨c,c1,c2,rfl⟩⟩;refine⟨rfl,?_⟩;conv=>whnf)|(refine CallX.of (s33 n L hL _ ?_ ?_ [-1,-1,20,1000] ?_ ?_) [(1000000,1000000)] rfl ⟨lr,SV.le_lit rfl rfl,trivial⟩ ⟨rr,trivial⟩ rfl rfl ?_;rotate_right;rintro x rout ⟨⟨u6,hu6,rfl⟩,⟨c,c1,c2,rfl⟩⟩;refine⟨rfl,?_⟩;conv=>whnf)|(refine CallX.of (s84 n L hL _ ?_ ?_ 15 ?_) [(1000000,1000000)] rfl ⟨lr,lr,trivial⟩ ⟨rr,trivial⟩ rfl rfl ?_;rotate_right;rintro x rout ⟨⟨w,rfl⟩,⟨c,c1,c2,rfl⟩⟩;refine⟨rfl,?_⟩;conv=>whnf)|(refine CallX.of (s15 n L hL _ ?_ ?_ [[],[65],[109,97,112],[115,101,97,116]] (by simp) (by simp)) [(1000000,1000000)] rfl ⟨lr,SV.le_lit rfl rfl,trivial⟩ ⟨rr,trivial⟩ rfl rfl ?_;rotate_right;rintro x rout ⟨⟨v1,hv1,rfl⟩,⟨c,c1,c2,rfl⟩⟩;refine⟨rfl,?_⟩;conv=>whnf)|(refine CallX.of (s104 n L hL _ ?_ ?_ 0 1000000 ?_ ?_ ?_) [(1000000,1000000)] rfl ⟨lr,lr,lr,trivial⟩ ⟨rr,trivial⟩ rfl rfl ?_;rotate_right;rintro x rout ⟨⟨o1,ho1,ho2,rfl⟩,⟨c,c1,c2,rfl⟩⟩;refine⟨rfl,?_⟩;conv=>whnf)|(refine CallX.of (s104 n L hL _ ?_ ?_ (-1) 1000000 ?_ ?_ ?_) [(1000000,1000000)] rfl ⟨lr,lr,lr,trivial⟩ ⟨rr,trivial⟩ rfl rfl ?_;rotate_right;rintro x rout ⟨⟨o2,ho3,ho4,rfl⟩,⟨c,c1,c2,rfl⟩⟩;refine⟨rfl,?_⟩;conv=>whnf)|(refine CallX.of (s33 n L hL _ ?_ ?_ [0,1,2,2] ?_ ?_) [(1000000,1000000)] rfl ⟨lr,SV.le_lit rfl rfl,trivial⟩ ⟨rr,trivial⟩ rfl rfl ?_;rotate_right;rintro x rout ⟨⟨m,hm,rfl⟩,⟨c,c1,c2,rfl⟩⟩;have hm2:0≤m∧m≤2:=(by simp only[List.mem_cons,List.not_mem_nil,or_false]at hm;omega);refine⟨rfl,?_⟩;conv=>whnf)|((first|refine SliceX.first (lo:=none) rfl ?_|(refine br_intro ?_ ?_<;>intro hb<;>try simp only[brs]at hb)|omega|refine sAx ?_|decide|assumption)<;>conv=>whnf))
 all_goals try(exact h0)
 all_goals try omega
 · have hw:v1.length≤8:=mem_len hv1 rfl;refine .freeze _ 41 235 4 _ _ rfl (.weak _ ?_);conv=>whnf
   refine⟨.d (exts (([⟨[109,97,112],u1,u2,u3⟩,⟨v1,o1,0,o2⟩]:List Ext).take m.toNat)),[(1000000,strm n L _)],ext_cut hm2.1 hm2.2 rfl rfl rfl,⟨⟨_,⟨by rw[List.length_take];exact Nat.min_le_right _ _,fun x hx=> ?_⟩,rfl⟩,_,by omega,by omega,rfl⟩,rr,trivial⟩;have hx:=List.mem_of_mem_take hx;simp only[List.mem_cons,List.not_mem_nil,or_false]at hx;rcases hx with rfl|rfl
   · show([109,97,112]:List UInt8).length≤8;decide
   · exact hw
 · refine .freeze _ 41 235 4 _ _ rfl (.weak _ ?_);conv=>whnf
   refine⟨.d (exts (([⟨[109,97,112],u1,u2,u3⟩,⟨[115,101,97,116],u4,u5,u6⟩]:List Ext).take m.toNat)),[(1000000,strm n L _)],ext_cut hm2.1 hm2.2 rfl rfl rfl,⟨⟨_,⟨by rw[List.length_take];exact Nat.min_le_right _ _,fun x hx=> ?_⟩,rfl⟩,_,by omega,by omega,rfl⟩,rr,trivial⟩;have hx:=List.mem_of_mem_take hx;simp only[List.mem_cons,List.not_mem_nil,or_false]at hx;rcases hx with rfl|rfl
   · show([109,97,112]:List UInt8).length≤8;decide
   · show([115,101,97,116]:List UInt8).length≤8;decide
def p2F (p:List UInt8×List UInt8):List DV:= [.str p.1,.str p.2]
def f4:List (List UInt8×List UInt8):= [([115,49],[115,50]),([115,49],[115,51]),([115,50],[115,49]),([115,51],[115,50])]
theorem f4_len (i:Nat):(f4.getD i ([],[])).1.length≤8∧(f4.getD i ([],[])).2.length≤8:=by
 match i with
 |0=>decide
 |1=>decide
 |2=>decide
 |3=>decide
 |i+4=>simp[f4]
set_option maxHeartbeats 4000000 in
theorem yFees (n:Nat)(L:Nat→Int)(hL:Rok n L)(a:Int)(h0:0≤a)(ha:a≤2^36):
 FSpec Tryz.prog 96 [.ptr 1000000 0] [(1000000,strm n L a)] (fun y r=>(∃l:List Fe,allK feM 5 l∧y= .d (fes l))∧Moved n L a 20 r):=by
 refine spec_of hT (C:= []) Tryz.func96 rfl Tryz.call96 rfl rfl rfl ?_;conv=>whnf
 refine LoopX.rule hT (C:= []) (ι:=Int×List Fe×Nat) (fun(b,l,i)=>(a≤b∧b≤a+2*i∧i≤4)∧allK feM i l)
  (fun(b,l,i)=>mkSt [(0,.ptr 1000000 0),(3,.buf 3),(10,.d (seqD 2 p2F ([],[]) f4)),(11,.d (.int .i64 4)),(12,.d (.int .i64 i))] [(1000000,strm n L b),(3,seqB 239 3 feF fe0 l)])
  (fun(_,_,i)=>4 - i) (a,[],0) ⟨⟨by simp,by simp,by simp⟩,⟨by simp,by simp⟩⟩ ?_ ?_
 · refine(Entails.nil 3 3 239 3 (rowF feF fe0 []) rfl rfl (by decide)).trans (Entails.mk' [(1000000,1000000),(3,3)] rfl rfl ⟨lr,lr,SV.le_lit rfl rfl,lr,lr,trivial⟩ ⟨rr,rr,trivial⟩)
 rintro⟨b,l,i⟩ ⟨⟨p1,p2,p3⟩,p4⟩;have p1:a≤b:=p1;have p2:b≤a+2*i:=p2;have p3:i≤4:=p3;have p4:allK feM i l:=p4;have hc3:f4.length=4:=rfl;have hl1:l.length≤i:=p4.1;have e1:(i:Int).toNat=i:=Int.toNat_natCast i;have hf:=f4_len (i:Int).toNat;conv=>whnf
 repeat' (first|(refine CallX.of (s84 n L hL _ ?_ ?_ 3 ?_) [(1000000,1000000)] rfl ⟨lr,lr,trivial⟩ ⟨rr,trivial⟩ rfl rfl ?_;rotate_right;rintro x rout ⟨⟨w,rfl⟩,⟨c,c1,c2,rfl⟩⟩;refine⟨rfl,?_⟩;conv=>whnf)|(refine CallX.of (s33 n L hL _ ?_ ?_ [0,40,700] ?_ ?_) [(1000000,1000000)] rfl ⟨lr,SV.le_lit rfl rfl,trivial⟩ ⟨rr,trivial⟩ rfl rfl ?_;rotate_right;rintro x rout ⟨⟨u1,hu1,rfl⟩,⟨c,c1,c2,rfl⟩⟩;refine⟨rfl,?_⟩;conv=>whnf)|(refine CallX.of (s84 n L hL _ ?_ ?_ 15 ?_) [(1000000,1000000)] rfl ⟨lr,lr,trivial⟩ ⟨rr,trivial⟩ rfl rfl ?_;rotate_right;rintro x rout ⟨⟨w2,rfl⟩,⟨c,c1,c2,rfl⟩⟩;refine⟨rfl,?_⟩;conv=>whnf)|(refine CallX.of (s15 n L hL _ ?_ ?_ [[115,51],[65],[115,49]] (by simp) (by simp)) [(1000000,1000000)] rfl ⟨lr,SV.le_lit rfl rfl,trivial⟩ ⟨rr,trivial⟩ rfl rfl ?_;rotate_right;rintro x rout ⟨⟨v1,hv1,rfl⟩,⟨c,c1,c2,rfl⟩⟩;refine⟨rfl,?_⟩;conv=>whnf)|(refine CallX.of (s15 n L hL _ ?_ ?_ [[115,51],[115,57],[]] (by simp) (by simp)) [(1000000,1000000)] rfl ⟨lr,SV.le_lit rfl rfl,trivial⟩ ⟨rr,trivial⟩ rfl rfl ?_;rotate_right;rintro x rout ⟨⟨v2,hv2,rfl⟩,⟨c,c1,c2,rfl⟩⟩;refine⟨rfl,?_⟩;conv=>whnf)|(refine CallX.of (s104 n L hL _ ?_ ?_ 0 1000000 ?_ ?_ ?_) [(1000000,1000000)] rfl ⟨lr,lr,lr,trivial⟩ ⟨rr,trivial⟩ rfl rfl ?_;rotate_right;rintro x rout ⟨⟨o1,ho1,ho2,rfl⟩,⟨c,c1,c2,rfl⟩⟩;refine⟨rfl,?_⟩;conv=>whnf)|((first|(refine br_intro ?_ ?_<;>intro hb<;>try simp only[brs]at hb)|refine rAx hT 6 oKTmB96_6 ?_|omega|refine sAx ?_|decide|assumption)<;>conv=>whnf))
 all_goals try(exact h0)
 all_goals try omega
 · exact⟨(c,l++ [⟨(f4.getD (i:Int).toNat ([],[])).1,(f4.getD (i:Int).toNat ([],[])).2,u1⟩],i+1),⟨⟨by omega,by show _≤a+2*((i+1:Nat):Int);omega,by omega⟩,allK_snoc p4 (by omega) (show feM ⟨(f4.getD (i:Int).toNat ([],[])).1,(f4.getD (i:Int).toNat ([],[])).2,u1⟩from hf)⟩,by show 4 - (i+1)<4 - i;omega,
    Entails.mk' [(1000000,1000000),(3,29)] rfl rfl ⟨lr,lr,lr,lr,lr,trivial⟩ ⟨rr,Res.le_snocF rfl,trivial⟩⟩
 · exact⟨(c,l,i+1),⟨⟨by omega,by show _≤a+2*((i+1:Nat):Int);omega,by omega⟩,allK_le p4 (by omega)⟩,by show 4 - (i+1)<4 - i;omega,(by exact eAx [(1000000,1000000),(3,3)])⟩
 · refine .freeze _ 44 239 3 _ _ rfl (.weak _ ?_);conv=>whnf
   exact⟨.d (fes (l++ [⟨v1,v2,o1⟩])),[(1000000,strm n L _)],SV.le_ro (by simp) (rows_snocF rfl),⟨⟨_,allK_snoc p4 (by omega) ⟨mem_len hv1 rfl,mem_len hv2 rfl⟩,rfl⟩,_,by omega,by omega,rfl⟩,rr,trivial⟩
 · refine .freeze _ 3 239 3 _ _ rfl (.weak _ ?_);conv=>whnf
   exact⟨.d (fes l),[(1000000,strm n L _)],lr,⟨⟨_,allK_le p4 (by omega),rfl⟩,_,by omega,by omega,rfl⟩,rr,trivial⟩
def k3:List (List UInt8):= [[97,49,48],[98,50,48],[99,51,48]]
set_option maxHeartbeats 4000000 in
theorem yCodes (n:Nat)(L:Nat→Int)(hL:Rok n L)(a:Int)(h0:0≤a)(ha:a≤2^36):
 FSpec Tryz.prog 97 [.ptr 1000000 0] [(1000000,strm n L a)] (fun y r=>(∃l:List Cod,allK codM 3 l∧y= .d (cods l))∧Moved n L a 40 r):=by
 refine spec_of hT (C:= []) Tryz.func97 rfl Tryz.call97 rfl rfl rfl ?_;conv=>whnf
 refine LoopX.rule hT (C:= []) (ι:=Int×List Cod×Nat) (fun(b,l,i)=>(a≤b∧b≤a+8*i∧i≤3)∧allK codM i l)
  (fun(b,l,i)=>mkSt [(0,.ptr 1000000 0),(3,.buf 3),(8,.d (strs k3)),(9,.d (.int .i64 3)),(10,.d (.int .i64 i))] [(1000000,strm n L b),(3,seqB 241 6 codF cod0 l)])
  (fun(_,_,i)=>3 - i) (a,[],0) ⟨⟨by simp,by simp,by simp⟩,⟨by simp,by simp⟩⟩ ?_ ?_
 · refine(Entails.nil 3 3 241 6 (rowF codF cod0 []) rfl rfl (by decide)).trans (Entails.mk' [(1000000,1000000),(3,3)] rfl rfl ⟨lr,lr,SV.le_lit rfl rfl,lr,lr,trivial⟩ ⟨rr,rr,trivial⟩)
 rintro⟨b,l,i⟩ ⟨⟨p1,p2,p3⟩,p4⟩;have p1:a≤b:=p1;have p2:b≤a+8*i:=p2;have p3:i≤3:=p3;have p4:allK codM i l:=p4;have hc3:k3.length=3:=rfl;have hl1:l.length≤i:=p4.1;have hkk:(i:Int)<3→(k3.getD (i:Int).toNat []).length≤8:=fun h=>mem_len (getD_mem (by omega)) rfl
 conv=>whnf
 repeat' (first|(refine CallX.of (s84 n L hL _ ?_ ?_ 4 ?_) [(1000000,1000000)] rfl ⟨lr,lr,trivial⟩ ⟨rr,trivial⟩ rfl rfl ?_;rotate_right;rintro x rout ⟨⟨w,rfl⟩,⟨c,c1,c2,rfl⟩⟩;refine⟨rfl,?_⟩;conv=>whnf)|(refine CallX.of (s33 n L hL _ ?_ ?_ [0,0,3] ?_ ?_) [(1000000,1000000)] rfl ⟨lr,SV.le_lit rfl rfl,trivial⟩ ⟨rr,trivial⟩ rfl rfl ?_;rotate_right;rintro x rout ⟨⟨u1,hu1,rfl⟩,⟨c,c1,c2,rfl⟩⟩;have hw1:=pkD hu1 (by decide);refine⟨rfl,?_⟩;conv=>whnf)|(refine CallX.of (s15 n L hL _ ?_ ?_ [[],[],[109,105,110,105]] (by simp) (by simp)) [(1000000,1000000)] rfl ⟨lr,SV.le_lit rfl rfl,trivial⟩ ⟨rr,trivial⟩ rfl rfl ?_;rotate_right;rintro x rout ⟨⟨v1,hv1,rfl⟩,⟨c,c1,c2,rfl⟩⟩;refine⟨rfl,?_⟩;conv=>whnf)|(refine CallX.of (s33 n L hL _ ?_ ?_ [0,1,10,3000] ?_ ?_) [(1000000,1000000)] rfl ⟨lr,SV.le_lit rfl rfl,trivial⟩ ⟨rr,trivial⟩ rfl rfl ?_;rotate_right;rintro x rout ⟨⟨u2,hu2,rfl⟩,⟨c,c1,c2,rfl⟩⟩;have hw2:=pkD hu2 (by decide);refine⟨rfl,?_⟩;conv=>whnf)|(refine CallX.of (s33 n L hL _ ?_ ?_ [1,1,2,5] ?_ ?_) [(1000000,1000000)] rfl ⟨lr,SV.le_lit rfl rfl,trivial⟩ ⟨rr,trivial⟩ rfl rfl ?_;rotate_right;rintro x rout ⟨⟨u3,hu3,rfl⟩,⟨c,c1,c2,rfl⟩⟩;refine⟨rfl,?_⟩;conv=>whnf)|(refine CallX.of (s33 n L hL _ ?_ ?_ [1,100,100,250,1000] ?_ ?_) [(1000000,1000000)] rfl ⟨lr,SV.le_lit rfl rfl,trivial⟩ ⟨rr,trivial⟩ rfl rfl ?_;rotate_right;rintro x rout ⟨⟨u4,hu4,rfl⟩,⟨c,c1,c2,rfl⟩⟩;refine⟨rfl,?_⟩;conv=>whnf)|(refine CallX.of (s84 n L hL _ ?_ ?_ 15 ?_) [(1000000,1000000)] rfl ⟨lr,lr,trivial⟩ ⟨rr,trivial⟩ rfl rfl ?_;rotate_right;rintro x rout ⟨⟨w2,rfl⟩,⟨c,c1,c2,rfl⟩⟩;refine⟨rfl,?_⟩;conv=>whnf)|(refine CallX.of (s86 n L hL _ ?_ ?_ _ ?_) [(1000000,1000000)] rfl ⟨lr,lr,trivial⟩ ⟨rr,trivial⟩ rfl rfl ?_;rotate_right;rintro x rout ⟨⟨j,hj1,hj2,hj3,rfl⟩,⟨c,c1,c2,rfl⟩⟩;refine⟨rfl,?_⟩;conv=>whnf)|(refine CallX.of (s15 n L hL _ ?_ ?_ [(l.getD j.toNat cod0).key,[],[122,101,100],[97,49,48]] (by simp) (by simp)) [(1000000,1000000)] rfl ⟨lr,SV.le_lit rfl rfl,trivial⟩ ⟨rr,trivial⟩ rfl rfl ?_;rotate_right;rintro x rout ⟨⟨v2,hv2,rfl⟩,⟨c,c1,c2,rfl⟩⟩;refine⟨rfl,?_⟩;conv=>whnf)|(refine CallX.of (s104 n L hL _ ?_ ?_ 1 120 ?_ ?_ ?_) [(1000000,1000000)] rfl ⟨lr,lr,lr,trivial⟩ ⟨rr,trivial⟩ rfl rfl ?_;rotate_right;rintro x rout ⟨⟨o1,ho1,ho2,rfl⟩,⟨c,c1,c2,rfl⟩⟩;refine⟨rfl,?_⟩;conv=>whnf)|(refine CallX.of (s104 n L hL _ ?_ ?_ 1 1000 ?_ ?_ ?_) [(1000000,1000000)] rfl ⟨lr,lr,lr,trivial⟩ ⟨rr,trivial⟩ rfl rfl ?_;rotate_right;rintro x rout ⟨⟨o2,ho3,ho4,rfl⟩,⟨c,c1,c2,rfl⟩⟩;refine⟨rfl,?_⟩;conv=>whnf)|((first|(refine br_intro ?_ ?_<;>intro hb<;>try simp only[brs]at hb)|omega|refine sAx ?_|decide|assumption)<;>conv=>whnf))
 all_goals try(exact h0)
 all_goals try omega
 · exact⟨(c,l,i+1),⟨⟨by omega,by show _≤a+8*((i+1:Nat):Int);omega,by omega⟩,allK_le p4 (by omega)⟩,by show 3 - (i+1)<3 - i;omega,(by exact eAx [(1000000,1000000),(3,3)])⟩
 · exact⟨(c,l++ [⟨k3.getD (i:Int).toNat [],v1,u1,u1+u2,u3,u4⟩],i+1),⟨⟨by omega,by show _≤a+8*((i+1:Nat):Int);omega,by omega⟩,allK_snoc p4 (by omega) ⟨hkk (by omega),mem_len hv1 rfl⟩⟩,by show 3 - (i+1)<3 - i;omega,
    Entails.mk' [(1000000,1000000),(3,38)] rfl rfl ⟨lr,lr,lr,lr,lr,trivial⟩ ⟨rr,Res.le_snocF rfl,trivial⟩⟩
 · have hv:v2.length≤8:=by
    simp only[List.mem_cons,List.not_mem_nil,or_false]at hv2;rcases hv2 with rfl|rfl|rfl|rfl
    · exact(p4.2 _ (getD_mem (by omega))).1
    · decide
    · decide
    · decide
   refine .freeze _ 3 241 6 _ _ rfl (.weak _ ?_);conv=>whnf
   have hrow:=rows_updG (f:=codF) (d:=cod0) (rows_updG (rows_updG (l:=l) (j:=j.toNat) (off:=0) (ds:= [.str v2]) (fun _ _=>rfl) (fun y:Cod=>{y with key:=v2}) (fun _=>rfl)) (off:=4) (ds:= [.int .i64 o1]) (j:=j.toNat) (fun y:Cod=>{y with days:=o1}) (fun _=>rfl)) (off:=5) (ds:= [.int .i64 o2]) (j:=j.toNat) (fun y:Cod=>{y with per:=o2}) (fun _=>rfl);exact⟨.d (cods (updL (updL (updL l j.toNat cod0 fun y=>{y with key:=v2}) j.toNat cod0 fun y=>{y with days:=o1}) j.toNat cod0 fun y=>{y with per:=o2})),[(1000000,strm n L _)],SV.le_ro (by simp) (fun i hi=>hrow i (by simpa using hi)),⟨⟨_,allK_upd (g:=fun y:Cod=>{y with per:=o2}) (allK_upd (g:=fun y:Cod=>{y with days:=o1}) (allK_upd (g:=fun y:Cod=>{y with key:=v2}) (allK_le p4 (by omega)) (fun y hy=>⟨hv,hy.2⟩)) (fun y hy=>hy)) (fun y hy=>hy),rfl⟩,_,by omega,by omega,rfl⟩,rr,trivial⟩
 all_goals
  refine .freeze _ 3 241 6 _ _ rfl (.weak _ ?_);conv=>whnf
  exact⟨.d (cods l),[(1000000,strm n L _)],lr,⟨⟨_,allK_le p4 (by omega),rfl⟩,_,by omega,by omega,rfl⟩,rr,trivial⟩
end Go.Proofs.YtjibpcoeghlnoaaGreatDoor
namespace Go.Eng
open Go
variable {A:Amb} {G:Hp} {β:Env} {s:St} {t:Array Value} {w:World}
theorem Entails.bunchNew (e k:Nat)(hk:0<k)(hu:s.used 999999=false):Entails s (s.app ⟨none,.any,[(999999,some (.bunch e k []))],[999999]⟩):=by
 refine⟨fun A a w=> ?_⟩;rintro⟨h0,G,β,h⟩;exact⟨h0,G,_,h.bunchNew hk hu⟩
theorem MG.bunchFreeAll {q e k:Nat}:∀ (l:List (Value×Nat×(Nat→List DV))) {G:Hp} {s:St},MG A G β s t w→s.res q=some (.bunch e k l)→
 ∃G',G.le G'∧(∀p ∈ l,DV.Den G' (.ro k p.2.1 p.2.2) p.1)∧MG A G' β (s.app ⟨none,.any,[(q,some (.bunch e k []))],[]⟩) t w:=by
 intro l
 induction l with
 | nil =>
   intro G s h hq;refine⟨G,Hp.le_refl G,fun p hp=>(by cases hp),?_⟩
   have:s.app ⟨none,.any,[(q,some (.bunch e k []))],[]⟩=s:=by
    cases s with
    | mk tm rs us=>
      simp only[St.app,St.mk.injEq];refine⟨rfl,?_,rfl⟩;funext x
      simp only[putR_apply,lookR]
      by_cases c:x=q
      · subst c;simpa using hq.symm
      · rw[nbeq_ne c];rfl
   rw[this];exact h
 | cons p l ih=>
   obtain⟨v,n,get⟩:=p;intro G s h hq;obtain⟨G1,h1,h2,h3⟩:=h.bunchFree hq;obtain⟨G2,k1,k2,k3⟩:=ih h3 (by simp[St.app,putR_apply,lookR]);refine⟨G2,Hp.le_trans h1 k1,fun p hp=> ?_,?_⟩
   · rcases List.mem_cons.1 hp with rfl|hp
     · exact h2.mono k1
     · exact k2 p hp
   · have:(s.app ⟨none,.any,[(q,some (.bunch e k l))],[]⟩).app ⟨none,.any,[(q,some (.bunch e k []))],[]⟩=s.app ⟨none,.any,[(q,some (.bunch e k []))],[]⟩:=by
      simp only[St.app,St.mk.injEq];refine⟨rfl,?_,rfl⟩;funext x
      simp only[putR_apply,lookR]
      by_cases c:x=q
      · subst c;simp
      · rw[nbeq_ne c];rfl
     rw[this]at k3;exact k3
theorem Entails.bunchFro {q e k e2 k2 N:Nat}{l:List (Value×Nat×(Nat→List DV))}{get:Nat→List DV}(get':Nat→List DV)(hb:s.res 999999=some (.bunch e k l))(hq:s.res q=some (.buf e2 k2 N get))
 (hl:∀i,i<N→(get' i).length=(get i).length)
 (hg:∀ (i j:Nat) (x:DV),i<N→(get' i)[j]? =some x→(get i)[j]? =some x∨∃p ∈ l,(get i)[j]? =some (.opq p.1)∧∀G v,DV.Den G (.ro k p.2.1 p.2.2) v→DV.Den G x v):
 Entails s (s.app ⟨none,.any,[(999999,none),(q,some (.buf e2 k2 N get'))],[]⟩):=by
 refine⟨fun A a w=> ?_⟩;rintro⟨h0,G,β,h⟩;obtain⟨G',h1,h2,h3⟩:=MG.bunchFreeAll l h hb;have hne:¬q=999999:=fun c=>by rw[c,hb]at hq;cases hq
 have hq1:(s.app ⟨none,.any,[(999999,some (.bunch e k []))],[]⟩).res q=some (.buf e2 k2 N get):=by
  simp only[St.app,putR_apply,lookR];rw[nbeq_ne hne];exact hq
 obtain⟨v,xs,hv,hown,hk,hlen,hden⟩:=h3.rs _ _ hq1
 have h4:=h3.changeG (r':=.buf e2 k2 N get') hq1 rfl hv rfl rfl rfl rfl (fun _ _=>rfl) (fun b hb=>hb.to rfl) ⟨v,xs,hv,hown,hk,fun i hi=>(hl i hi).trans (hlen i hi),fun i j x hi hx=>by
  rcases hg i j x hi hx with c|⟨p,hp,c,hx⟩
  · exact hden i j x hi c
  · obtain⟨u,hu,hd⟩:=hden i j _ hi c
    cases hd with|opq _ _=>exact⟨_,hu,hx _ _ (h2 p hp)⟩⟩
 have h5:=h4.drop 999999;refine⟨h0,G',β,?_⟩
 have:((s.app ⟨none,.any,[(999999,some (.bunch e k []))],[]⟩).app ⟨none,.any,[(q,some (.buf e2 k2 N get'))],[]⟩).app ⟨none,.any,[(999999,none)],[]⟩=s.app ⟨none,.any,[(999999,none),(q,some (.buf e2 k2 N get'))],[]⟩:=by
  simp only[St.app,St.mk.injEq];refine⟨rfl,?_,rfl⟩;funext x
  simp only[putR_apply,lookR]
  by_cases c:x=999999
  · subst c;simp
  · rw[nbeq_ne c]
    by_cases d:x=q
    · subst d;simp
    · rw[nbeq_ne d];rfl
 rw[←this];exact h5
end Go.Eng
set_option maxRecDepth 20000
namespace Go.Proofs.YtjibpcoeghlnoaaGreatDoor
open Go Go.Eng
def oKTmC98_18:OL:= [(0,[]),(1,[0]),(2,[0]),(3,[0]),(4,[0]),(5,rg 5),(6,rg 6),(7,rg 5),(8,rg 5),(9,[0]),(10,[]),(11,[]),(12,[])]
def taxM (x:Tax):Prop:=x.key.length≤8∧x.on.length≤8
structure BTx where
 key:List UInt8
 per:Int
 v:Value
 on:List Int
 over:Bool
def btF (x:BTx):List DV:= [.str x.key,.int .i64 x.per,.opq x.v,.bool x.over]
def bt0:BTx:=⟨[],0,.nilFunc,[],false⟩
def bM (x:BTx):Prop:=x.key.length≤8∧x.on.length≤5
def bT (x:BTx):Tax:=⟨x.key,x.per,x.on,x.over⟩
def bE (x:BTx):Value×Nat×(Nat→List DV):=(x.v,x.on.length,rowF iF 0 x.on)
def bL (l:List BTx):List (Value×Nat×(Nat→List DV)):=(l.map bE).reverse
theorem bL_snoc (l:List BTx)(x:BTx):bL (l++ [x])=bE x::bL l:=by simp[bL]
theorem bL_mem {l:List BTx}{x:BTx}(h:x ∈ l):bE x ∈ bL l:=by
 unfold bL;rw[List.mem_reverse];exact List.mem_map.2 ⟨x,h,rfl⟩
theorem bL_split (l:List BTx){j:Nat}(h:j<l.length):∃A B,bL l=A++bE (l.getD j bt0)::B∧∀x,∀t ∈ l.set j x,t=x∨bE t ∈ A++B:=by
 have e:l=l.take j++l.getD j bt0::l.drop (j+1):=by
  rw[List.getD_eq_getElem?_getD,List.getElem?_eq_getElem h,Option.getD_some,←List.drop_eq_getElem_cons h,List.take_append_drop]
 refine⟨((l.drop (j+1)).map bE).reverse,((l.take j).map bE).reverse,?_,fun x t ht=> ?_⟩
 · conv=>lhs;rw[e]
   simp[bL]
 · rw[List.set_eq_take_append_cons_drop,if_pos h]at ht;rcases List.mem_append.1 ht with q|q
   · exact .inr (List.mem_append.2 (.inr (by rw[List.mem_reverse];exact List.mem_map.2 ⟨t,q,rfl⟩)))
   · rcases List.mem_cons.1 q with q|q
     · exact .inl q
     · exact .inr (List.mem_append.2 (.inl (by rw[List.mem_reverse];exact List.mem_map.2 ⟨t,q,rfl⟩)))
theorem tax_fro {s:St}{q N:Nat}{Bn:List (Value×Nat×(Nat→List DV))}{get:Nat→List DV}(hb:s.res 999999=some (.bunch 3 1 Bn))(hq:s.res q=some (.buf 244 4 N get))(l:List BTx)(hN:N=l.length)(hg:∀i,i<N→get i=rowF btF bt0 l i)
 (hB:∀t ∈ l,∃p ∈ Bn,p.1=t.v∧p.2.1=t.on.length∧∀i,i<p.2.1→p.2.2 i=rowF iF 0 t.on i):
 Entails s (s.app ⟨none,.any,[(999999,none),(q,some (.buf 244 4 N (rowF taxF tax0 (l.map bT))))],[]⟩):=by
 have hrow:∀i,i<N→rowF taxF tax0 (l.map bT) i=taxF (bT (l.getD i bt0)):=fun i hi=>by
  unfold rowF;congr 1
  rw[List.getD_eq_getElem?_getD,List.getElem?_map,List.getD_eq_getElem?_getD,List.getElem?_eq_getElem (by omega)];rfl
 refine Entails.bunchFro _ hb hq (fun i hi=>by rw[hrow i hi,hg i hi];rfl) (fun i j x hi hx=> ?_);rw[hrow i hi]at hx;rw[hg i hi];obtain⟨t,ht⟩:∃t,t=l.getD i bt0:=⟨_,rfl⟩;have hm:t ∈ l:=by rw[ht];exact getD_mem (by omega)
 show(btF (l.getD i bt0))[j]? =some x∨∃p ∈ Bn,(btF (l.getD i bt0))[j]? =some (.opq p.1)∧∀G v,DV.Den G (.ro 1 p.2.1 p.2.2) v→DV.Den G x v;rw[←ht]at hx ⊢
 match j with
 |0=>exact .inl hx
 |1=>exact .inl hx
 |3=>exact .inl hx
 | 2=>
   obtain⟨p,hp,h1,h2,h3⟩:=hB t hm;cases hx
   exact .inr ⟨p,hp,by rw[h1];rfl,fun G v hv=>DV.ro_ext h2 h3 hv⟩
 |j+4=>cases hx
def tk3:List (List UInt8):= [[99,105,116,121],[115,116,97,116,101],[118,97,116]]
theorem taxM_map {l:List BTx}{k:Nat}(hl:l.length≤k)(h:∀t ∈ l,t.key.length≤8∧t.on.length≤8):allK taxM k (l.map bT):=
 ⟨by rw[List.length_map];exact hl,fun x hx=>by
   obtain⟨t,ht,rfl⟩:=List.mem_map.1 hx
   exact h t ht⟩
set_option maxHeartbeats 4000000 in
theorem yTaxes (n:Nat)(L:Nat→Int)(hL:Rok n L)(a:Int)(h0:0≤a)(ha:a≤2^36):
 FSpec Tryz.prog 98 [.ptr 1000000 0] [(1000000,strm n L a)] (fun y r=>(∃l:List Tax,allK taxM 3 l∧y= .d (taxs l))∧Moved n L a 50 r):=by
 refine spec_of hT (C:= []) Tryz.func98 rfl Tryz.call98 rfl rfl rfl ?_;conv=>whnf
 refine LoopX.rule hT (C:= []) (ι:=Int×List BTx×Nat) (fun(b,l,i)=>(a≤b∧b≤a+10*i∧i≤3)∧allK bM i l)
  (fun(b,l,i)=>mkSt [(0,.ptr 1000000 0),(3,.buf 3),(10,.d (strs tk3)),(11,.d (.int .i64 3)),(12,.d (.int .i64 i))] [(1000000,strm n L b),(3,seqB 244 4 btF bt0 l),(999999,.bunch 3 1 (bL l))])
  (fun(_,_,i)=>3 - i) (a,[],0) ⟨⟨by simp,by simp,by simp⟩,⟨by simp,by simp⟩⟩ ?_ ?_
 · refine(Entails.bunchNew 3 1 (by decide) rfl).trans ((Entails.nil 3 3 244 4 (rowF btF bt0 []) rfl rfl (by decide)).trans (Entails.mk' [(1000000,1000000),(3,3),(999999,999999)] rfl rfl ⟨lr,lr,SV.le_lit rfl rfl,lr,lr,trivial⟩ ⟨rr,rr,rr,trivial⟩))
 rintro⟨b,l,i⟩ ⟨⟨p1,p2,p3⟩,p4⟩;have p1:a≤b:=p1;have p2:b≤a+10*i:=p2;have p3:i≤3:=p3;have p4:allK bM i l:=p4;have hc3:tk3.length=3:=rfl;have hl1:l.length≤i:=p4.1;have hkk:(i:Int)<3→(tk3.getD (i:Int).toNat []).length≤8:=fun h=>mem_len (getD_mem (by omega)) rfl
 rcases Nat.lt_or_ge i 3 with hi|hi
 · conv=>whnf
   repeat' (first|(refine CallX.of (s84 n L hL _ ?_ ?_ 3 ?_) [(1000000,1000000)] rfl ⟨lr,lr,trivial⟩ ⟨rr,trivial⟩ rfl rfl ?_;rotate_right;rintro x rout ⟨⟨w,rfl⟩,⟨c,c1,c2,rfl⟩⟩;refine⟨rfl,?_⟩;conv=>whnf)|(refine CallX.of (s33 n L hL _ ?_ ?_ [0,50,75,200,1000] ?_ ?_) [(1000000,1000000)] rfl ⟨lr,SV.le_lit rfl rfl,trivial⟩ ⟨rr,trivial⟩ rfl rfl ?_;rotate_right;rintro x rout ⟨⟨u1,hu1,rfl⟩,⟨c,c1,c2,rfl⟩⟩;refine⟨rfl,?_⟩;conv=>whnf)|(refine CallX.of (s84 n L hL _ ?_ ?_ 2 ?_) [(1000000,1000000)] rfl ⟨lr,lr,trivial⟩ ⟨rr,trivial⟩ rfl rfl ?_;rotate_right;rintro x rout ⟨⟨w2,rfl⟩,⟨c,c1,c2,rfl⟩⟩;refine⟨rfl,?_⟩;conv=>whnf)|((first|(refine br_intro ?_ ?_<;>intro hb<;>try simp only[brs]at hb)|refine rAx hT 18 oKTmC98_18 ?_|omega|refine sAx ?_|decide|assumption)<;>conv=>whnf))
   all_goals try(exact h0)
   all_goals try omega
   · exact⟨(c,l,i+1),⟨⟨by omega,by show _≤a+10*((i+1:Nat):Int);omega,by omega⟩,allK_le p4 (by omega)⟩,by show 3 - (i+1)<3 - i;omega,(by exact eAx [(1000000,1000000),(3,3),(999999,999999)])⟩
   · have hk:=hkk (by omega);obtain⟨ky,hky⟩:∃ky,ky=tk3.getD (i:Int).toNat []:=⟨_,rfl⟩;obtain⟨cc,hcc⟩:∃cc:Int,cc=c:=⟨_,rfl⟩;rw[←hky]at hk
     refine LoopX.rule hT (C:= []) (ι:=Int×List Int×Nat) (fun(d,on,k)=>(cc≤d∧d≤cc+k∧k≤5)∧on.length≤k)
      (fun(d,on,k)=>mkSt [(0,.ptr 1000000 0),(3,.buf 3),(6,.ptr 6 0),(10,.d (strs tk3)),(11,.d (.int .i64 3)),(12,.d (.int .i64 i)),(25,.d (ints [1,2,3,4,6])),(26,.d (.int .i64 5)),(27,.d (.int .i64 k))] [(1000000,strm n L d),(3,seqB 244 4 btF bt0 l),(999999,.bunch 3 1 (bL l)),(6,.cells 244 [.d (.str ky),.d (.int .i64 u1),.buf 7,.d (.bool w2)]),(7,seqB 3 1 iF 0 on)])
      (fun(_,_,k)=>5 - k) (cc,[],0) ⟨⟨by simp,by simp,by simp⟩,by simp⟩ ?_ ?_
     · subst hcc hky;refine(Entails.nilCell 6 7 3 1 2 (rowF iF 0 []) rfl rfl rfl (by decide) rfl).trans (Entails.mk' [(1000000,1000000),(3,3),(999999,999999),(6,6),(7,7)] rfl rfl ⟨lr,lr,lr,lr,lr,lr,SV.le_lit rfl rfl,lr,lr,trivial⟩ ⟨rr,rr,rr,?_,rr,trivial⟩);conv=>whnf
       refine⟨rfl,fun _ _ _ _ h=> ?_⟩;exact h
     rintro⟨d,on,k⟩ ⟨⟨q1,q2,q3⟩,q4⟩;have q1:cc≤d:=q1;have q2:d≤cc+k:=q2;have q3:k≤5:=q3;have q4:on.length≤k:=q4;conv=>whnf
     repeat' (first|(refine CallX.of (s84 n L hL _ ?_ ?_ 2 ?_) [(1000000,1000000)] rfl ⟨lr,lr,trivial⟩ ⟨rr,trivial⟩ rfl rfl ?_;rotate_right;rintro x rout ⟨⟨w3,rfl⟩,⟨c,c1,c2,rfl⟩⟩;refine⟨rfl,?_⟩;conv=>whnf)|(intro v;conv=>whnf)|((first|(refine br_intro ?_ ?_<;>intro hb<;>try simp only[brs]at hb)|refine rAx hT 18 oKTmC98_18 ?_|omega|refine sAx ?_|decide|assumption)<;>conv=>whnf))
     all_goals try(exact h0)
     all_goals try omega
     · exact⟨(c,on++ [([1,2,3,4,6]:List Int).getD (k:Int).toNat 0],k+1),⟨⟨by omega,by show _≤cc+((k+1:Nat):Int);omega,by omega⟩,by show(on++_).length≤k+1;rw[List.length_append];simp;omega⟩,by show 5 - (k+1)<5 - k;omega,
        Entails.mk' [(1000000,1000000),(3,3),(999999,999999),(6,6),(7,37)] rfl rfl ⟨lr,lr,lr,lr,lr,lr,lr,lr,lr,trivial⟩ ⟨rr,rr,rr,rr,Res.le_snocF rfl,trivial⟩⟩
     · exact⟨(c,on,k+1),⟨⟨by omega,by show _≤cc+((k+1:Nat):Int);omega,by omega⟩,by show on.length≤k+1;omega⟩,by show 5 - (k+1)<5 - k;omega,(by exact eAx [(1000000,1000000),(3,3),(999999,999999),(6,6),(7,7)])⟩
     · exact⟨(d,l++ [⟨ky,u1,v,on,w2⟩],i+1),⟨⟨by omega,by show _≤a+10*((i+1:Nat):Int);omega,by omega⟩,allK_snoc p4 (by omega) ⟨hk,by show on.length≤5;omega⟩⟩,by show 3 - (i+1)<3 - i;omega,
        Entails.mk' [(1000000,1000000),(3,43),(999999,999999)] rfl rfl ⟨lr,lr,lr,lr,lr,trivial⟩ ⟨rr,Res.le_snocF rfl,(by rw[bL_snoc];exact rr),trivial⟩⟩
 · have hi3:i=3:=by omega
   subst hi3;have hsp:=fun(j:Int) (h1:0≤j) (h2:j<l.length)=>bL_split l (j:=j.toNat) (by omega)
   have hon:∀j:Int,0≤j→j<l.length→(l.getD j.toNat bt0).on.length≤5:=fun j h1 h2=>(p4.2 _ (getD_mem (by omega))).2
   have hB:∀t ∈ l,∃p ∈ bL l,p.1=t.v∧p.2.1=t.on.length∧∀i,i<p.2.1→p.2.2 i=rowF iF 0 t.on i:=fun t ht=>⟨_,bL_mem ht,rfl,rfl,fun _ _=>rfl⟩
   conv=>whnf
   repeat' (first|(refine CallX.of (s84 n L hL _ ?_ ?_ 15 ?_) [(1000000,1000000)] rfl ⟨lr,lr,trivial⟩ ⟨rr,trivial⟩ rfl rfl ?_;rotate_right;rintro x rout ⟨⟨w,rfl⟩,⟨c,c1,c2,rfl⟩⟩;refine⟨rfl,?_⟩;conv=>whnf)|(refine CallX.of (s86 n L hL _ ?_ ?_ 3 ?_) [(1000000,1000000)] rfl ⟨lr,lr,trivial⟩ ⟨rr,trivial⟩ rfl rfl ?_;rotate_right;rintro x rout ⟨⟨m,hm1,hm2,hm3,rfl⟩,⟨c,c1,c2,rfl⟩⟩;refine⟨rfl,?_⟩;conv=>whnf)|(refine CallX.of (s86 n L hL _ ?_ ?_ _ ?_) [(1000000,1000000)] rfl ⟨lr,lr,trivial⟩ ⟨rr,trivial⟩ rfl rfl ?_;rotate_right;rintro x rout ⟨⟨j,hj1,hj2,hj3,rfl⟩,⟨c,c1,c2,rfl⟩⟩;refine⟨rfl,?_⟩;conv=>whnf)|(refine CallX.of (s15 n L hL _ ?_ ?_ [[],[99,105,116,121],[65]] (by simp) (by simp)) [(1000000,1000000)] rfl ⟨lr,SV.le_lit rfl rfl,trivial⟩ ⟨rr,trivial⟩ rfl rfl ?_;rotate_right;rintro x rout ⟨⟨v1,hv1,rfl⟩,⟨c,c1,c2,rfl⟩⟩;refine⟨rfl,?_⟩;conv=>whnf)|(refine CallX.of (s104 n L hL _ ?_ ?_ 0 1000 ?_ ?_ ?_) [(1000000,1000000)] rfl ⟨lr,lr,lr,trivial⟩ ⟨rr,trivial⟩ rfl rfl ?_;rotate_right;rintro x rout ⟨⟨o1,ho1,ho2,rfl⟩,⟨c,c1,c2,rfl⟩⟩;refine⟨rfl,?_⟩;conv=>whnf)|(refine CallX.of (s33 n L hL _ ?_ ?_ [0,5,6,7,1] ?_ ?_) [(1000000,1000000)] rfl ⟨lr,SV.le_lit rfl rfl,trivial⟩ ⟨rr,trivial⟩ rfl rfl ?_;rotate_right;rintro x rout ⟨⟨u1,hu1,rfl⟩,⟨c,c1,c2,rfl⟩⟩;refine⟨rfl,?_⟩;conv=>whnf)|((first|(obtain⟨A,B,hAB,hset⟩:=hsp j hj1 (hj2 (by omega));refine⟨A,_,_,B,hAB,?_⟩)|(refine And.intro (by have:=hon j hj1 (hj2 (by omega));show((l.getD j.toNat bt0).on.length+1)*8≤140737488355328;omega) ?_))<;>conv=>whnf)|(intro v';conv=>whnf)|((first|(refine br_intro ?_ ?_<;>intro hb<;>try simp only[brs]at hb)|refine rAx hT 18 oKTmC98_18 ?_|omega|refine sAx ?_|decide|assumption)<;>conv=>whnf))
   all_goals try(exact h0)
   all_goals try omega
   · have hw:v1.length≤8:=mem_len hv1 rfl;refine .ent _ _ (tax_fro (q:=3) rfl rfl (updL l j.toNat bt0 fun y=>{y with key:=v1}) (by simp) (fun i hi=>rows_updG (f:=btF) (d:=bt0) (l:=l) (j:=j.toNat) (off:=0) (ds:= [.str v1]) (fun _ _=>rfl) (fun y:BTx=>{y with key:=v1}) (fun _=>rfl) i (by simpa using hi)) (fun t ht=> ?_)) (.freeze _ 3 244 4 _ _ rfl (.weak _ ?_))
     · rcases List.mem_or_eq_of_mem_set ht with q|rfl
       · exact hB t q
       · exact hB (l.getD j.toNat bt0) (getD_mem (by omega))
     conv=>whnf
     exact⟨.d (taxs ((updL l j.toNat bt0 fun y=>{y with key:=v1}).map bT)),[(1000000,strm n L _)],SV.le_ro (by simp) (fun _ _=>rfl),⟨⟨_,taxM_map (by simpa using p4.1) (fun t ht=>by
      rcases List.mem_or_eq_of_mem_set ht with q|rfl
      · exact⟨(p4.2 t q).1,Nat.le_trans (p4.2 t q).2 (by decide)⟩
      · exact⟨hw,Nat.le_trans (p4.2 _ (getD_mem (by omega))).2 (by decide)⟩),rfl⟩,_,by omega,by omega,rfl⟩,rr,trivial⟩
   · refine .ent _ _ (tax_fro (q:=3) rfl rfl (updL l j.toNat bt0 fun y=>{y with per:=o1}) (by simp) (fun i hi=>rows_updG (f:=btF) (d:=bt0) (l:=l) (j:=j.toNat) (off:=1) (ds:= [.int .i64 o1]) (fun _ _=>rfl) (fun y:BTx=>{y with per:=o1}) (fun _=>rfl) i (by simpa using hi)) (fun t ht=> ?_)) (.freeze _ 3 244 4 _ _ rfl (.weak _ ?_))
     · rcases List.mem_or_eq_of_mem_set ht with q|rfl
       · exact hB t q
       · exact hB (l.getD j.toNat bt0) (getD_mem (by omega))
     conv=>whnf
     exact⟨.d (taxs ((updL l j.toNat bt0 fun y=>{y with per:=o1}).map bT)),[(1000000,strm n L _)],SV.le_ro (by simp) (fun _ _=>rfl),⟨⟨_,taxM_map (by simpa using p4.1) (fun t ht=>by
      rcases List.mem_or_eq_of_mem_set ht with q|rfl
      · exact⟨(p4.2 t q).1,Nat.le_trans (p4.2 t q).2 (by decide)⟩
      · exact⟨(p4.2 _ (getD_mem (by omega))).1,Nat.le_trans (p4.2 _ (getD_mem (by omega))).2 (by decide)⟩),rfl⟩,_,by omega,by omega,rfl⟩,rr,trivial⟩
   · have hon:=hon j hj1 (hj2 (by omega));refine .ent _ _ (tax_fro (q:=3) rfl rfl (updL l j.toNat bt0 fun y=>{y with v:=v',on:=y.on++ [u1]}) (by simp) (fun i hi=>rows_updG (f:=btF) (d:=bt0) (l:=l) (j:=j.toNat) (off:=2) (ds:= [.opq v']) (fun _ _=>rfl) (fun y:BTx=>{y with v:=v',on:=y.on++ [u1]}) (fun _=>rfl) i (by simpa using hi)) (fun t ht=> ?_)) (.freeze _ 3 244 4 _ _ rfl (.weak _ ?_))
     · rcases hset _ t ht with rfl|q
       · exact⟨_,List.mem_cons_self,rfl,by simp,fun i hi=>rows_snocF (f:=iF) (d:=0) (l:=(l.getD j.toNat bt0).on) (x:=u1) (h:=fun i=> [[DV.int .i64 u1]].getD i []) rfl i hi⟩
       · exact⟨_,List.mem_cons_of_mem _ q,rfl,rfl,fun _ _=>rfl⟩
     conv=>whnf
     exact⟨.d (taxs ((updL l j.toNat bt0 fun y=>{y with v:=v',on:=y.on++ [u1]}).map bT)),[(1000000,strm n L _)],SV.le_ro (by simp) (fun _ _=>rfl),⟨⟨_,taxM_map (by simpa using p4.1) (fun t ht=>by
      rcases List.mem_or_eq_of_mem_set ht with q|rfl
      · exact⟨(p4.2 t q).1,Nat.le_trans (p4.2 t q).2 (by decide)⟩
      · exact⟨(p4.2 _ (getD_mem (by omega))).1,by show(_++ [u1]).length≤8;rw[List.length_append,List.length_singleton];omega⟩),rfl⟩,_,by omega,by omega,rfl⟩,rr,trivial⟩
   all_goals
    refine .ent _ _ (tax_fro (q:=3) rfl rfl l rfl (fun _ _=>rfl) hB) (.freeze _ 3 244 4 _ _ rfl (.weak _ ?_));conv=>whnf
    exact⟨.d (taxs (l.map bT)),[(1000000,strm n L _)],SV.le_ro (by simp) (fun _ _=>rfl),⟨⟨_,taxM_map p4.1 (fun t q=>⟨(p4.2 t q).1,Nat.le_trans (p4.2 t q).2 (by decide)⟩),rfl⟩,_,by omega,by omega,rfl⟩,rr,trivial⟩
def dea (d:Dea):SV:=.agg ((deaF d).map .d)
set_option maxHeartbeats 4000000 in
theorem yDeal (n:Nat)(L:Nat→Int)(hL:Rok n L)(a:Int)(h0:0≤a)(ha:a≤2^37):
 FSpec Tryz.prog 64 [.ptr 1000000 0] [(1000000,strm n L a)] (fun y r=>(∃d:Dea,y=dea d)∧Moved n L a 20 r):=by
 refine spec_of hT (C:= []) Tryz.func64 rfl Tryz.call64 rfl rfl rfl ?_;conv=>whnf
 repeat' (first|(refine CallX.of (s33 n L hL _ ?_ ?_ [0,100,200,10000] ?_ ?_) [(1000000,1000000)] rfl ⟨lr,SV.le_lit rfl rfl,trivial⟩ ⟨rr,trivial⟩ rfl rfl ?_;rotate_right;rintro x rout ⟨⟨u1,hu1,rfl⟩,⟨c,c1,c2,rfl⟩⟩;refine⟨rfl,?_⟩;conv=>whnf)|(refine CallX.of (s33 n L hL _ ?_ ?_ [0,2,30] ?_ ?_) [(1000000,1000000)] rfl ⟨lr,SV.le_lit rfl rfl,trivial⟩ ⟨rr,trivial⟩ rfl rfl ?_;rotate_right;rintro x rout ⟨⟨u2,hu2,rfl⟩,⟨c,c1,c2,rfl⟩⟩;refine⟨rfl,?_⟩;conv=>whnf)|(refine CallX.of (s33 n L hL _ ?_ ?_ [0,300,1000] ?_ ?_) [(1000000,1000000)] rfl ⟨lr,SV.le_lit rfl rfl,trivial⟩ ⟨rr,trivial⟩ rfl rfl ?_;rotate_right;rintro x rout ⟨⟨u3,hu3,rfl⟩,⟨c,c1,c2,rfl⟩⟩;refine⟨rfl,?_⟩;conv=>whnf)|(refine CallX.of (s33 n L hL _ ?_ ?_ [0,29,30,59,60] ?_ ?_) [(1000000,1000000)] rfl ⟨lr,SV.le_lit rfl rfl,trivial⟩ ⟨rr,trivial⟩ rfl rfl ?_;rotate_right;rintro x rout ⟨⟨u4,hu4,rfl⟩,⟨c,c1,c2,rfl⟩⟩;refine⟨rfl,?_⟩;conv=>whnf)|(refine CallX.of (s33 n L hL _ ?_ ?_ [0,500,1000,2000] ?_ ?_) [(1000000,1000000)] rfl ⟨lr,SV.le_lit rfl rfl,trivial⟩ ⟨rr,trivial⟩ rfl rfl ?_;rotate_right;rintro x rout ⟨⟨u5,hu5,rfl⟩,⟨c,c1,c2,rfl⟩⟩;refine⟨rfl,?_⟩;conv=>whnf)|(refine CallX.of (s33 n L hL _ ?_ ?_ [0,4000,5000,9000] ?_ ?_) [(1000000,1000000)] rfl ⟨lr,SV.le_lit rfl rfl,trivial⟩ ⟨rr,trivial⟩ rfl rfl ?_;rotate_right;rintro x rout ⟨⟨u6,hu6,rfl⟩,⟨c,c1,c2,rfl⟩⟩;refine⟨rfl,?_⟩;conv=>whnf)|(refine CallX.of (s33 n L hL _ ?_ ?_ [0,10000,1000000] ?_ ?_) [(1000000,1000000)] rfl ⟨lr,SV.le_lit rfl rfl,trivial⟩ ⟨rr,trivial⟩ rfl rfl ?_;rotate_right;rintro x rout ⟨⟨u7,hu7,rfl⟩,⟨c,c1,c2,rfl⟩⟩;refine⟨rfl,?_⟩;conv=>whnf)|(refine CallX.of (s84 n L hL _ ?_ ?_ 15 ?_) [(1000000,1000000)] rfl ⟨lr,lr,trivial⟩ ⟨rr,trivial⟩ rfl rfl ?_;rotate_right;rintro x rout ⟨⟨w,rfl⟩,⟨c,c1,c2,rfl⟩⟩;refine⟨rfl,?_⟩;conv=>whnf)|(refine CallX.of (s104 n L hL _ ?_ ?_ 0 10000 ?_ ?_ ?_) [(1000000,1000000)] rfl ⟨lr,lr,lr,trivial⟩ ⟨rr,trivial⟩ rfl rfl ?_;rotate_right;rintro x rout ⟨⟨o1,ho1,ho2,rfl⟩,⟨c,c1,c2,rfl⟩⟩;refine⟨rfl,?_⟩;conv=>whnf)|(refine CallX.of (s104 n L hL _ ?_ ?_ 0 1440 ?_ ?_ ?_) [(1000000,1000000)] rfl ⟨lr,lr,lr,trivial⟩ ⟨rr,trivial⟩ rfl rfl ?_;rotate_right;rintro x rout ⟨⟨o2,ho3,ho4,rfl⟩,⟨c,c1,c2,rfl⟩⟩;refine⟨rfl,?_⟩;conv=>whnf)|(refine CallX.of (s104 n L hL _ ?_ ?_ 0 1000000 ?_ ?_ ?_) [(1000000,1000000)] rfl ⟨lr,lr,lr,trivial⟩ ⟨rr,trivial⟩ rfl rfl ?_;rotate_right;rintro x rout ⟨⟨o3,ho5,ho6,rfl⟩,⟨c,c1,c2,rfl⟩⟩;refine⟨rfl,?_⟩;conv=>whnf)|(refine CallX.of (s104 n L hL _ ?_ ?_ 0 1000000 ?_ ?_ ?_) [(1000000,1000000)] rfl ⟨lr,lr,lr,trivial⟩ ⟨rr,trivial⟩ rfl rfl ?_;rotate_right;rintro x rout ⟨⟨o4,ho7,ho8,rfl⟩,⟨c,c1,c2,rfl⟩⟩;refine⟨rfl,?_⟩;conv=>whnf)|((first|(refine br_intro ?_ ?_<;>intro hb<;>try simp only[brs]at hb)|omega|refine sAx ?_|decide|assumption)<;>conv=>whnf))
 all_goals try(exact h0)
 all_goals try omega
 all_goals refine .ret _ ?_
 all_goals conv=>whnf
 · exact⟨[(1000000,strm n L _)],⟨⟨⟨_,_,_,_,_,_,_⟩,rfl⟩,_,by omega,by omega,rfl⟩,rr,trivial⟩
 · exact⟨[(1000000,strm n L _)],⟨⟨⟨_,_,_,_,_,_,_⟩,rfl⟩,_,by omega,by omega,rfl⟩,rr,trivial⟩
def dea0:Dea:=⟨0,0,0,0,0,0,0⟩
set_option maxHeartbeats 4000000 in
theorem yRDeal (n:Nat)(L:Nat→Int)(hL:Rok n L)(a:Int)(h0:0≤a)(ha:a≤2^36):
 FSpec Tryz.prog 22 [.ptr 1000000 0] [(1000000,strm n L a)] (fun y r=>(∃d:Dea,deaE d=0∧y=dea d)∧Moved n L a 160 r):=by
 refine spec_of hT (C:= []) Tryz.func22 rfl Tryz.call22 rfl rfl rfl ?_;conv=>whnf
 refine LoopX.rule hT (C:= []) (ι:=Int×Nat) (fun(b,i)=>a≤b∧b≤a+20*i∧i≤8)
  (fun(b,i)=>mkSt [(0,.ptr 1000000 0),(2,.ptr 2 0),(4,.d (.int .i64 i))] [(1000000,strm n L b),(2,.cells 40 ((deaF dea0).map .d))])
  (fun(_,i)=>8 - i) (a,0) ⟨by simp,by simp,by simp⟩ (by exact eAx [(1000000,1000000),(2,2)]) ?_
 rintro⟨b,i⟩ ⟨p1,p2,p3⟩;have p1:a≤b:=p1;have p2:b≤a+20*i:=p2;have p3:i≤8:=p3;conv=>whnf
 repeat' (first|(refine CallX.of (yDeal n L hL _ ?_ ?_) [(1000000,1000000)] rfl ⟨lr,trivial⟩ ⟨rr,trivial⟩ rfl rfl ?_;rotate_right;rintro x rout ⟨⟨d,rfl⟩,⟨c,c1,c2,rfl⟩⟩;refine⟨rfl,?_⟩;conv=>whnf)|((first|refine CallX.pure (y85 _) ⟨lr,trivial⟩ rfl ?_|(refine br_intro ?_ ?_<;>intro hb<;>try simp only[brs]at hb)|omega|refine sAx ?_|decide|assumption)<;>conv=>whnf))
 all_goals try omega
 · refine .ret _ ?_;conv=>whnf
   exact⟨[(1000000,strm n L _)],⟨⟨d,by simpa using hb,rfl⟩,_,by omega,by omega,rfl⟩,rr,trivial⟩
 · exact⟨(c,i+1),⟨by omega,by show _≤a+20*((i+1:Nat):Int);omega,by omega⟩,by show 8 - (i+1)<8 - i;omega,(by exact eAx [(1000000,1000000),(2,2)])⟩
 · refine .ret _ ?_;conv=>whnf
   exact⟨[(1000000,strm n L _)],⟨⟨dea0,by decide,rfl⟩,_,by omega,by omega,rfl⟩,rr,trivial⟩
structure tarM (t:Tar):Prop where
 rat:allK ratM 10 t.rat
 ext:allK extM 2 t.ext
 fe:allK feM 5 t.fe
 cod:allK codM 3 t.cod
 tax:allK taxM 3 t.tax
theorem tarM.ok {t:Tar}(h:tarM t):tarOk t:=
 ⟨⟨Nat.le_trans h.rat.1 (by decide),fun x hx=>Nat.le_trans (h.rat.2 x hx) (by decide)⟩,⟨Nat.le_trans h.ext.1 (by decide),fun x hx=>Nat.le_trans (h.ext.2 x hx) (by decide)⟩,
   ⟨Nat.le_trans h.fe.1 (by decide),fun x hx=>⟨Nat.le_trans (h.fe.2 x hx).1 (by decide),Nat.le_trans (h.fe.2 x hx).2 (by decide)⟩⟩,
   ⟨Nat.le_trans h.cod.1 (by decide),fun x hx=>⟨Nat.le_trans (h.cod.2 x hx).1 (by decide),Nat.le_trans (h.cod.2 x hx).2 (by decide)⟩⟩,
   ⟨Nat.le_trans h.tax.1 (by decide),fun x hx=>⟨Nat.le_trans (h.tax.2 x hx).1 (by decide),Nat.le_trans (h.tax.2 x hx).2 (by decide)⟩⟩⟩
def tar (t:Tar):SV:=.agg (tarL t)
set_option maxHeartbeats 4000000 in
theorem yTariff (n:Nat)(L:Nat→Int)(hL:Rok n L)(a:Int)(h0:0≤a)(ha:a≤2^34):
 FSpec Tryz.prog 61 [.ptr 1000000 0] [(1000000,strm n L a)] (fun y r=>(∃t:Tar,tarM t∧y=tar t)∧Moved n L a 250 r):=by
 refine spec_of hT (C:= []) Tryz.func61 rfl Tryz.call61 rfl rfl rfl ?_;conv=>whnf
 repeat' (first|(refine CallX.of (yRates n L hL _ ?_ ?_) [(1000000,1000000)] rfl ⟨lr,trivial⟩ ⟨rr,trivial⟩ rfl rfl ?_;rotate_right;rintro x rout ⟨⟨t1,ht1,rfl⟩,⟨c,c1,c2,rfl⟩⟩;refine⟨rfl,?_⟩;conv=>whnf)|(refine CallX.of (yExtras n L hL _ ?_ ?_) [(1000000,1000000)] rfl ⟨lr,trivial⟩ ⟨rr,trivial⟩ rfl rfl ?_;rotate_right;rintro x rout ⟨⟨t2,ht2,rfl⟩,⟨c,c1,c2,rfl⟩⟩;refine⟨rfl,?_⟩;conv=>whnf)|(refine CallX.of (yFees n L hL _ ?_ ?_) [(1000000,1000000)] rfl ⟨lr,trivial⟩ ⟨rr,trivial⟩ rfl rfl ?_;rotate_right;rintro x rout ⟨⟨t3,ht3,rfl⟩,⟨c,c1,c2,rfl⟩⟩;refine⟨rfl,?_⟩;conv=>whnf)|(refine CallX.of (yCodes n L hL _ ?_ ?_) [(1000000,1000000)] rfl ⟨lr,trivial⟩ ⟨rr,trivial⟩ rfl rfl ?_;rotate_right;rintro x rout ⟨⟨t4,ht4,rfl⟩,⟨c,c1,c2,rfl⟩⟩;refine⟨rfl,?_⟩;conv=>whnf)|(refine CallX.of (yTaxes n L hL _ ?_ ?_) [(1000000,1000000)] rfl ⟨lr,trivial⟩ ⟨rr,trivial⟩ rfl rfl ?_;rotate_right;rintro x rout ⟨⟨t5,ht5,rfl⟩,⟨c,c1,c2,rfl⟩⟩;refine⟨rfl,?_⟩;conv=>whnf)|((first|(refine br_intro ?_ ?_<;>intro hb<;>try simp only[brs]at hb)|omega|refine sAx ?_|decide|assumption)<;>conv=>whnf))
 all_goals try omega
 refine .ret _ ?_;conv=>whnf
 exact⟨[(1000000,strm n L _)],⟨⟨⟨t1,t2,t3,t4,t5⟩,⟨ht1,ht2,ht3,ht4,ht5⟩,rfl⟩,_,by omega,by omega,rfl⟩,rr,trivial⟩
structure houM (h:Hou):Prop where
 flt:fltK h.flt
 tar:tarM h.tar
theorem houM.ok {h:Hou}(k:houM h):houOk h:=⟨k.flt.ok,k.tar.ok⟩
def st2:List Sta:= [⟨[115,49],fun _=>0⟩,⟨[115,50],fun _=>0⟩]
def vk3:List (List UInt8):= [[118,49],[118,50],[118,51]]
end Go.Proofs.YtjibpcoeghlnoaaGreatDoor
namespace Go.Proofs
open Go.Shelf
end Go.Proofs
set_option maxRecDepth 20000
namespace Go.Proofs.YtjibpcoeghlnoaaGreatDoor
open Go Go.Eng Go.RowKit
structure Ent where
 tm:Int
 desk:List UInt8
 no:Int
 words:List UInt8
def enF:Ent→List DV:=fun x=> [.int .i64 x.tm,.str x.desk,.int .i64 x.no,.str x.words]
def en0:Ent:=⟨0,[],0,[]⟩
abbrev ents (l:List Ent):DV:=seqD 4 enF en0 l
def MovedK (n:Nat)(L:Nat→Int)(a:Int)(c:Int)(r:List (Nat×Res)):Prop:=∃b,a≤b∧b≤a+c∧r= [(1000000,strm n L b),(1000009,KX)]
end Go.Proofs.YtjibpcoeghlnoaaGreatDoor
namespace Go.Proofs
open Go.Shelf
end Go.Proofs
set_option maxRecDepth 20000
namespace Go.Proofs.YtjibpcoeghlnoaaGreatDoor
open Go Go.Eng Go.RowKit
end Go.Proofs.YtjibpcoeghlnoaaGreatDoor
set_option maxRecDepth 20000
namespace Go.Proofs.YtjibpcoeghlnoaaGreatDoor
open Go Go.Eng Go.RowKit
end Go.Proofs.YtjibpcoeghlnoaaGreatDoor
set_option maxRecDepth 20000
namespace Go.Proofs.YtjibpcoeghlnoaaGreatDoor
open Go Go.Eng Go.RowKit
def su (F:Nat→Int):Nat→Int
 |0=>0
 |n+1=>su F n+F n
theorem su_congr {F H:Nat→Int}:∀ {n:Nat},(∀k,k<n→F k=H k)→su F n=su H n
 |0,_=>rfl
 |n+1,h=>by rw[su,su,su_congr (fun k hk=>h k (by omega)),h n (by omega)]
theorem su_le {F H:Nat→Int}:∀ {n:Nat},(∀k,k<n→F k≤H k)→su F n≤su H n
 |0,_=>Int.le_refl _
 | n+1,h=>by
   have h1:=su_le (n:=n) (fun k hk=>h k (by omega));have h2:=h n (by omega);rw[su,su];omega
theorem su_sub (F H:Nat→Int):∀n,su (fun k=>F k - H k) n=su F n - su H n
 |0=>rfl
 |n+1=>by rw[su,su,su,su_sub F H n];omega
theorem su_zero {F:Nat→Int}{n:Nat}(h:∀k,k<n→F k=0):su F n=0:=by
 have:∀m,su (fun _=>0) m=0:=fun m=>by
  induction m with
  |zero=>rfl
  |succ m ih=>rw[su,ih];rfl
 rw[su_congr (H:=fun _=>0) h,this]
theorem su_nn {F:Nat→Int}{n:Nat}(h:∀k,k<n→0≤F k):0≤su F n:=by
 have:=su_le (F:=fun _=>0) (H:=F) (n:=n) h;rwa [su_zero (fun _ _=>rfl)]at this
theorem su_one {a n:Nat}{x:Int}(h:a<n):su (fun v=>if a=v then x else 0) n=x:=by
 induction n with
 |zero=>omega
 | succ n ih=>
   rw[su]
   by_cases q:a=n
   · subst q;rw[if_pos rfl,su_zero (fun k hk=>if_neg (by omega))];omega
   · rw[if_neg q,ih (by omega)];omega
structure Nw where
 K:Nat
 N:Nat
 fr:Nat→Nat
 to:Nat→Nat
 c:Nat→Int
structure Nw.Ok (G:Nw):Prop where
 fr:∀k,k<G.K→G.fr k<G.N
 to:∀k,k<G.K→G.to k<G.N
 c0:∀k,k<G.K→0≤G.c k
def Nw.net (G:Nw)(f:Nat→Int)(v:Nat):Int:=su (fun k=>(if G.fr k=v then f k else 0) - (if G.to k=v then f k else 0)) G.K
def Nw.cost (G:Nw)(f:Nat→Int):Int:=su (fun k=>f k*G.c k) G.K
theorem Nw.net_sub (G:Nw)(f g:Nat→Int)(v:Nat):G.net (fun k=>g k - f k) v=G.net g v - G.net f v:=by
 unfold Nw.net;rw[←su_sub];refine su_congr fun k _=> ?_
 by_cases a:G.fr k=v<;>by_cases b:G.to k=v<;>simp[a,b]<;>omega
def Nw.Fills (G:Nw)(have_ want:Nat→Int)(g:Nat→Int):Prop:=(∀k,k<G.K→0≤g k)∧∀v,v<G.N→- want v≤G.net g v∧G.net g v≤have_ v - want v
structure Nw.St (G:Nw)(have_ want f left lack:Nat→Int):Prop where
 f0:∀k,k<G.K→0≤f k
 left0:∀v,v<G.N→0≤left v∧left v≤have_ v
 lack0:∀v,v<G.N→0≤lack v∧lack v≤want v
 net:∀v,v<G.N→G.net f v=(have_ v - left v) - (want v - lack v)
structure Nw.Pot (G:Nw)(have_ f left p:Nat→Int):Prop where
 p0:∀v,v<G.N→0≤p v
 ar:∀k,k<G.K→p (G.to k)≤p (G.fr k)+G.c k
 tight:∀k,k<G.K→0<f k→p (G.fr k)+G.c k≤p (G.to k)
 left:∀v,v<G.N→0<left v→p v≤0
theorem Nw.cost_sub (G:Nw)(f g:Nat→Int):G.cost g - G.cost f=su (fun k=>(g k - f k)*G.c k) G.K:=by
 unfold Nw.cost;rw[←su_sub];exact su_congr fun k _=>by rw[Int.sub_mul]
def farD:Int:=1125899906842624
def upd {α:Type}(f:Nat→α)(a:Nat)(x:α):Nat→α:=fun v=>if v=a then x else f v
theorem upd_self {α:Type}{f:Nat→α}{a:Nat}{x:α}:upd f a x a=x:=if_pos rfl
theorem upd_ne {α:Type}{f:Nat→α}{a v:Nat}{x:α}(h:v≠a):upd f a x v=f v:=if_neg h
def Nw.hd (G:Nw)(e:Nat×Bool):Nat:=if e.2=true then G.fr e.1 else G.to e.1
def Nw.tl (G:Nw)(e:Nat×Bool):Nat:=if e.2=true then G.to e.1 else G.fr e.1
def Nw.cc (G:Nw)(e:Nat×Bool):Int:=if e.2=true then - G.c e.1 else G.c e.1
def Nw.Re (G:Nw)(f:Nat→Int)(e:Nat×Bool):Prop:=e.1<G.K∧(e.2=true→0<f e.1)
theorem Nw.hd_lt {G:Nw}(h:G.Ok){e:Nat×Bool}(he:e.1<G.K):G.hd e<G.N∧G.tl e<G.N:=by
 unfold Nw.hd Nw.tl;have:=h.fr _ he;have:=h.to _ he;cases e.2<;>simp<;>omega
inductive Nw.Ch (G:Nw) (b:Nat→Option (Nat×Bool)) (Q:Nat×Bool→Prop):Nat→Nat→Nat→Prop
 |root (v:Nat) (h:b v=none):Nw.Ch G b Q v 0 v
 |step (v n r:Nat) (e:Nat×Bool) (h:b v=some e) (hq:Q e) (hc:Nw.Ch G b Q (G.tl e) n r):Nw.Ch G b Q v (n+1) r
theorem Nw.Ch.uniq {G:Nw}{b:Nat→Option (Nat×Bool)}{Q Q':Nat×Bool→Prop}{v n r:Nat}(h:G.Ch b Q v n r):∀ {m s:Nat},G.Ch b Q' v m s→n=m∧r=s:=by
 induction h with
 | root v hv=>
   intro m s h2
   cases h2 with
   |root _ _=>exact⟨rfl,rfl⟩
   |step _ _ _ e he _ _=>rw[hv]at he;cases he
 | step v n r e he _ _ ih=>
   intro m s h2
   cases h2 with
   |root _ hv=>rw[hv]at he;cases he
   | step _ n' _ e' he' _ hc' =>
     rw[he]at he';cases he';obtain⟨rfl,rfl⟩:=ih hc';exact⟨rfl,rfl⟩
structure Nw.Wy (G:Nw)(f left p dist:Nat→Int)(b:Nat→Option (Nat×Bool)):Prop where
 d1:∀v,v<G.N→dist v≤farD∧(dist v<farD→p v≤dist v)
 src:∀v,v<G.N→0<left v→dist v=0∧b v=none
 root:∀v,v<G.N→b v=none→dist v<farD→0<left v
 st:∀v e,v<G.N→b v=some e→G.Re f e∧G.hd e=v∧dist (G.tl e)<farD∧dist (G.tl e)+G.cc e≤dist v∧dist v<farD
 rt:∀v,v<G.N→dist v<farD→∃n r,G.Ch b (fun _=>True) v n r
def Nw.Fin (G:Nw)(f dist:Nat→Int):Prop:=∀e,G.Re f e→dist (G.tl e)<farD→dist (G.hd e)≤dist (G.tl e)+G.cc e
theorem Nw.Wy.tight {G:Nw}{f left p dist:Nat→Int}{b:Nat→Option (Nat×Bool)}(hw:G.Wy f left p dist b)(hf:G.Fin f dist){v:Nat}{e:Nat×Bool}(hv:v<G.N)(he:b v=some e):dist v=dist (G.tl e)+G.cc e:=by
 obtain⟨s1,s2,s3,s4,s5⟩:=hw.st v e hv he;have:=hf e s1 s3;rw[s2]at this;omega
def Nw.cnt (G:Nw)(dist:Nat→Int):Int:=su (fun v=>if dist v<farD then 1 else 0) G.N
theorem Nw.net_upd (G:Nw)(g:Nat→Int){k:Nat}(hk:k<G.K)(x:Int)(v:Nat):G.net (upd g k x) v=G.net g v+(if G.fr k=v then x - g k else 0) - (if G.to k=v then x - g k else 0):=by
 have h:=G.net_sub g (upd g k x) v
 have e:G.net (fun i=>upd g k x i - g i) v=(if G.fr k=v then x - g k else 0) - (if G.to k=v then x - g k else 0):=by
  unfold Nw.net;rw[su_congr (H:=fun i=>if k=i then((if G.fr k=v then x - g k else 0) - (if G.to k=v then x - g k else 0))else 0) (fun i _=> ?_),su_one hk]
  by_cases q:i=k
  · rw[if_pos q.symm,q];simp only[upd_self]
  · rw[if_neg (show ¬k=i from fun z=>q z.symm)];simp[upd_ne q]
 omega
theorem ite_sw {a v:Nat}{x y:Int}(h:x=y):(if a=v then x else 0)=(if v=a then y else 0):=by
 subst h
 by_cases q:a=v
 · rw[if_pos q,if_pos q.symm]
 · rw[if_neg q,if_neg (fun z=>q z.symm)]
theorem Nw.cost_upd (G:Nw)(g:Nat→Int){k:Nat}(hk:k<G.K)(x:Int):G.cost (upd g k x)=G.cost g+(x - g k)*G.c k:=by
 have h:=G.cost_sub g (upd g k x)
 have e:su (fun i=>(upd g k x i - g i)*G.c i) G.K=(x - g k)*G.c k:=by
  rw[su_congr (H:=fun i=>if k=i then(x - g k)*G.c k else 0) (fun i _=> ?_),su_one hk]
  by_cases q:i=k
  · rw[if_pos q.symm,q,upd_self]
  · rw[if_neg (show ¬k=i from fun z=>q z.symm),upd_ne q];simp
 omega
structure Nw.Bot (G:Nw)(f dist:Nat→Int)(b:Nat→Option (Nat×Bool))(t:Nat)(lk:Int)(a:Nat)(m:Int):Prop where
 ch:∀m' n' r,m'≤m→G.Ch b (fun e=>e.2=true→m'≤f e.1) a n' r→∃n,G.Ch b (fun e=>e.2=true→m'≤f e.1) t n r
 aN:a<G.N
 dn:dist a<farD
 m1:1≤m∧m≤lk
theorem Nw.Bot.step {G:Nw}(hG:G.Ok){f left p dist:Nat→Int}{b:Nat→Option (Nat×Bool)}(hw:G.Wy f left p dist b){t a:Nat}{lk m:Int}(h:G.Bot f dist b t lk a m){e:Nat×Bool}(he:b a=some e):
 G.Bot f dist b t lk (G.tl e) (if e.2=true then min m (f e.1)else m):=by
 obtain⟨s1,s2,s3,s4,s5⟩:=hw.st a e h.aN he;have hm:=h.m1;have hq:=s1.2;refine⟨fun m' n' r hm' hc=> ?_,(Nw.hd_lt hG s1.1).2,s3,?_⟩
 · refine h.ch m' (n'+1) r ?_ (.step a n' r e he (fun w=> ?_) hc)
   · split at hm'<;>omega
   · rw[if_pos w]at hm';omega
 · cases w:e.2
   · simp;omega
   · have:=hq w;simp;omega
theorem Nw.Bot.done {G:Nw}{f dist:Nat→Int}{b:Nat→Option (Nat×Bool)}{t a:Nat}{lk m:Int}(h:G.Bot f dist b t lk a m)(ha:b a=none){m':Int}(hm:m'≤m):∃n,G.Ch b (fun e=>e.2=true→m'≤f e.1) t n a:=
 h.ch m' 0 a hm (.root a ha)
structure Nw.Aug (G:Nw)(f dist:Nat→Int)(b:Nat→Option (Nat×Bool))(t:Nat)(m:Int)(g:Nat→Int)(a n r:Nat):Prop where
 ch:G.Ch b (fun e=>e.2=true→m≤f e.1) a n r
 aN:a<G.N
 dn:dist a<farD
 fl:∀k,k<G.K→f k≤g k∨∃j s,G.Ch b (fun _=>True) (G.fr k) j s∧n<j∧f k≤g k+m∧m≤f k
 net:∀v,G.net g v=G.net f v - (if v=t then m else 0)+(if v=a then m else 0)
 cost:G.cost g=G.cost f+m*(dist t - dist a)
 pos:∀k,k<G.K→0<g k→0<f k∨(dist (G.fr k)<farD∧dist (G.to k)=dist (G.fr k)+G.c k)
theorem Nw.Ch.weak {G:Nw}{b:Nat→Option (Nat×Bool)}{Q:Nat×Bool→Prop}{v n r:Nat}(h:G.Ch b Q v n r):G.Ch b (fun _=>True) v n r:=by
 induction h with
 |root v hv=>exact .root v hv
 |step v n r e he _ _ ih=>exact .step v n r e he trivial ih
theorem Nw.Aug.step {G:Nw}(hG:G.Ok){f left p dist:Nat→Int}{b:Nat→Option (Nat×Bool)}(hw:G.Wy f left p dist b)(hf:G.Fin f dist){t a n r:Nat}{m:Int}(hm:0≤m){g:Nat→Int}(h:G.Aug f dist b t m g a n r){e:Nat×Bool}(he:b a=some e):
 ∃n',n=n'+1∧G.Aug f dist b t m (upd g e.1 (if e.2=true then g e.1 - m else g e.1+m)) (G.tl e) n' r:=by
 have hch:=h.ch
 cases hch with
 |root _ hv=>rw[hv]at he;cases he
 | step _ n' _ e' he' hq hc=>
   rw[he]at he';cases he';obtain⟨s1,s2,s3,s4,s5⟩:=hw.st a e h.aN he;have htg:=hw.tight hf h.aN he;have hch:=h.ch;refine⟨n',rfl,hc,(Nw.hd_lt hG s1.1).2,s3,fun k hk=> ?_,fun v=> ?_,?_,fun k hk hg=> ?_⟩
   · rcases h.fl k hk with w|⟨j,s,w1,w2,w3,w4⟩
     · by_cases q:k=e.1
       · rw[q,upd_self];rw[q]at w;cases z:e.2
         · left;simp;omega
         · right;have hz:G.hd e=G.fr e.1:=by unfold Nw.hd;rw[z];rfl
           rw[s2]at hz;refine⟨n'+1,r,?_,by omega,by simp;omega,hq z⟩;rw[←hz];exact hch.weak
       · rw[upd_ne q];exact .inl w
     · right;refine⟨j,s,w1,by omega,?_,w4⟩
       by_cases q:k=e.1
       · rw[q,upd_self];rw[q]at w1 w3;cases z:e.2
         · simp;omega
         · exfalso;have hz:G.hd e=G.fr e.1:=by unfold Nw.hd;rw[z];rfl
           rw[s2]at hz;rw[←hz]at w1;have:=hch.weak.uniq w1;omega
       · rw[upd_ne q];exact w3
   · rw[G.net_upd g s1.1,h.net v];have hhd:G.hd e=a:=s2;unfold Nw.hd at hhd;unfold Nw.tl;cases z:e.2<;>rw[z]at hhd<;>simp only[if_true,if_false,Bool.false_eq_true]at hhd ⊢
     · have c1:(if G.to e.1=v then g e.1+m - g e.1 else 0)=(if v=a then m else 0):=by rw[hhd];exact ite_sw (by omega)
       have c2:(if G.fr e.1=v then g e.1+m - g e.1 else 0)=(if v=G.fr e.1 then m else 0):=ite_sw (by omega);rw[c1,c2];omega
     · have c1:(if G.fr e.1=v then g e.1 - m - g e.1 else 0)=(if v=a then - m else 0):=by rw[hhd];exact ite_sw (by omega)
       have c2:(if G.to e.1=v then g e.1 - m - g e.1 else 0)=(if v=G.to e.1 then - m else 0):=ite_sw (by omega);rw[c1,c2]
       by_cases q:v=a<;>by_cases w:v=G.to e.1<;>simp only[q,w,if_true,if_false]<;>(try split)<;>omega
   · rw[G.cost_upd g s1.1,h.cost];have e1:(if e.2=true then g e.1 - m else g e.1+m) - g e.1=if e.2=true then - m else m:=by split<;>omega
     rw[e1,htg];unfold Nw.cc;cases z:e.2
     · simp only[if_false,Bool.false_eq_true];rw[show dist t - dist (G.tl e)=(dist t - (dist (G.tl e)+G.c e.1))+G.c e.1 by omega,Int.mul_add];omega
     · simp only[if_true];have e2:m*(dist t - dist (G.tl e))=m*(dist t - (dist (G.tl e)+ - G.c e.1)) - m*G.c e.1:=by rw[←Int.mul_sub];congr 1;omega
       rw[e2,Int.neg_mul];omega
   · by_cases q:k=e.1
     · rw[q,upd_self]at hg;rw[q];cases z:e.2
       · right;have hz:G.hd e=G.to e.1:=by unfold Nw.hd;rw[z];rfl
         have ht:G.tl e=G.fr e.1:=by unfold Nw.tl;rw[z];rfl
         have hcc:G.cc e=G.c e.1:=by unfold Nw.cc;rw[z];rfl
         rw[←hz,←ht,s2];rw[hcc]at htg;exact⟨s3,htg⟩
       · exact .inl (s1.2 z)
     · rw[upd_ne q]at hg;exact h.pos k hk hg
structure Nw.Op (G:Nw)(R:Nat×Bool→Prop)(p:Nat→Int):Prop where
 lt:∀e,R e→e.1<G.K
 le:∀e,R e→p (G.hd e)≤p (G.tl e)+G.cc e
structure Nw.Pw (G:Nw)(R:Nat×Bool→Prop)(p:Nat→Int)(P:Int)(dist:Nat→Int)(b:Nat→Option (Nat×Bool)):Prop where
 low:∀v,v<G.N→p v - P≤dist v∧dist v≤0
 root:∀v,v<G.N→b v=none→dist v=0
 st:∀v e,v<G.N→b v=some e→R e∧G.hd e=v∧dist (G.tl e)+G.cc e≤dist v
 rt:∀v,v<G.N→∃n r,G.Ch b (fun _=>True) v n r
def Nw.opn (G:Nw)(have_ f gone:Nat→Int)(e:Nat×Bool):Prop:=e.1<G.K+G.N∧(e.1<G.K→e.2=true→0<f e.1)∧(¬e.1<G.K→0<have_ (e.1 - G.K)∧(e.2=false→gone (e.1 - G.K)<have_ (e.1 - G.K))∧(e.2=true→0<gone (e.1 - G.K)))
structure Nw.Prc (G:Nw)(have_ f gone y:Nat→Int):Prop where
 ar:∀k,k<G.K→y (G.to k)≤y (G.fr k)+G.c k
 tight:∀k,k<G.K→0<f k→y (G.to k)=y (G.fr k)+G.c k
 lo:∀v,v<G.N→0<have_ v→gone v<have_ v→y v≤0
 hi:∀v,v<G.N→0<have_ v→0<gone v→0≤y v
structure Nw.Bip (G:Nw)(B:Nat→Bool):Prop where
 fr:∀k,k<G.K→G.fr k<G.N∧B (G.fr k)=true
 to:∀k,k<G.K→G.to k<G.N∧B (G.to k)=false
structure Nw.Fl (G:Nw)(B:Nat→Bool)(h w g:Nat→Int):Prop where
 g0:∀k,k<G.K→0≤g k
 src:∀v,v<G.N→B v=true→G.net g v≤h v
 dst:∀v,v<G.N→B v=false→G.net g v= - w v
theorem Nw.Bip.net_src {G:Nw}{B:Nat→Bool}(hb:G.Bip B){g:Nat→Int}(h0:∀k,k<G.K→0≤g k){v:Nat}(hv:B v=true):0≤G.net g v:=by
 refine su_nn fun k hk=> ?_
 have:=(hb.to k hk).2;have h1:¬G.to k=v:=fun q=>by rw[q,hv]at this;cases this
 have:=h0 k hk;rw[if_neg h1];split<;>omega
theorem Nw.Bip.net_dst {G:Nw}{B:Nat→Bool}(hb:G.Bip B){g:Nat→Int}(h0:∀k,k<G.K→0≤g k){v:Nat}(hv:B v=false):G.net g v≤0:=by
 have h:G.net g v≤su (fun _=>0) G.K:=su_le fun k hk=>by
  have:=(hb.fr k hk).2;have h1:¬G.fr k=v:=fun q=>by rw[q,hv]at this;cases this
  have:=h0 k hk;simp only[if_neg h1];split<;>omega
 rwa [su_zero (fun _ _=>rfl)]at h
theorem Nw.Bip.fl {G:Nw}{B:Nat→Bool}(hb:G.Bip B){h w:Nat→Int}(hh:∀v,v<G.N→B v=false→h v=0)(hw:∀v,v<G.N→B v=true→w v=0)(g:Nat→Int):G.Fills h w g↔G.Fl B h w g:=by
 constructor
 · rintro⟨h0,h1⟩;refine⟨h0,fun v hv q=> ?_,fun v hv q=> ?_⟩
   · have:=h1 v hv;have:=hw v hv q;omega
   · have:=h1 v hv;have:=hh v hv q;omega
 · intro hg;refine⟨hg.g0,fun v hv=> ?_⟩;cases q:B v
   · have:=hg.dst v hv q;have:=hh v hv q;omega
   · have:=hg.src v hv q;have:=hw v hv q;have:=hb.net_src hg.g0 q;omega
def Nw.sh (G:Nw)(a:Nat):Nw:=⟨G.K - a,G.N,fun k=>G.fr (a+k),fun k=>G.to (a+k),fun k=>G.c (a+k)⟩
theorem Nw.Bip.sh {G:Nw}{B:Nat→Bool}(h:G.Bip B)(a:Nat):(G.sh a).Bip B:=
 ⟨fun k hk=>h.fr (a+k) (by have hk:k<G.K - a:=hk;omega),fun k hk=>h.to (a+k) (by have hk:k<G.K - a:=hk;omega)⟩
def vtl (x:Nat→Int):Nat→Int:=fun k=>x (k+1)
theorem su_cons (F:Nat→Int):∀n,su F (n+1)=F 0+su (fun k=>F (k+1)) n
 |0=>by simp[su]
 |n+1=>by rw[su,su_cons F n,su];omega
theorem Nw.net_cons {G:Nw}{a:Nat}(ha:a<G.K)(x:Nat→Int)(v:Nat):(G.sh a).net x v=(if G.fr a=v then x 0 else 0) - (if G.to a=v then x 0 else 0)+(G.sh (a+1)).net (vtl x) v:=by
 unfold Nw.net;have e:(G.sh a).K=(G.sh (a+1)).K+1:=by show G.K - a=G.K - (a+1)+1;omega
 rw[e,su_cons];congr 1
 refine su_congr fun k _=> ?_
 show(if G.fr (a+(k+1))=v then x (k+1)else 0) - (if G.to (a+(k+1))=v then x (k+1)else 0)=(if G.fr (a+1+k)=v then x (k+1)else 0) - (if G.to (a+1+k)=v then x (k+1)else 0);rw[show a+(k+1)=a+1+k by omega]
def les (h:Nat→Int)(v:Nat)(u:Int):Nat→Int:=upd h v (h v - u)
theorem les_at (h:Nat→Int)(v i:Nat)(u:Int):les h v u i=h i - (if v=i then u else 0):=by
 unfold les upd
 by_cases q:i=v
 · rw[if_pos q,if_pos q.symm,q]
 · rw[if_neg q,if_neg (fun z=>q z.symm)];omega
theorem Nw.fl_cons {G:Nw}{B:Nat→Bool}(hb:G.Bip B){a:Nat}(ha:a<G.K){h w x:Nat→Int}:(G.sh a).Fl B h w x↔0≤x 0∧(G.sh (a+1)).Fl B (les h (G.fr a) (x 0)) (les w (G.to a) (x 0)) (vtl x):=by
 have hf:=hb.fr a ha;have ht:=hb.to a ha;constructor
 · intro hx;refine⟨hx.g0 0 (by show 0<G.K - a;omega),fun k hk=>hx.g0 (k+1) (by have hk:k<G.K - (a+1):=hk;show k+1<G.K - a;omega),fun v hv q=> ?_,fun v hv q=> ?_⟩
   · have h1:=hx.src v hv q;rw[Nw.net_cons ha]at h1;have:¬G.to a=v:=fun z=>by rw[z,q]at ht;cases ht.2
     rw[if_neg this]at h1;rw[les_at];omega
   · have h1:=hx.dst v hv q;rw[Nw.net_cons ha]at h1;have:¬G.fr a=v:=fun z=>by rw[z,q]at hf;cases hf.2
     rw[if_neg this]at h1;rw[les_at];omega
 · rintro⟨h0,hx⟩;refine⟨fun k hk=> ?_,fun v hv q=> ?_,fun v hv q=> ?_⟩
   · cases k with
     |zero=>exact h0
     |succ k=>exact hx.g0 k (by have hk:k+1<G.K - a:=hk;show k<G.K - (a+1);omega)
   · have h1:=hx.src v hv q;rw[les_at]at h1;rw[Nw.net_cons ha];have:¬G.to a=v:=fun z=>by rw[z,q]at ht;cases ht.2
     rw[if_neg this];omega
   · have h1:=hx.dst v hv q;rw[les_at]at h1;rw[Nw.net_cons ha];have:¬G.fr a=v:=fun z=>by rw[z,q]at hf;cases hf.2
     rw[if_neg this];omega
theorem Nw.Fl.first {G:Nw}{B:Nat→Bool}(hb:G.Bip B){a:Nat}(ha:a<G.K){h w x:Nat→Int}(hx:(G.sh a).Fl B h w x):0≤x 0∧x 0≤h (G.fr a)∧x 0≤w (G.to a):=by
 obtain⟨h0,hx2⟩:=(Nw.fl_cons hb ha).1 hx;have hf:=hb.fr a ha;have ht:=hb.to a ha;have h1:=hx2.src _ hf.1 hf.2;have h2:=hx2.dst _ ht.1 ht.2;have h3:=(hb.sh (a+1)).net_src hx2.g0 hf.2;have h4:=(hb.sh (a+1)).net_dst hx2.g0 ht.2;rw[les_at,if_pos rfl]at h1 h2;omega
def Bef (n:Nat)(x y:Nat→Int):Prop:=∃k,k<n∧(∀j,j<k→x j=y j)∧1≤x k∧(y k=0∨x k<y k)
structure Nw.Best (G:Nw)(B:Nat→Bool)(h w:Nat→Int)(c:Int)(x:Nat→Int):Prop where
 fl:G.Fl B h w x
 cost:G.cost x=c
 le:∀y,G.Fl B h w y→c≤G.cost y
 bef:∀y,G.Fl B h w y→G.cost y=c→(∀k,k<G.K→y k=x k)∨Bef G.K x y
def cmpF {α:Type}(c:α→α→Int):List α→List α→Int
 | [],[]=>0
 | [],_::_=> -1
 |_::_,[]=>1
 |a::l,b::m=>if c a b=0 then cmpF c l m else c a b
structure COrd {α:Type}(c:α→α→Int):Prop where
 eq:∀a b,c a b=0↔a=b
 sw:∀a b,c a b<0↔0<c b a
 tr:∀a b d,c a b<0→c b d<0→c a d<0
theorem COrd.refl {α:Type}{c:α→α→Int}(h:COrd c)(a:α):c a a=0:=(h.eq a a).2 rfl
theorem COrd.list {α:Type}{c:α→α→Int}(h:COrd c):COrd (cmpF c):=by
 refine⟨?_,?_,?_⟩
 · intro a
   induction a with
   |nil=>intro b;cases b<;>simp[cmpF]
   | cons x a ih=>
     intro b
     cases b with
     |nil=>simp[cmpF]
     | cons y b=>
       rw[cmpF]
       by_cases q:c x y=0
       · rw[if_pos q,ih];have:=(h.eq x y).1 q;subst this;simp
       · rw[if_neg q];have:¬x=y:=fun z=>q ((h.eq x y).2 z)
         simp[q,this]
 · intro a
   induction a with
   |nil=>intro b;cases b<;>simp[cmpF]
   | cons x a ih=>
     intro b
     cases b with
     |nil=>simp[cmpF]
     | cons y b=>
       rw[cmpF,cmpF]
       by_cases q:c x y=0
       · have:=(h.eq x y).1 q;subst this;rw[if_pos q,if_pos q];exact ih b
       · have:¬c y x=0:=fun z=>q ((h.eq x y).2 ((h.eq y x).1 z).symm)
         rw[if_neg q,if_neg this];exact h.sw x y
 · intro a
   induction a with
   | nil=>
     intro b d
     cases b with
     |nil=>simp[cmpF]
     |cons y b=>cases d<;>simp[cmpF]
   | cons x a ih=>
     intro b d
     cases b with
     |nil=>simp[cmpF]
     | cons y b=>
       cases d with
       | nil=>
         intro _ h2
         simp[cmpF]at h2
       | cons z d=>
         rw[cmpF,cmpF,cmpF]
         by_cases q:c x y=0
         · have:=(h.eq x y).1 q;subst this;rw[if_pos q]
           by_cases w:c x z=0
           · rw[if_pos w,if_pos w];exact ih b d
           · rw[if_neg w,if_neg w];exact fun _ h2=>h2
         · rw[if_neg q]
           by_cases w:c y z=0
           · have:=(h.eq y z).1 w;subst this;rw[if_pos w,if_neg q];exact fun h1 _=>h1
           · rw[if_neg w];intro h1 h2;have h3:=h.tr x y z h1 h2;rw[if_neg (by omega)];exact h3
structure Pla (μ:Type) where
 l:List μ
 cost:Int
def lessP {μ:Type}(c:μ→μ→Int)(p q:Pla μ):Bool:=if p.cost≠q.cost then decide (p.cost<q.cost)else decide (cmpF c p.l q.l<0)
abbrev PMap (μ:Type):=List UInt8→Option (Pla μ)
def MinOf {μ:Type}(c:μ→μ→Int)(M:PMap μ)(S:List UInt8→Pla μ→Prop):Prop:=
 ∀ σ,match M σ with
  |none=>∀p,¬S σ p
  |some q=>S σ q∧∀p,S σ p→lessP c p q=false
theorem MinOf.congr {μ:Type}{c:μ→μ→Int}{M:PMap μ}{S S':List UInt8→Pla μ→Prop}(h:MinOf c M S)(hs:∀σ p,S σ p↔S' σ p):MinOf c M S':=by
 intro σ;have:=h σ
 cases q:M σ with
 |none=>rw[q]at this;exact fun p hp=>this p ((hs σ p).2 hp)
 |some r=>rw[q]at this;exact⟨(hs σ r).1 this.1,fun p hp=>this.2 p ((hs σ p).2 hp)⟩
structure Stn (μ:Type) where
 way:Nat→Option Int
 mv:Nat→Int→μ
 many:Int
def stL (st:List UInt8)(k:Nat)(n:Int):List UInt8:=st.set k (UInt8.ofNat ((st.getD k 0).toNat - n.toNat))
inductive Cd {μ:Type} (s:Stn μ):Nat→Nat→List UInt8→Int→List UInt8→List μ→Int→Prop
 |fin (k:Nat) (st:List UInt8) (left:Int):Cd s 0 k st left st [] 0
 |skip (d k:Nat) (st:List UInt8) (left:Int) (st':List UInt8) (suf:List μ) (dc:Int) (h:Cd s d (k+1) st left st' suf dc):Cd s (d+1) k st left st' suf dc
 |some (d k:Nat) (st:List UInt8) (left:Int) (st':List UInt8) (suf:List μ) (dc n car:Int) (hw:s.way k=some car) (h1:1≤n) (h2:n≤left) (h3:n≤(st.getD k 0).toNat) (h:Cd s d (k+1) (stL st k n) (left - n) st' suf dc):Cd s (d+1) k st left st' (s.mv k n::suf) (n*car+dc)
structure Lay {μ:Type}(G:Nw)(B:Nat→Bool)(S J:Nat)(ns nw:Nat→Nat)(stn:Nat→Stn μ)(m:Nat→Int→μ)(pos:Nat→Nat→Nat):Prop where
 pend:pos S 0=G.K
 pnext:∀i,i<S→pos (i+1) 0=pos i J
 pnone:∀i k,i<S→k<J→(stn i).way k=none→pos i (k+1)=pos i k
 psome:∀i k car,i<S→k<J→(stn i).way k=some car→pos i (k+1)=pos i k+1∧pos i k<G.K∧G.fr (pos i k)=ns i∧G.to (pos i k)=nw k∧G.c (pos i k)=car∧∀n,m (pos i k) n=(stn i).mv k n
 ns1:∀i,i<S→ns i<G.N∧B (ns i)=true
 ns2:∀i j,i<S→j<S→ns i=ns j→i=j
 nw1:∀k,k<J→nw k<G.N∧B (nw k)=false
 nw2:∀k j,k<J→j<J→nw k=nw j→k=j
 all:∀v,v<G.N→B v=false→∃k,k<J∧v=nw k
structure Rel {μ:Type}(G:Nw)(B:Nat→Bool)(S J:Nat)(ns nw:Nat→Nat)(stn:Nat→Stn μ)(i:Nat)(st:List UInt8)(left:Int)(h w:Nat→Int):Prop where
 l0:0≤left
 hi:i<S→h (ns i)=left
 later:∀j,i<j→j<S→h (ns j)=(stn j).many
 other:∀v,v<G.N→B v=true→(∀j,i≤j→j<S→v≠ns j)→0≤h v
 want:∀k,k<J→w (nw k)=(st.getD k 0).toNat
theorem cmpS_sw (a b:List UInt8):cmpS a b= - cmpS b a:=by
 unfold cmpS
 by_cases e:a=b
 · subst e;simp[less_irr]
 · cases q:Op.bytesLess a b
   · have:=less_tri _ _ q e;simp[this]
   · have:Op.bytesLess b a=false:=by
      cases w:Op.bytesLess b a
      · rfl
      · have:=less_trans q w;rw[less_irr]at this;cases this
     simp[this]
structure Ar3 where
 fr:Nat
 to:Nat
 car:Int
theorem cmpI_sw (a b:Int):cmpI a b= - cmpI b a:=by unfold cmpI;grind
theorem cmpS_lt {a b:List UInt8}:cmpS a b<0↔Op.bytesLess a b=true:=by
 unfold cmpS;constructor
 · intro h;by_cases q:Op.bytesLess a b=true
   · exact q
   · rw[if_neg q]at h;split at h<;>omega
 · intro h;rw[if_pos h];omega
theorem cmpS_zero {a b:List UInt8}:cmpS a b=0↔a=b:=by
 constructor
 · intro h
   by_cases e:a=b
   · exact e
   · exfalso;cases q:Op.bytesLess a b
     · have h2:=less_tri _ _ q e;unfold cmpS at h;rw[q,h2]at h;simp at h
     · have:=cmpS_lt.2 q;omega
 · rintro rfl;unfold cmpS;simp[less_irr]
theorem cmpS_trans {a b c:List UInt8}(h1:cmpS a b<0)(h2:cmpS b c<0):cmpS a c<0:=by
 rw[cmpS_lt]at*;exact less_trans h1 h2
theorem cmpI_lt {a b:Int}:cmpI a b<0↔a<b:=by unfold cmpI;split<;>(try split)<;>omega
theorem cmpI_zero {a b:Int}:cmpI a b=0↔a=b:=by unfold cmpI;split<;>(try split)<;>omega
theorem pasCmp_lt {a b:Pas}:pasCmp a b<0↔a.tm<b.tm∨(a.tm=b.tm∧(cmpS a.gate b.gate<0∨(a.gate=b.gate∧cmpS a.plate b.plate<0))):=by
 unfold pasCmp;simp only[firstE]
 by_cases e1:cmpI a.tm b.tm=0
 · rw [if_pos e1];have f1:=cmpI_zero.1 e1
   by_cases e2:cmpS a.gate b.gate=0
   · rw [if_pos e2];have f2:=cmpS_zero.1 e2
     by_cases e3:cmpS a.plate b.plate=0
     · rw[if_pos e3,f1,f2,e3,e2.symm.trans (by rw[f2])];have:cmpS b.gate b.gate=0:=cmpS_zero.2 rfl;omega
     · rw[if_neg e3,f1,f2];have:cmpS b.gate b.gate=0:=cmpS_zero.2 rfl;constructor
       · intro h;exact .inr ⟨rfl,.inr ⟨rfl,h⟩⟩
       · rintro(h|⟨_,h|⟨_,h⟩⟩)
         · omega
         · omega
         · exact h
   · rw[if_neg e2,f1];constructor
     · intro h;exact .inr ⟨rfl,.inl h⟩
     · rintro(h|⟨_,h|⟨h,_⟩⟩)
       · omega
       · exact h
       · exact absurd (cmpS_zero.2 h) e2
 · rw[if_neg e1,cmpI_lt];constructor
   · intro h;exact .inl h
   · rintro(h|⟨h,_⟩)
     · exact h
     · exact absurd (cmpI_zero.2 h) e1
theorem pasCmp_trans (a b c:Pas)(h1:pasCmp a b<0)(h2:pasCmp b c<0):pasCmp a c<0:=by
 rw[pasCmp_lt]at*;rcases h1 with h1|⟨h1,g1|⟨g1,p1⟩⟩<;>rcases h2 with h2|⟨h2,g2|⟨g2,p2⟩⟩
 · exact .inl (by omega)
 · exact .inl (by omega)
 · exact .inl (by omega)
 · exact .inl (by omega)
 · exact .inr ⟨by omega,.inl (cmpS_trans g1 g2)⟩
 · exact .inr ⟨by omega,.inl (g2 ▸ g1)⟩
 · exact .inl (by omega)
 · exact .inr ⟨by omega,.inl (g1 ▸ g2)⟩
 · exact .inr ⟨by omega,.inr ⟨g1.trans g2,cmpS_trans p1 p2⟩⟩
abbrev srt (l:List Pas):Prop:=l.Pairwise (fun a b=>pasCmp a b<0)
theorem pairwise_step {R:Pas→Pas→Prop}(tr:∀a b c,R a b→R b c→R a c){l:List Pas}(h:∀i,0<i→i<l.length→R (l.getD (i - 1) pa0) (l.getD i pa0)):l.Pairwise R:=by
 rw[List.pairwise_iff_getElem]
 have key:∀k i,(hi:i+k+1<l.length)→R (l[i]'(by omega)) (l[i+k+1]'hi):=by
  intro k
  induction k with
  | zero=>
    intro i hi;have:=h (i+1) (by omega) hi;rw[List.getD_eq_getElem?_getD,List.getD_eq_getElem?_getD,List.getElem?_eq_getElem hi,List.getElem?_eq_getElem (by omega:i+1 - 1<l.length)]at this
    exact this
  | succ k ih=>
    intro i hi;have h1:=ih i (by omega);have:=h (i+k+1+1) (by omega) (by omega);rw[List.getD_eq_getElem?_getD,List.getD_eq_getElem?_getD,List.getElem?_eq_getElem (by omega:i+k+1+1<l.length),List.getElem?_eq_getElem (by omega:i+k+1+1 - 1<l.length)]at this;exact tr _ _ _ h1 this
 intro i j hi hj hij;have:=key (j - i - 1) i (by omega);simp only[show i+(j - i - 1)+1=j by omega]at this;exact this
theorem form_srt {l:List Pas}(h:formE l=0):l.length≤1000∧(∀i,i<l.length→pasE l i=0)∧srt l:=by
 unfold formE at h;split at h
 · cases h
 have h2:=firstAt_all h;refine⟨by omega,h2,pairwise_step pasCmp_trans fun i h0 hi=> ?_⟩;have:=h2 i hi;unfold pasE at this;grind
def oKEnA115_1:OL:= [(0,[]),(1,[]),(2,[0,1]),(3,[0,1]),(5,rg 4),(6,rg 4),(7,[0,1,2,3,5,6]),(8,[0,1,2,3,5,6]),(10,[0,1,2,3,5,6,7,8]),(11,[0,1,2,3,5,6,7,8]),(12,[0,1,2,3,5,6,7,8,10,11]),(13,[0,1,2,3,5,6,7,8,10,11]),(4,[5,6,7,8,10,11,12,13]),(9,[10,11,12,13]),(14,[]),(15,[]),(16,[]),(17,[])]
def prB (s:List UInt8):Bool:=s.all fun b=>decide (32≤b.toNat)&&decide (b.toNat≤126)
theorem prB_iff {s:List UInt8}:prB s=true↔∀j,j<s.length→32≤(s.getD j 0).toNat∧(s.getD j 0).toNat≤126:=by
 unfold prB;rw[List.all_eq_true];constructor
 · intro h j hj;have:=h _ (getD_mem (x:=0) hj);simpa using this
 · intro h x hx;obtain⟨i,hi,rfl⟩:=mem_getD (d:=0) hx;simpa using h i hi
theorem prB_bad {s:List UInt8}{i:Nat}(hi:i<s.length)(h:¬ (32≤(s.getD i 0).toNat∧(s.getD i 0).toNat≤126)):prB s=false:=by
 cases q:prB s with
 |false=>rfl
 |true=>exact absurd (prB_iff.1 q i hi) h
theorem lz149 (s:List UInt8)(hl:s.length≤2^40):FSpec Tryz.prog 114 [.d (.str s)] [] (fun x r=>x= .d (.bool (prB s))∧r= []):=by
 refine spec_of hT (C:= []) Tryz.func114 rfl Tryz.call114 rfl rfl rfl ?_;conv=>whnf
 refine LoopX.rule hT (C:= []) (ι:=Nat) (fun i=>i≤s.length∧∀j,j<i→32≤(s.getD j 0).toNat∧(s.getD j 0).toNat≤126) (fun i=>mkSt [(0,.d (.str s)),(5,.d (.int .i64 s.length)),(6,.d (.int .i64 i))] []) (fun i=>s.length - i) 0 ⟨by omega,by omega⟩ (by exact eAx []) ?_;rintro i ⟨p1,p2⟩;have e1:(i:Int).toNat=i:=Int.toNat_natCast i;conv=>whnf
 repeat' (first|((first|(refine br_intro ?_ ?_<;>intro hb<;>try simp only[brs]at hb)|omega|refine sAx ?_|decide|assumption)<;>conv=>whnf))
 · refine .ret _ ?_;conv=>whnf
   refine⟨[],⟨?_,rfl⟩,trivial⟩;conv=>lhs;whnf
   rw[prB_bad (i:=i) (by omega) (by omega)]
 · refine .ret _ ?_;conv=>whnf
   refine⟨[],⟨?_,rfl⟩,trivial⟩;conv=>lhs;whnf
   rw[prB_bad (i:=i) (by omega) (by omega)]
 · exact⟨i+1,⟨by omega,all_step p2 (by omega)⟩,by omega,(by exact eAx [])⟩
 · refine .ret _ ?_;conv=>whnf
   refine⟨[],⟨?_,rfl⟩,trivial⟩;conv=>lhs;whnf
   have:i=s.length:=by omega
   subst this;rw[prB_iff.2 p2]
def entCmp (a b:Ent):Int:=firstE [cmpI a.tm b.tm,cmpS a.desk b.desk,cmpI a.no b.no]
theorem lz150 (a b:Ent):FSpec Tryz.prog 115 [.agg ((enF a).map .d),.agg ((enF b).map .d)] [] (fun x r=>x= .d (.int .i64 (entCmp a b))∧r= []):=by
 refine spec_of hT (C:= []) Tryz.func115 rfl Tryz.call115 rfl rfl rfl ?_;conv=>whnf
 repeat' (first|(refine CallX.exact (s184 _ _) rfl rfl ?_;rotate_right;conv=>whnf)|(refine CallX.exact (s183 _ _) rfl rfl ?_;rotate_right;conv=>whnf)|((first|refine CallX.pure (s182 [_,_,_] (by simp)) ⟨SV.le_lit (by rfl) (by rfl),trivial⟩ rfl ?_|(refine br_intro ?_ ?_<;>intro hb<;>try simp only[brs]at hb)|refine rAx hT 1 oKEnA115_1 ?_|omega|refine sAx ?_|decide|assumption)<;>conv=>whnf))
 refine .ret _ ?_;conv=>whnf
 refine⟨[],⟨?_,rfl⟩,trivial⟩;conv=>lhs;whnf
 rfl
theorem lz147 (n:Int):FSpec Tryz.prog 78 [.d (.int .i64 n)] [] (fun x r=>x= .d (.int .i64 (cmpI n 0))∧r= []):=by
 refine spec_of hT (C:= []) Tryz.func78 rfl Tryz.call78 rfl rfl rfl ?_;conv=>whnf
 repeat' (first|((first|(refine br_intro ?_ ?_<;>intro hb<;>try simp only[brs]at hb)|omega|refine sAx ?_|decide|assumption)<;>conv=>whnf))
 all_goals
  refine .ret _ ?_;conv=>whnf
  refine⟨[],⟨?_,rfl⟩,trivial⟩;conv=>lhs;whnf
  congr 2
  unfold cmpI;grind
def entR (a:Ent):Prop:=(-2^40≤a.tm∧a.tm≤2^40)∧(-2^40≤a.no∧a.no≤2^40)
theorem cmpI_sub (a b:Int):cmpI (a - b) 0=cmpI a b:=by unfold cmpI;grind
theorem lz63 (a b:Ent)(ha:entR a)(hb0:entR b):FSpec Tryz.prog 68 [.agg ((enF a).map .d),.agg ((enF b).map .d)] [] (fun x r=>x= .d (.int .i64 (entCmp a b))∧r= []):=by
 obtain⟨⟨a1,a2⟩,a3,a4⟩:=ha;obtain⟨⟨b1,b2⟩,b3,b4⟩:=hb0;refine spec_of hT (C:= []) Tryz.func68 rfl Tryz.call68 rfl rfl rfl ?_;conv=>whnf
 repeat' (first|(refine CallX.exact (lz147 _) rfl rfl ?_;rotate_right;conv=>whnf)|(refine CallX.exact (s190 _ _) rfl rfl ?_;rotate_right;conv=>whnf)|((first|(refine br_intro ?_ ?_<;>intro hb<;>try simp only[brs]at hb)|omega|refine sAx ?_|decide|assumption)<;>conv=>whnf))
 · refine .ret _ ?_;conv=>whnf
   refine⟨[],⟨?_,rfl⟩,trivial⟩;conv=>lhs;whnf
   congr 2
   have h0:¬cmpI a.tm b.tm=0:=fun q=>hb (cmpI_zero.1 q)
   rw[cmpI_sub];unfold entCmp;simp only[firstE];rw[if_neg h0]
 · rename_i hb1;refine .ret _ ?_;conv=>whnf
   refine⟨[],⟨?_,rfl⟩,trivial⟩;conv=>lhs;whnf
   congr 2
   have h0:cmpI a.tm b.tm=0:=cmpI_zero.2 (by omega);have h1:¬cmpS a.desk b.desk=0:=fun q=>hb (cmpS_zero.1 q)
   unfold entCmp;simp only[firstE];rw[if_pos h0,if_neg h1]
 · rename_i hb1;refine .ret _ ?_;conv=>whnf
   refine⟨[],⟨?_,rfl⟩,trivial⟩;conv=>lhs;whnf
   congr 2
   have h0:cmpI a.tm b.tm=0:=cmpI_zero.2 (by omega);have h1:cmpS a.desk b.desk=0:=cmpS_zero.2 (by simpa using hb);rw[cmpI_sub];unfold entCmp;simp only[firstE];rw[if_pos h0,if_pos h1];split<;>simp_all
def oKEnB141_4:OL:= [(0,[]),(1,[0]),(2,[]),(3,[]),(4,[]),(5,[4]),(6,[4,5]),(7,[4]),(8,[4]),(9,[4,5,6,7,8]),(10,[4,5,6,7,8,9]),(11,[4,5,6,7,8,9]),(12,[4,5,6,7,8]),(13,[4,5,6,7,8]),(14,[]),(15,[]),(16,[])]
def oKEnB141_6:OL:= [(0,[]),(1,[0]),(2,[0,1]),(3,[0,1,2]),(4,[0,1,2]),(5,rg 5),(6,rg 6),(7,rg 6),(8,rg 5),(9,rg 5),(10,rg 10),(11,rg 11),(12,rg 10),(13,rg 10),(14,[2,3,4]),(15,[2,3,4]),(16,[]),(17,[])]
def sameE (l c:List Ent):Prop:=c.length=l.length∧∀x ∈ c,x ∈ l
theorem sameE_set {l c:List Ent}{j:Nat}{x:Ent}(h:sameE l c)(hx:x ∈ l):sameE l (c.set j x):=
 ⟨by rw[List.length_set];exact h.1,fun y hy=>by rcases List.mem_or_eq_of_mem_set hy with q|q;exact h.2 y q;subst q;exact hx⟩
theorem en208 (g:FuncId)(cmp:Ent→Ent→Int)(l:List Ent)(hl:l.length≤2^40)
 (hcmp:∀p q,p ∈ l→q ∈ l→FSpec Tryz.prog g [.agg ((enF p).map .d),.agg ((enF q).map .d)] [] (fun y r=>y= .d (.int .i64 (cmp p q))∧r= [])):
 FSpec Tryz.prog 141 [.buf 1000001,.d (.int .i64 0),.d (.int .i64 l.length),.fn g []] [(1000001,seqB 164 4 enF en0 l)]
  (fun y r=>y= .tup []∧∃c,sameE l c∧r= [(1000001,seqB 164 4 enF en0 c)]):=by
 refine spec_of hT (C:= []) Tryz.func141 rfl Tryz.call141 rfl rfl rfl ?_;conv=>whnf
 repeat' (first|((first|(refine br_intro ?_ ?_<;>intro hb<;>try simp only[brs]at hb)|refine rAx hT 4 oKEnB141_4 ?_|refine rAx hT 6 oKEnB141_6 ?_|omega|refine sAx ?_|decide|assumption)<;>conv=>whnf))
 refine LoopX.rule hT (C:= []) (ι:=Nat×List Ent) (fun(i,c)=>1≤i∧(i≤l.length∨i=1)∧sameE l c)
  (fun(i,c)=>mkSt [(0,.buf 1000001),(1,.d (.int .i64 0)),(2,.d (.int .i64 l.length)),(3,.fn g []),(8,.d (.int .i64 i))] [(1000001,seqB 164 4 enF en0 c)])
  (fun(i,_)=>l.length - i) (1,l) ⟨by simp,by simp,rfl,fun x h=>h⟩ (by exact eAx [(1000001,1000001)]) ?_
 rintro⟨i,c⟩ ⟨p1,p2,p3⟩;have hc0:=p3.1;conv=>whnf
 repeat' (first|((first|(refine br_intro ?_ ?_<;>intro hb<;>try simp only[brs]at hb)|refine rAx hT 4 oKEnB141_4 ?_|refine rAx hT 6 oKEnB141_6 ?_|omega|refine sAx ?_|decide|assumption)<;>conv=>whnf))
 · refine LoopX.rule hT (C:= []) (ι:=Nat×List Ent) (fun(j,c)=>j≤i∧sameE l c)
    (fun(j,c)=>mkSt [(0,.buf 1000001),(1,.d (.int .i64 0)),(2,.d (.int .i64 l.length)),(3,.fn g []),(8,.d (.int .i64 i)),(9,.d (.int .i64 j))] [(1000001,seqB 164 4 enF en0 c)])
    (fun(j,_)=>j) (i,c) ⟨Nat.le_refl _,p3⟩ (by exact eAx [(1000001,1000001)]) ?_
   rintro⟨j,b⟩ ⟨q1,q3⟩;have hb0:=q3.1;conv=>whnf
   repeat' (first|((first|(refine br_intro ?_ ?_<;>intro hb<;>try simp only[brs]at hb)|refine rAx hT 4 oKEnB141_4 ?_|refine rAx hT 6 oKEnB141_6 ?_|omega|refine sAx ?_|decide|assumption)<;>conv=>whnf))
   · refine CallX.of (hcmp (b.getD (j:Int).toNat en0) (b.getD ((j:Int) - 1).toNat en0) (q3.2 _ (getD_mem (by omega))) (q3.2 _ (getD_mem (by omega)))) [] rfl ⟨lr,lr,trivial⟩ trivial rfl rfl ?_;rintro x rout ⟨rfl,rfl⟩;refine⟨rfl,?_⟩;conv=>whnf
     repeat' (first|((first|(refine br_intro ?_ ?_<;>intro hb<;>try simp only[brs]at hb)|refine rAx hT 4 oKEnB141_4 ?_|refine rAx hT 6 oKEnB141_6 ?_|omega|refine sAx ?_|decide|assumption)<;>conv=>whnf))
     · refine⟨(j - 1,_),⟨by omega,sameE_set (sameE_set q3 (q3.2 _ (getD_mem (i:=((j:Int) - 1).toNat) (x:=en0) (by omega)))) (q3.2 _ (getD_mem (i:=(j:Int).toNat) (x:=en0) (by omega)))⟩,by show j - 1<j;omega,Entails.mk' [(1000001,1000001)] rfl rfl ⟨lr,lr,lr,lr,lr,SV.le_int (by omega),trivial⟩ ⟨Res.le_put2 (fun _=>rfl) (fun _=>rfl),trivial⟩⟩
     · exact⟨(i+1,b),⟨by omega,by omega,q3⟩,by show l.length - (i+1)<l.length - i;omega,(by exact eAx [(1000001,1000001)])⟩
   · exact⟨(i+1,b),⟨by omega,by omega,q3⟩,by show l.length - (i+1)<l.length - i;omega,(by exact eAx [(1000001,1000001)])⟩
 · refine .ret _ ?_;conv=>whnf
   exact⟨_,⟨rfl,c,p3,rfl⟩,rr,trivial⟩
theorem en175l (g:FuncId)(cmp:Ent→Ent→Int)(l:List Ent)(hl:l.length<20)
 (hcmp:∀p q,p ∈ l→q ∈ l→FSpec Tryz.prog g [.agg ((enF p).map .d),.agg ((enF q).map .d)] [] (fun y r=>y= .d (.int .i64 (cmp p q))∧r= [])):
 FSpec Tryz.prog 106 [.buf 1000001,.d (.int .i64 l.length),.fn g []] [(1000001,seqB 164 4 enF en0 l)]
  (fun y r=>y= .tup []∧∃c,sameE l c∧r= [(1000001,seqB 164 4 enF en0 c)]):=by
 refine spec_of hT (C:= []) Tryz.func106 rfl Tryz.call106 rfl rfl rfl ?_;conv=>whnf
 refine LoopX.rule hT (C:= []) (ι:=Unit) (fun _=>True) (fun _=>mkSt [(0,.buf 1000001),(1,.d (.int .i64 l.length)),(2,.fn g []),(6,.d (.int .i64 20)),(7,.d (.int .i64 0)),(8,.d (.int .i64 20))] [(1000001,seqB 164 4 enF en0 l)]) (fun _=>0) () trivial (by exact eAx [(1000001,1000001)]) ?_;rintro⟨⟩ -;conv=>whnf
 repeat' (first|((first|(refine br_intro ?_ ?_<;>intro hb<;>try simp only[brs]at hb)|omega|refine sAx ?_|decide|assumption)<;>conv=>whnf))
 refine oAx (en208 g cmp l (by omega) hcmp) [(1000001,1000001)] ?_;rintro x rout ⟨rfl,c,hc,rfl⟩;refine⟨rfl,?_⟩;conv=>whnf
 refine LoopX.rule hT (C:= []) (ι:=Unit) (fun _=>True) (fun _=>mkSt [(0,.buf 1000001),(1,.d (.int .i64 l.length)),(2,.fn g []),(6,.d (.int .i64 20))] [(1000001,seqB 164 4 enF en0 c)]) (fun _=>0) () trivial (by exact eAx [(1000001,1000001)]) ?_;rintro⟨⟩ -;conv=>whnf
 repeat' (first|((first|(refine br_intro ?_ ?_<;>intro hb<;>try simp only[brs]at hb)|omega|refine sAx ?_|decide|assumption)<;>conv=>whnf))
 refine .ret _ ?_;conv=>whnf
 exact⟨_,⟨rfl,c,hc,rfl⟩,rr,trivial⟩
theorem sameE_trans {a b c:List Ent}(h:sameE a b)(k:sameE b c):sameE a c:=⟨k.1.trans h.1,fun x hx=>h.2 x (k.2 x hx)⟩
theorem en208e (g:FuncId)(l:List Ent):
 FSpec Tryz.prog 141 [.buf 1000001,.d (.int .i64 20),.d (.int .i64 20),.fn g []] [(1000001,seqB 164 4 enF en0 l)]
  (fun y r=>y= .tup []∧r= [(1000001,seqB 164 4 enF en0 l)]):=by
 refine spec_of hT (C:= []) Tryz.func141 rfl Tryz.call141 rfl rfl rfl ?_;conv=>whnf
 repeat' (first|((first|(refine br_intro ?_ ?_<;>intro hb<;>try simp only[brs]at hb)|refine rAx hT 4 oKEnB141_4 ?_|refine rAx hT 6 oKEnB141_6 ?_|omega|refine sAx ?_|decide|assumption)<;>conv=>whnf))
 refine LoopX.rule hT (C:= []) (ι:=Unit) (fun _=>True) (fun _=>mkSt [(0,.buf 1000001),(1,.d (.int .i64 20)),(2,.d (.int .i64 20)),(3,.fn g []),(8,.d (.int .i64 21))] [(1000001,seqB 164 4 enF en0 l)]) (fun _=>0) () trivial (by exact eAx [(1000001,1000001)]) ?_;rintro⟨⟩ -;conv=>whnf
 repeat' (first|((first|(refine br_intro ?_ ?_<;>intro hb<;>try simp only[brs]at hb)|refine rAx hT 4 oKEnB141_4 ?_|refine rAx hT 6 oKEnB141_6 ?_|omega|refine sAx ?_|decide|assumption)<;>conv=>whnf))
 refine .ret _ ?_;conv=>whnf
 exact⟨_,⟨rfl,rfl⟩,rr,trivial⟩
theorem en175t (g:FuncId)(cmp:Ent→Ent→Int)(l:List Ent)(hl:l.length=20)
 (hcmp:∀p q,p ∈ l→q ∈ l→FSpec Tryz.prog g [.agg ((enF p).map .d),.agg ((enF q).map .d)] [] (fun y r=>y= .d (.int .i64 (cmp p q))∧r= [])):
 FSpec Tryz.prog 106 [.buf 1000001,.d (.int .i64 l.length),.fn g []] [(1000001,seqB 164 4 enF en0 l)]
  (fun y r=>y= .tup []∧∃c,sameE l c∧r= [(1000001,seqB 164 4 enF en0 c)]):=by
 have h20:(l.length:Int)=20:=by omega
 rw[h20];refine spec_of hT (C:= []) Tryz.func106 rfl Tryz.call106 rfl rfl rfl ?_;conv=>whnf
 refine LoopX.rule hT (C:= []) (ι:=Bool×List Ent) (fun(_,c)=>sameE l c) (fun(b,c)=>mkSt [(0,.buf 1000001),(1,.d (.int .i64 20)),(2,.fn g []),(6,.d (.int .i64 20)),(7,.d (.int .i64 (bif b then 20 else 0))),(8,.d (.int .i64 (bif b then 40 else 20)))] [(1000001,seqB 164 4 enF en0 c)]) (fun(b,_)=>bif b then 0 else 1) (false,l) ⟨rfl,fun x h=>h⟩ (by exact eAx [(1000001,1000001)]) ?_;rintro⟨b,c⟩ hc;have hc:sameE l c:=hc;cases b
 · have c1:=en208 g cmp c (by have:=hc.1;omega) (fun p q hp hq=>hcmp p q (hc.2 p hp) (hc.2 q hq));have h2:(c.length:Int)=20:=by have:=hc.1;omega
   rw[h2]at c1;conv=>whnf
   repeat' (first|((first|(refine br_intro ?_ ?_<;>intro hb<;>try simp only[brs]at hb)|omega|refine sAx ?_|decide|assumption)<;>conv=>whnf))
   refine oAx c1 [(1000001,1000001)] ?_;rintro x rout ⟨rfl,d,hd,rfl⟩;refine⟨rfl,?_⟩;conv=>whnf
   repeat' (first|((first|(refine br_intro ?_ ?_<;>intro hb<;>try simp only[brs]at hb)|omega|refine sAx ?_|decide|assumption)<;>conv=>whnf))
   exact⟨(true,d),sameE_trans hc hd,by show(0:Nat)<1;omega,(by exact eAx [(1000001,1000001)])⟩
 · conv=>whnf
   repeat' (first|((first|(refine br_intro ?_ ?_<;>intro hb<;>try simp only[brs]at hb)|omega|refine sAx ?_|decide|assumption)<;>conv=>whnf))
   refine oAx (en208e g c) [(1000001,1000001)] ?_;rintro x rout ⟨rfl,rfl⟩;refine⟨rfl,?_⟩;conv=>whnf
   refine LoopX.rule hT (C:= []) (ι:=Unit) (fun _=>True) (fun _=>mkSt [(0,.buf 1000001),(1,.d (.int .i64 20)),(2,.fn g []),(6,.d (.int .i64 20))] [(1000001,seqB 164 4 enF en0 c)]) (fun _=>0) () trivial (by exact eAx [(1000001,1000001)]) ?_;rintro⟨⟩ -;conv=>whnf
   repeat' (first|((first|(refine br_intro ?_ ?_<;>intro hb<;>try simp only[brs]at hb)|omega|refine sAx ?_|decide|assumption)<;>conv=>whnf))
   refine .ret _ ?_;conv=>whnf
   exact⟨_,⟨rfl,c,hc,rfl⟩,rr,trivial⟩
theorem en175 (g:FuncId)(cmp:Ent→Ent→Int)(l:List Ent)(hl:l.length≤20)
 (hcmp:∀p q,p ∈ l→q ∈ l→FSpec Tryz.prog g [.agg ((enF p).map .d),.agg ((enF q).map .d)] [] (fun y r=>y= .d (.int .i64 (cmp p q))∧r= [])):
 FSpec Tryz.prog 106 [.buf 1000001,.d (.int .i64 l.length),.fn g []] [(1000001,seqB 164 4 enF en0 l)]
  (fun y r=>y= .tup []∧∃c,sameE l c∧r= [(1000001,seqB 164 4 enF en0 c)]):=by
 rcases Nat.lt_or_ge l.length 20 with h|h
 · exact en175l g cmp l h hcmp
 · exact en175t g cmp l (by omega) hcmp
theorem en126 (g:FuncId)(cmp:Ent→Ent→Int)(l:List Ent)(hl:l.length≤20)
 (hcmp:∀p q,p ∈ l→q ∈ l→FSpec Tryz.prog g [.agg ((enF p).map .d),.agg ((enF q).map .d)] [] (fun y r=>y= .d (.int .i64 (cmp p q))∧r= [])):
 FSpec Tryz.prog 67 [.buf 1000001,.fn g []] [(1000001,seqB 164 4 enF en0 l)]
  (fun y r=>y= .tup []∧∃c,sameE l c∧r= [(1000001,seqB 164 4 enF en0 c)]):=by
 refine spec_of hT (C:= []) Tryz.func67 rfl Tryz.call67 rfl rfl rfl ?_;conv=>whnf
 repeat' (first|((first|(refine br_intro ?_ ?_<;>intro hb<;>try simp only[brs]at hb)|omega|refine sAx ?_|decide|assumption)<;>conv=>whnf))
 refine oAx (en175 g cmp l hl hcmp) [(1000001,1000001)] ?_;rintro x rout ⟨rfl,c,hc,rfl⟩;refine⟨rfl,?_⟩;conv=>whnf
 refine .ret _ ?_;conv=>whnf
 exact⟨_,⟨rfl,c,hc,rfl⟩,rr,trivial⟩
def oKEnC24_9:OL:= [(0,[]),(1,[]),(2,[]),(3,[]),(4,[3]),(5,[3]),(6,[]),(7,[]),(8,[3,4,5,6,7]),(9,[]),(10,[]),(11,[])]
theorem lxF_posE {p:Nat→Bool}{n k:Nat}(hk:k<n)(h:p k=true):0≤ixF p n:=by
 have hb:=ixF_bd (p:=p) (n:=n);rcases Int.lt_or_le (ixF p n) 0 with q|q
 · exfalso
   have hn :∀m,ixF p m<0→∀j,j<m→p j=false:=by
    intro m
    induction m with
    |zero=>intro _ j hj;omega
    | succ m ih=>
      intro hm j hj;rw[ixF]at hm;split at hm
      · rename_i hz
        by_cases hjm:j=m
        · subst hjm;split at hm
          · omega
          · rename_i hf;simpa using hf
        · exact ih (by omega) j (by omega)
      · rename_i hz;have:=(ixF_bd (p:=p) (n:=m)).1;omega
   rw[hn n q k hk]at h;cases h
 · exact q
theorem ent_eq {a b:Ent}:a=b↔((a.tm=b.tm∧a.desk=b.desk)∧a.no=b.no)∧a.words=b.words:=by cases a;cases b;simp[and_assoc]
instance:DecidableEq Ent:=fun _ _=>decidable_of_iff _ ent_eq.symm
def enHas (l:List Ent):List DV→Bool
 | [.str a,.int .i64 b]=>l.any fun y=>y.desk==a&&decide (y.no=b)
 |_=>false
def dupE (l:List Ent)(x:Ent):Bool:=enHas l [.str x.desk,.int .i64 x.no]
abbrev enR (l:List Ent):Res:=.map true false [.str,.int .i64] [.bool false] (enHas l) (fun k=> [.bool (enHas l k)])
def eqE (y x:Ent):Bool:=y.desk==x.desk&&decide (y.no=x.no)
def ecell (x:Ent):Res:=.cells 164 ((enF x).map .d)
theorem lz71 (y x:Ent):FSpec Tryz.prog 71 [.agg ((enF y).map .d),.ptr 1000001 0] [(1000001,ecell x)] (fun v r=>v= .d (.bool (eqE y x))∧r= [(1000001,ecell x)]):=by
 refine spec_of hT (C:= []) Tryz.func71 rfl Tryz.call71 rfl rfl rfl ?_;conv=>whnf
 repeat' (first|((first|(refine br_intro ?_ ?_<;>intro hb<;>try simp only[brs]at hb)|omega|refine sAx ?_|decide|assumption)<;>conv=>whnf))
 all_goals
  refine .ret _ ?_;conv=>whnf
  refine⟨[(1000001,ecell x)],⟨?_,rfl⟩,rr,trivial⟩;conv=>lhs;whnf
  congr 2
  unfold eqE
  first
   |(rw[hb];simp;done)
   | (have:(y.desk==x.desk)=false:=by simpa using hb
      rw[this];rfl)
   |simp_all
theorem lz152 (l:List Ent)(hl:l.length≤2^40)(x:Ent):FSpec Tryz.prog 111 [.d (ents l),.fn 71 [.ptr 1000001 0]] [(1000001,ecell x)] (fun v r=>v= .d (.int .i64 (ixF (fun i=>eqE (l.getD i en0) x) l.length))∧r= [(1000001,ecell x)]):=by
 refine spec_of hT (C:= []) Tryz.func111 rfl Tryz.call111 rfl rfl rfl ?_;conv=>whnf
 refine LoopX.rule hT (C:= []) (ι:=Nat) (fun i=>i≤l.length∧∀j,j<i→eqE (l.getD j en0) x=false) (fun i=>mkSt [(0,.d (ents l)),(1,.fn 71 [.ptr 1000001 0]),(7,.d (.int .i64 l.length)),(8,.d (.int .i64 i))] [(1000001,ecell x)]) (fun i=>l.length - i) 0 ⟨by omega,by omega⟩ (by exact eAx [(1000001,1000001)]) ?_;rintro i ⟨p1,p2⟩;have e1:(i:Int).toNat=i:=Int.toNat_natCast i;conv=>whnf
 repeat' (first|((first|(refine oAx (lz71 (l.getD (i:Int).toNat en0) x) [(1000001,1000001)] ?_;rintro v rout ⟨rfl,rfl⟩;refine⟨rfl,?_⟩)|(refine br_intro ?_ ?_<;>intro hb<;>try simp only[brs]at hb)|omega|refine sAx ?_|decide|assumption)<;>conv=>whnf))
 · refine .ret _ ?_;conv=>whnf
   refine⟨[(1000001,ecell x)],⟨?_,rfl⟩,rr,trivial⟩;conv=>lhs;whnf
   congr 2
   exact(ixF_hit (by omega) p2 (by simpa using hb)).symm
 · exact⟨i+1,⟨by omega,all_step p2 (by simpa using hb)⟩,by omega,(by exact eAx [(1000001,1000001)])⟩
 · refine .ret _ ?_;conv=>whnf
   refine⟨[(1000001,ecell x)],⟨?_,rfl⟩,rr,trivial⟩;conv=>lhs;whnf
   congr 2
   have:i=l.length:=by omega
   subst this;exact(ixF_none p2).symm
theorem dup_ix (l:List Ent)(x:Ent):decide (0≤ixF (fun i=>eqE (l.getD i en0) x) l.length)=dupE l x:=by
 rw[Bool.eq_iff_iff,decide_eq_true_eq];show _↔(l.any fun y=>y.desk==x.desk&&decide (y.no=x.no))=true;rw[List.any_eq_true];constructor
 · intro h;have:=ixF_bd (p:=fun i=>eqE (l.getD i en0) x) (n:=l.length);exact⟨_,getD_mem (x:=en0) (by omega),this.2.2 h⟩
 · rintro⟨y,hy,he⟩;obtain⟨j,hj,rfl⟩:=mem_getD (d:=en0) hy;exact lxF_posE hj he
theorem lz70 (l:List Ent)(hl:l.length≤2^40)(x:Ent):FSpec Tryz.prog 70 [.d (ents l),.fn 71 [.ptr 1000001 0]] [(1000001,ecell x)] (fun v r=>v= .d (.bool (dupE l x))∧r= [(1000001,ecell x)]):=by
 refine spec_of hT (C:= []) Tryz.func70 rfl Tryz.call70 rfl rfl rfl ?_;conv=>whnf
 repeat' (first|((first|(refine oAx (lz152 l hl x) [(1000001,1000001)] ?_;rintro v rout ⟨rfl,rfl⟩;refine⟨rfl,?_⟩)|(refine br_intro ?_ ?_<;>intro hb<;>try simp only[brs]at hb)|omega|refine sAx ?_|decide|assumption)<;>conv=>whnf))
 refine .ret _ ?_;conv=>whnf
 refine⟨[(1000001,ecell x)],⟨?_,rfl⟩,rr,trivial⟩;conv=>lhs;whnf
 rw[←dup_ix]
def frmE (x:Ent):Int:=if ¬ (0≤x.tm∧x.tm≤5761439)then 1 else if isKeyB x.desk=false then 5 else if ¬ (1≤x.no∧x.no≤1000000)then 1 else if ¬ (1≤x.words.length∧x.words.length≤200)then 3 else if prB x.words=false then 3 else 0
def entE (l:List Ent)(i:Nat):Int:=if frmE (l.getD i en0)≠0 then frmE (l.getD i en0)else if 0<i∧0≤entCmp (l.getD (i - 1) en0) (l.getD i en0)then 7 else if dupE (l.take i) (l.getD i en0)=true then 6 else 0
def entsE (l:List Ent):Int:=if 1000<l.length then 2 else firstAt (entE l) l.length
def entK (x:Ent):Prop:=(x.desk.length≤2^40∧x.words.length≤2^40)∧entR x
def entOk (l:List Ent):Prop:=l.length≤2^40∧∀x ∈ l,entK x
theorem lz69 (x:Ent)(hk:entK x):FSpec Tryz.prog 69 [.agg ((enF x).map .d)] [] (fun v r=>v= .d (.int .i64 (frmE x))∧r= []):=by
 have hw:=hk.1.2;refine spec_of hT (C:= []) Tryz.func69 rfl Tryz.call69 rfl rfl rfl ?_;conv=>whnf
 repeat' (first|(refine CallX.exact (s133 _) rfl rfl ?_;rotate_right;conv=>whnf)|(refine CallX.exact (s21 _ hk.1.1) rfl rfl ?_;rotate_right;conv=>whnf)|(refine CallX.exact (s109 _ _ _) rfl rfl ?_;rotate_right;conv=>whnf)|((first|(refine br_intro ?_ ?_<;>intro hb<;>try simp only[brs]at hb)|omega|refine sAx ?_|decide|assumption)<;>conv=>whnf))
 iterate 4
  · refine .ret _ ?_;conv=>whnf
    refine⟨[],⟨?_,rfl⟩,trivial⟩;conv=>lhs;whnf
    congr 2
    unfold frmE;grind
 have hf:frmE x=if prB x.words=false then 3 else 0:=by unfold frmE;grind
 rw[hf];refine LoopX.rule hT (C:= []) (ι:=Nat) (fun i=>i≤x.words.length∧∀j,j<i→32≤(x.words.getD j 0).toNat∧(x.words.getD j 0).toNat≤126) (fun i=>mkSt [(1,.ptr 1 0),(27,.d (.int .i64 x.words.length)),(28,.d (.int .i64 i))] [(1,ecell x)]) (fun i=>x.words.length - i) 0 ⟨by omega,by omega⟩ (by exact eAx [(1,1)]) ?_;rintro i ⟨p1,p2⟩;have e1:(i:Int).toNat=i:=Int.toNat_natCast i;have hby:(x.words.getD (i:Int).toNat 0).toNat<256:=UInt8.toNat_lt _;have hby2:(x.words.getD i 0).toNat<256:=UInt8.toNat_lt _;conv=>whnf
 repeat' (first|(refine CallX.exact (s109 _ _ _) rfl rfl ?_;rotate_right;conv=>whnf)|((first|(refine br_intro ?_ ?_<;>intro hb<;>try simp only[brs]at hb)|omega|refine sAx ?_|decide|assumption)<;>conv=>whnf))
 · refine .ret _ ?_;conv=>whnf
   refine⟨[],⟨?_,rfl⟩,trivial⟩;conv=>lhs;whnf
   congr 2
   rw[prB_bad (i:=i) (by omega) (by omega)];rfl
 · exact⟨i+1,⟨by omega,all_step p2 (by omega)⟩,by omega,(by exact eAx [(1,1)])⟩
 · refine .ret _ ?_;conv=>whnf
   refine⟨[],⟨?_,rfl⟩,trivial⟩;conv=>lhs;whnf
   congr 2
   have:i=x.words.length:=by omega
   subst this;rw[prB_iff.2 p2];rfl
theorem le_takeE {l:List Ent}{i:Nat}(h:i≤l.length):SV.le (.d (.ro 4 i fun j=>rowF enF en0 l (0+j))) (.d (ents (l.take i))):=
 SV.le_ro (by rw[List.length_take];omega) (fun j hj=>by
  simp only[Nat.zero_add,rowF]
  rw[List.getD_eq_getElem?_getD,List.getD_eq_getElem?_getD,List.getElem?_take_of_lt hj])
theorem entE_hit {l:List Ent}{i:Nat}{e:Int}(h0:¬ 1000<l.length)(h:i<l.length)(p:∀j,j<i→entE l j=0)(h1:e≠0)(h2:entE l i=e):entsE l=e:=by
 unfold entsE;rw[if_neg h0];exact firstAt_eq h p h1 h2
theorem lz12 (l:List Ent)(hk:entOk l):FSpec Tryz.prog 24 [.d (ents l)] [] (fun x r=>x= .d (.int .i64 (entsE l))∧r= []):=by
 refine spec_of hT (C:= []) Tryz.func24 rfl Tryz.call24 rfl rfl rfl ?_;conv=>whnf
 refine br_intro (fun h0=> ?_) (fun h0=> ?_)
 · simp at h0;conv=>whnf
   refine .ret _ ?_;conv=>whnf
   refine⟨[],⟨?_,rfl⟩,trivial⟩;conv=>lhs;whnf
   unfold entsE;rw[if_pos (by omega)]
 simp at h0;conv=>whnf
 refine LoopX.rule hT (C:= []) (ι:=Nat) (fun i=>i≤l.length∧∀j,j<i→entE l j=0) (fun i=>mkSt [(0,.d (ents l)),(9,.d (ents l)),(10,.d (.int .i64 l.length)),(11,.d (.int .i64 i))] []) (fun i=>l.length - i) 0 ⟨by omega,by omega⟩ (by exact eAx []) ?_;rintro i ⟨p1,p2⟩;have e1:(i:Int).toNat=i:=Int.toNat_natCast i;have hx:∀i,i<l.length→entK (l.getD i en0):=fun i hi=>hk.2 _ (getD_mem hi)
 have hK:entK (l.getD (i:Int).toNat en0):=by
  rw[e1];rcases Nat.lt_or_ge i l.length with q|q
  · exact hx i q
  · rw[List.getD_eq_getElem?_getD,List.getElem?_eq_none q];simp[entK,entR,en0]
 have hK2:entK (l.getD ((i:Int) - 1).toNat en0):=by
  rcases Nat.lt_or_ge ((i:Int) - 1).toNat l.length with q|q
  · exact hx _ q
  · rw[List.getD_eq_getElem?_getD,List.getElem?_eq_none q];simp[entK,entR,en0]
 have hD:=lz70 (l.take (i:Int).toNat) (by rw[List.length_take];have:=hk.1;omega) (l.getD (i:Int).toNat en0);conv=>whnf
 repeat' (first|(refine CallX.exact (lz69 _ hK) rfl rfl ?_;rotate_right;conv=>whnf)|(refine CallX.exact (lz63 (l.getD ((i:Int) - 1).toNat en0) (l.getD (i:Int).toNat en0) hK2.2 hK.2) rfl rfl ?_;rotate_right;conv=>whnf)|((first|(refine CallX.of hD [(1000001,4)] rfl ⟨le_takeE (by omega),lr,trivial⟩ ⟨rr,trivial⟩ rfl rfl ?_;rintro v rout ⟨rfl,rfl⟩;refine⟨rfl,?_⟩)|(refine br_intro ?_ ?_<;>intro hb<;>try simp only[brs]at hb)|refine rAx hT 9 oKEnC24_9 ?_|omega|refine sAx ?_|decide|assumption)<;>conv=>whnf))
 all_goals clear hD hK hK2 hx
 all_goals first
  |(refine⟨i+1,⟨by omega,first_step p2 (by clear p2 hk;simp only[e1,toNat_pred]at*;unfold entE;grind)⟩,by omega,(by exact eAx [])⟩)
  | (refine .ret _ ?_
     conv=>whnf
     refine⟨[],⟨?_,rfl⟩,trivial⟩;conv=>lhs;whnf
     congr 2
     first
      |exact(entE_hit (by omega) (by omega) p2 hb (by clear p2 hk;simp only[e1,toNat_pred]at*;unfold entE;grind)).symm
      |exact(entE_hit (by omega) (by omega) p2 (by decide) (by clear p2 hk;simp only[e1,toNat_pred]at*;unfold entE;grind)).symm
      | (have:i=l.length:=by omega
         subst this
         unfold entsE;rw[if_neg (by omega),firstAt_zero p2]))
def oKEnD74_16:OL:= [(0,[]),(1,[]),(2,[]),(3,[]),(4,[3]),(5,[3]),(6,[]),(7,[]),(8,[3,4,5,6,7]),(9,[]),(10,[]),(11,[]),(12,[])]
theorem wk_si {key:List DV}(h:wk [.str,.int .i64] key=true):∃a b,key= [.str a,.int .i64 b]:=by
 match key,h with
 | [.str a,.int k d],h=>
   have:IntKind.i64=k:=kEq_eq (by simpa [wk,wk1]using h);subst this
   exact⟨a,d,rfl⟩
 | .str _:: .int _ _::_::_,h=>simp[wk]at h
theorem enR_up {l:List Ent}{i:Nat}{x:Ent}(hi:i<l.length)(hx:x=l.getD i en0):
 Res.le (.map true false [.str,.int .i64] [.bool false] (fun q=>keyEq q [.str x.desk,.int .i64 x.no]||enHas (l.take i) q) (fun q=>bif keyEq q [.str x.desk,.int .i64 x.no]then [.bool true]else [.bool (enHas (l.take i) q)])) (enR (l.take (i+1))):=Res.le_map fun K hK=>by
 obtain⟨a,b,rfl⟩:=wk_si hK
 have e:l.take (i+1)=l.take i++ [x]:=by
  rw[hx,List.take_add_one];simp[List.getD_eq_getElem?_getD,hi]
 have h1:enHas (l.take (i+1)) [.str a,.int .i64 b]=(enHas (l.take i) [.str a,.int .i64 b]||(x.desk==a&&decide (x.no=b))):=by
  show(l.take (i+1)).any _=_;rw[e,List.any_append];simp[enHas]
 have h2:keyEq [.str a,.int .i64 b] [.str x.desk,.int .i64 x.no]=(x.desk==a&&decide (x.no=b)):=by
  rw[Bool.eq_iff_iff];simp[keyEq,keyEq1];grind
 rw[h1,h2];cases hq:(x.desk==a&&decide (x.no=b))<;>simp
theorem lz64 (l:List Ent)(hk:entOk l):FSpec Tryz.prog 74 [.d (ents l)] [] (fun x r=>x= .d (.int .i64 (entsE l))∧r= []):=by
 refine spec_of hT (C:= []) Tryz.func74 rfl Tryz.call74 rfl rfl rfl ?_;conv=>whnf
 refine br_intro (fun h0=> ?_) (fun h0=> ?_)
 · simp at h0;conv=>whnf
   refine .ret _ ?_;conv=>whnf
   refine⟨[],⟨?_,rfl⟩,trivial⟩;conv=>lhs;whnf
   unfold entsE;rw[if_pos (by omega)]
 simp at h0;conv=>whnf
 refine LoopX.rule hT (C:= []) (ι:=Nat) (fun i=>i≤l.length∧∀j,j<i→entE l j=0) (fun i=>mkSt [(0,.d (ents l)),(3,.mp 3),(11,.d (ents l)),(12,.d (.int .i64 l.length)),(13,.d (.int .i64 i))] [(3,enR (l.take i))]) (fun i=>l.length - i) 0 ⟨by omega,by omega⟩ ?_ ?_
 · refine Entails.mk' [(3,10)] rfl rfl ⟨lr,lr,lr,lr,lr,trivial⟩ ⟨Res.le_map (fun key hk=> ?_),trivial⟩;obtain⟨a,b,rfl⟩:=wk_si hk;exact⟨rfl,rfl⟩
 rintro i ⟨p1,p2⟩;have e1:(i:Int).toNat=i:=Int.toNat_natCast i;have hx:∀i,i<l.length→entK (l.getD i en0):=fun i hi=>hk.2 _ (getD_mem hi)
 have hK:entK (l.getD (i:Int).toNat en0):=by
  rw[e1];rcases Nat.lt_or_ge i l.length with q|q
  · exact hx i q
  · rw[List.getD_eq_getElem?_getD,List.getElem?_eq_none q];simp[entK,entR,en0]
 conv=>whnf
 repeat' (first|(refine CallX.exact (s154 _) rfl rfl ?_;rotate_right;conv=>whnf)|(refine CallX.exact (s108 _ hK.1.1) rfl rfl ?_;rotate_right;conv=>whnf)|(refine CallX.exact (s119 _ _ _) rfl rfl ?_;rotate_right;conv=>whnf)|(refine CallX.exact (lz149 _ hK.1.2) rfl rfl ?_;rotate_right;conv=>whnf)|(refine CallX.exact (lz150 (l.getD ((i:Int) - 1).toNat en0) (l.getD (i:Int).toNat en0)) rfl rfl ?_;rotate_right;conv=>whnf)|(refine And.intro (rfl:zrow _=some [DV.bool false]) ?_;conv=>whnf)|(simp only[Nat.beq_refl,cond_true];conv=>whnf)|((first|(refine br_intro ?_ ?_<;>intro hb<;>try simp only[brs]at hb)|refine rAx hT 16 oKEnD74_16 ?_|omega|refine sAx ?_|decide|assumption)<;>conv=>whnf))
 all_goals have hwl:(l.getD i en0).words= []↔(l.getD i en0).words.length=0:=List.length_eq_zero_iff.symm
 all_goals clear hK hx
 all_goals first
  |(refine⟨i+1,⟨by omega,first_step p2 (by clear p2 hk;simp only[e1,toNat_pred]at*;unfold entE frmE dupE;grind)⟩,by omega,Entails.mk' [(3,3)] rfl rfl ⟨lr,lr,lr,lr,lr,trivial⟩ ⟨enR_up (x:=l.getD (i:Int).toNat en0) (by omega) (by rw[e1]),trivial⟩⟩)
  | (refine .ret _ ?_
     conv=>whnf
     refine⟨[],⟨?_,rfl⟩,trivial⟩;conv=>lhs;whnf
     congr 2
     first
      |exact(entE_hit (by omega) (by omega) p2 (by decide) (by clear p2 hk;simp only[e1,toNat_pred]at*;unfold entE frmE dupE;grind)).symm
      | (have:i=l.length:=by omega
         subst this
         unfold entsE;rw[if_neg (by omega),firstAt_zero p2]))
end Go.Proofs.YtjibpcoeghlnoaaGreatDoor
