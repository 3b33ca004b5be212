/- EntriesFollow is proved: for every input the law returns true, and its argument reads afterwards as it read before. Conditions: those of the given row alone. -/
import Derived.Test.YtafhoijegjmdcaaGreatDoorLzConOct
import Derived.Test.YtafhoijegjmdcaaGreatDoorLzConQui
import Derived.Test.YtafhoijegjmdcaaGreatDoorLzConTwo
import Derived.Test.YtafhoijegjmdcaaGreatDoorLzConOne
import Derived.Test.YtafhoijegjmdcaaGreatDoorLzConSex
import Derived.Test.YtafhoijegjmdcaaGreatDoorLzConTri
set_option linter.unusedVariables false
set_option linter.unusedSimpArgs false
set_option maxHeartbeats 16000000
set_option maxRecDepth 20000
namespace Go.Proofs.YtafhoijegjmdcaaGreatDoor
open Go Go.Eng
theorem KO (n:Nat)(L:Nat→Int)(hL:oW n L)(a:Int)(h0:0≤a)(ha:a≤2^36):
 ae Tryz.prog 105 [.ptr 1000000 0] [(1000000,bd n L a)] (fun y r=>∃l:List lB,∃b,dA BZ 3 l∧(a≤b∧b≤a+300)∧y= .buf 3∧r= [(3,aD 127 15 pG fZ l),(1000000,bd n L b)]):=by
 refine aj hT Tryz.func105 Tryz.call105 ?_;conv=>whnf
 refine af hT (C:= []) (ι:=Int×List lB×Nat) (fun(b,l,i)=>(a≤b∧b≤a+100*i∧i≤3)∧dA BZ i l)
  (fun(b,l,i)=>aJ [(0,.ptr 1000000 0),(3,.buf 3),(9,.d (bU [[115,49],[115,50],[115,51]])),(10,.d (.int .i64 3)),(11,.d (.int .i64 i))] [(1000000,bd n L b),(3,aD 127 15 pG fZ l)])
  (fun(_,_,i)=>3 - i) (a,[],0) ⟨⟨by simp,by simp,by simp⟩,⟨by simp,by simp⟩⟩ ?_ ?_
 · refine(du.nil 3 3 127 15 (aR pG fZ []) rfl rfl (by decide)).trans (ac [(1000000,1000000),(3,3)] rfl rfl ⟨lr,lr,ai rfl rfl,lr,lr,trivial⟩ ⟨rr,rr,trivial⟩)
 rintro⟨b,l,i⟩ ⟨⟨p1,p2,p3⟩,p4⟩;have p1:a≤b:=p1;have p2:b≤a+100*i:=p2;have p3:i≤3:=p3;have p4:dA BZ i l:=p4;have hl1:l.length≤i:=p4.1;have e1:=ek i;conv=>whnf
 repeat' (first|(refine dp (pn n L hL _ ?_ ?_ 5 ?_) [(1000000,1000000)] ?_;rotate_right;rintro x rout ⟨⟨w,rfl⟩,⟨c,c1,c2,rfl⟩⟩;refine⟨rfl,?_⟩;conv=>whnf)|((first|refine aa ?_ ?_<;>intro hb<;>try simp only[am]at hb|omega|refine ao ?_|decide|assumption)<;>conv=>whnf))
 · exact⟨(c,l,i+1),⟨⟨by omega,by show _≤a+100*((i+1:Nat):Int);omega,by omega⟩,bo p4 (by omega)⟩,by show 3 - (i+1)<3 - i;omega,(by exact a7 [(1000000,1000000),(3,3)])⟩
 · have hkk:(([[115,49],[115,50],[115,51]]:List (List UInt8)).getD (i:Int).toNat []).length≤8:=bu (al (by show(i:Int).toNat<3;omega)) rfl;obtain⟨cc,rfl⟩:∃cc:Int,cc=c:=⟨_,rfl⟩;obtain⟨ky,hky⟩:∃ky,ky=([[115,49],[115,50],[115,51]]:List (List UInt8)).getD (i:Int).toNat []:=⟨_,rfl⟩
   refine af hT (C:= []) (ι:=Int×lB×Nat) (fun(d,s,k)=>(cc≤d∧d≤cc+10*k∧k≤7)∧s.key=ky)
    (fun(d,s,k)=>aJ [(0,.ptr 1000000 0),(3,.buf 3),(6,.ptr 6 0),(9,.d (bU [[115,49],[115,50],[115,51]])),(10,.d (.int .i64 3)),(11,.d (.int .i64 i)),(19,.d (.int .i64 k))] [(1000000,bd n L d),(3,aD 127 15 pG fZ l),(6,Om s)])
    (fun(_,_,k)=>7 - k) (cc,⟨ky,fun _=>0⟩,0) ⟨⟨by simp,by simp,by simp⟩,rfl⟩ ?_ ?_
   · exact ac mE rfl rfl ⟨lr,lr,lr,lr,lr,lr,lr,trivial⟩ ⟨rr,rr,by rw[hky];exact rr,trivial⟩
   rintro⟨d,s,k⟩ ⟨⟨q1,q2,q3⟩,q4⟩;have q1:cc≤d:=q1;have q2:d≤cc+10*k:=q2;have q3:k≤7:=q3;have q4:s.key=ky:=q4
   by_cases hk7:k=7
   · subst hk7;conv=>whnf
     repeat' ((first|refine aa ?_ ?_<;>intro hb<;>try simp only[am]at hb|omega|refine ao ?_|decide|assumption)<;>conv=>whnf)
     exact⟨(d,l++ [s],i+1),⟨⟨by omega,by show _≤a+100*((i+1:Nat):Int);omega,by omega⟩,dk p4 (by omega) (by show s.key.length≤8;rw[q4,hky];exact hkk)⟩,by show 3 - (i+1)<3 - i;omega,
      ac [(1000000,1000000),(3,44)] rfl rfl ⟨lr,lr,lr,lr,lr,trivial⟩ ⟨rr,aB rfl,trivial⟩⟩
   · have hk:k=0∨k=1∨k=2∨k=3∨k=4∨k=5∨k=6:=by omega
     rcases hk with rfl|rfl|rfl|rfl|rfl|rfl|rfl
     · conv=>whnf
       repeat' (first|(refine kN (jF n L hL _ ?_ ?_ [0,0,480,600,1440] ?_ ?_) [(1000000,1000000)] ?_;rotate_right;rintro x rout ⟨⟨u1,hu1,rfl⟩,⟨c,c1,c2,rfl⟩⟩;have hw1:0≤u1∧u1≤1440:=(by simp only[List.mem_cons,List.not_mem_nil,or_false]at hu1;omega);refine⟨rfl,?_⟩;conv=>whnf)|(refine dp (E5 n L hL _ ?_ ?_ u1 1440 ?_ ?_ ?_ ?_) [(1000000,1000000)] ?_;rotate_right;rintro x rout ⟨⟨u2,hv1,hv2,rfl⟩,⟨c,c1,c2,rfl⟩⟩;refine⟨rfl,?_⟩;conv=>whnf)|(refine dp (pn n L hL _ ?_ ?_ 4 ?_) [(1000000,1000000)] ?_;rotate_right;rintro x rout ⟨⟨w,rfl⟩,⟨c,c1,c2,rfl⟩⟩;refine⟨rfl,?_⟩;conv=>whnf)|((first|refine aa ?_ ?_<;>intro hb<;>try simp only[am]at hb|omega|refine ao ?_|decide|assumption)<;>conv=>whnf))
       · exact⟨(c,nf s 0 u1 u1,1),⟨⟨by omega,by show _≤cc+10*((1:Nat):Int);omega,by omega⟩,q4⟩,by show 7 - 1<7 - 0;omega,(by exact a7 mE)⟩
       · exact⟨(c,nf s 0 u1 u2,1),⟨⟨by omega,by show _≤cc+10*((1:Nat):Int);omega,by omega⟩,q4⟩,by show 7 - 1<7 - 0;omega,(by exact a7 mE)⟩
     · conv=>whnf
       repeat' (first|(refine kN (jF n L hL _ ?_ ?_ [0,0,480,600,1440] ?_ ?_) [(1000000,1000000)] ?_;rotate_right;rintro x rout ⟨⟨u1,hu1,rfl⟩,⟨c,c1,c2,rfl⟩⟩;have hw1:0≤u1∧u1≤1440:=(by simp only[List.mem_cons,List.not_mem_nil,or_false]at hu1;omega);refine⟨rfl,?_⟩;conv=>whnf)|(refine dp (E5 n L hL _ ?_ ?_ u1 1440 ?_ ?_ ?_ ?_) [(1000000,1000000)] ?_;rotate_right;rintro x rout ⟨⟨u2,hv1,hv2,rfl⟩,⟨c,c1,c2,rfl⟩⟩;refine⟨rfl,?_⟩;conv=>whnf)|(refine dp (pn n L hL _ ?_ ?_ 4 ?_) [(1000000,1000000)] ?_;rotate_right;rintro x rout ⟨⟨w,rfl⟩,⟨c,c1,c2,rfl⟩⟩;refine⟨rfl,?_⟩;conv=>whnf)|((first|refine aa ?_ ?_<;>intro hb<;>try simp only[am]at hb|omega|refine ao ?_|decide|assumption)<;>conv=>whnf))
       · exact⟨(c,nf s 1 u1 u1,2),⟨⟨by omega,by show _≤cc+10*((2:Nat):Int);omega,by omega⟩,q4⟩,by show 7 - 2<7 - 1;omega,(by exact a7 mE)⟩
       · exact⟨(c,nf s 1 u1 u2,2),⟨⟨by omega,by show _≤cc+10*((2:Nat):Int);omega,by omega⟩,q4⟩,by show 7 - 2<7 - 1;omega,(by exact a7 mE)⟩
     · conv=>whnf
       repeat' (first|(refine kN (jF n L hL _ ?_ ?_ [0,0,480,600,1440] ?_ ?_) [(1000000,1000000)] ?_;rotate_right;rintro x rout ⟨⟨u1,hu1,rfl⟩,⟨c,c1,c2,rfl⟩⟩;have hw1:0≤u1∧u1≤1440:=(by simp only[List.mem_cons,List.not_mem_nil,or_false]at hu1;omega);refine⟨rfl,?_⟩;conv=>whnf)|(refine dp (E5 n L hL _ ?_ ?_ u1 1440 ?_ ?_ ?_ ?_) [(1000000,1000000)] ?_;rotate_right;rintro x rout ⟨⟨u2,hv1,hv2,rfl⟩,⟨c,c1,c2,rfl⟩⟩;refine⟨rfl,?_⟩;conv=>whnf)|(refine dp (pn n L hL _ ?_ ?_ 4 ?_) [(1000000,1000000)] ?_;rotate_right;rintro x rout ⟨⟨w,rfl⟩,⟨c,c1,c2,rfl⟩⟩;refine⟨rfl,?_⟩;conv=>whnf)|((first|refine aa ?_ ?_<;>intro hb<;>try simp only[am]at hb|omega|refine ao ?_|decide|assumption)<;>conv=>whnf))
       · exact⟨(c,nf s 2 u1 u1,3),⟨⟨by omega,by show _≤cc+10*((3:Nat):Int);omega,by omega⟩,q4⟩,by show 7 - 3<7 - 2;omega,(by exact a7 mE)⟩
       · exact⟨(c,nf s 2 u1 u2,3),⟨⟨by omega,by show _≤cc+10*((3:Nat):Int);omega,by omega⟩,q4⟩,by show 7 - 3<7 - 2;omega,(by exact a7 mE)⟩
     · conv=>whnf
       repeat' (first|(refine kN (jF n L hL _ ?_ ?_ [0,0,480,600,1440] ?_ ?_) [(1000000,1000000)] ?_;rotate_right;rintro x rout ⟨⟨u1,hu1,rfl⟩,⟨c,c1,c2,rfl⟩⟩;have hw1:0≤u1∧u1≤1440:=(by simp only[List.mem_cons,List.not_mem_nil,or_false]at hu1;omega);refine⟨rfl,?_⟩;conv=>whnf)|(refine dp (E5 n L hL _ ?_ ?_ u1 1440 ?_ ?_ ?_ ?_) [(1000000,1000000)] ?_;rotate_right;rintro x rout ⟨⟨u2,hv1,hv2,rfl⟩,⟨c,c1,c2,rfl⟩⟩;refine⟨rfl,?_⟩;conv=>whnf)|(refine dp (pn n L hL _ ?_ ?_ 4 ?_) [(1000000,1000000)] ?_;rotate_right;rintro x rout ⟨⟨w,rfl⟩,⟨c,c1,c2,rfl⟩⟩;refine⟨rfl,?_⟩;conv=>whnf)|((first|refine aa ?_ ?_<;>intro hb<;>try simp only[am]at hb|omega|refine ao ?_|decide|assumption)<;>conv=>whnf))
       · exact⟨(c,nf s 3 u1 u1,4),⟨⟨by omega,by show _≤cc+10*((4:Nat):Int);omega,by omega⟩,q4⟩,by show 7 - 4<7 - 3;omega,(by exact a7 mE)⟩
       · exact⟨(c,nf s 3 u1 u2,4),⟨⟨by omega,by show _≤cc+10*((4:Nat):Int);omega,by omega⟩,q4⟩,by show 7 - 4<7 - 3;omega,(by exact a7 mE)⟩
     · conv=>whnf
       repeat' (first|(refine kN (jF n L hL _ ?_ ?_ [0,0,480,600,1440] ?_ ?_) [(1000000,1000000)] ?_;rotate_right;rintro x rout ⟨⟨u1,hu1,rfl⟩,⟨c,c1,c2,rfl⟩⟩;have hw1:0≤u1∧u1≤1440:=(by simp only[List.mem_cons,List.not_mem_nil,or_false]at hu1;omega);refine⟨rfl,?_⟩;conv=>whnf)|(refine dp (E5 n L hL _ ?_ ?_ u1 1440 ?_ ?_ ?_ ?_) [(1000000,1000000)] ?_;rotate_right;rintro x rout ⟨⟨u2,hv1,hv2,rfl⟩,⟨c,c1,c2,rfl⟩⟩;refine⟨rfl,?_⟩;conv=>whnf)|(refine dp (pn n L hL _ ?_ ?_ 4 ?_) [(1000000,1000000)] ?_;rotate_right;rintro x rout ⟨⟨w,rfl⟩,⟨c,c1,c2,rfl⟩⟩;refine⟨rfl,?_⟩;conv=>whnf)|((first|refine aa ?_ ?_<;>intro hb<;>try simp only[am]at hb|omega|refine ao ?_|decide|assumption)<;>conv=>whnf))
       · exact⟨(c,nf s 4 u1 u1,5),⟨⟨by omega,by show _≤cc+10*((5:Nat):Int);omega,by omega⟩,q4⟩,by show 7 - 5<7 - 4;omega,(by exact a7 mE)⟩
       · exact⟨(c,nf s 4 u1 u2,5),⟨⟨by omega,by show _≤cc+10*((5:Nat):Int);omega,by omega⟩,q4⟩,by show 7 - 5<7 - 4;omega,(by exact a7 mE)⟩
     · conv=>whnf
       repeat' (first|(refine kN (jF n L hL _ ?_ ?_ [0,0,480,600,1440] ?_ ?_) [(1000000,1000000)] ?_;rotate_right;rintro x rout ⟨⟨u1,hu1,rfl⟩,⟨c,c1,c2,rfl⟩⟩;have hw1:0≤u1∧u1≤1440:=(by simp only[List.mem_cons,List.not_mem_nil,or_false]at hu1;omega);refine⟨rfl,?_⟩;conv=>whnf)|(refine dp (E5 n L hL _ ?_ ?_ u1 1440 ?_ ?_ ?_ ?_) [(1000000,1000000)] ?_;rotate_right;rintro x rout ⟨⟨u2,hv1,hv2,rfl⟩,⟨c,c1,c2,rfl⟩⟩;refine⟨rfl,?_⟩;conv=>whnf)|(refine dp (pn n L hL _ ?_ ?_ 4 ?_) [(1000000,1000000)] ?_;rotate_right;rintro x rout ⟨⟨w,rfl⟩,⟨c,c1,c2,rfl⟩⟩;refine⟨rfl,?_⟩;conv=>whnf)|((first|refine aa ?_ ?_<;>intro hb<;>try simp only[am]at hb|omega|refine ao ?_|decide|assumption)<;>conv=>whnf))
       · exact⟨(c,nf s 5 u1 u1,6),⟨⟨by omega,by show _≤cc+10*((6:Nat):Int);omega,by omega⟩,q4⟩,by show 7 - 6<7 - 5;omega,(by exact a7 mE)⟩
       · exact⟨(c,nf s 5 u1 u2,6),⟨⟨by omega,by show _≤cc+10*((6:Nat):Int);omega,by omega⟩,q4⟩,by show 7 - 6<7 - 5;omega,(by exact a7 mE)⟩
     · conv=>whnf
       repeat' (first|(refine kN (jF n L hL _ ?_ ?_ [0,0,480,600,1440] ?_ ?_) [(1000000,1000000)] ?_;rotate_right;rintro x rout ⟨⟨u1,hu1,rfl⟩,⟨c,c1,c2,rfl⟩⟩;have hw1:0≤u1∧u1≤1440:=(by simp only[List.mem_cons,List.not_mem_nil,or_false]at hu1;omega);refine⟨rfl,?_⟩;conv=>whnf)|(refine dp (E5 n L hL _ ?_ ?_ u1 1440 ?_ ?_ ?_ ?_) [(1000000,1000000)] ?_;rotate_right;rintro x rout ⟨⟨u2,hv1,hv2,rfl⟩,⟨c,c1,c2,rfl⟩⟩;refine⟨rfl,?_⟩;conv=>whnf)|(refine dp (pn n L hL _ ?_ ?_ 4 ?_) [(1000000,1000000)] ?_;rotate_right;rintro x rout ⟨⟨w,rfl⟩,⟨c,c1,c2,rfl⟩⟩;refine⟨rfl,?_⟩;conv=>whnf)|((first|refine aa ?_ ?_<;>intro hb<;>try simp only[am]at hb|omega|refine ao ?_|decide|assumption)<;>conv=>whnf))
       · exact⟨(c,nf s 6 u1 u1,7),⟨⟨by omega,by show _≤cc+10*((7:Nat):Int);omega,by omega⟩,q4⟩,by show 7 - 7<7 - 6;omega,(by exact a7 mE)⟩
       · exact⟨(c,nf s 6 u1 u2,7),⟨⟨by omega,by show _≤cc+10*((7:Nat):Int);omega,by omega⟩,q4⟩,by show 7 - 7<7 - 6;omega,(by exact a7 mE)⟩
 · refine .ret _ ?_;conv=>whnf
   exact⟨[(3,aD 127 15 pG fZ l),(1000000,bd n L _)],⟨l,b,bo p4 (by omega),⟨by omega,by omega⟩,rfl,rfl⟩,rr,rr,trivial⟩
def l6:TL:= [(4,[(0,[]),(1,[0]),(2,[]),(3,[]),(4,[]),(5,[4]),(6,[4,5]),(7,[4]),(8,[4]),(9,[4,5,6,7,8]),(10,[4,5,6,7,8,9]),(11,[4,5,6,7,8,9]),(12,[4,5,6,7,8]),(13,[4,5,6,7,8]),(14,[]),(15,[]),(16,[])]),(6,[(0,[]),(1,[0]),(2,[0,1]),(3,[0,1,2]),(4,[0,1,2]),(5,rg 5),(6,rg 6),(7,rg 6),(8,rg 5),(9,rg 5),(10,rg 10),(11,rg 11),(12,rg 10),(13,rg 10),(14,[2,3,4]),(15,[2,3,4]),(16,[]),(17,[])])]
theorem L3 (l:List iE)(hl:l.length≤2^20):ae Tryz.prog 106 [.buf 1000001] [(1000001,rP l)] (fun y r=>(y= .d .nilsl∧l= []∧r= [(1000001,rP l)])∨(y= .buf 7∧r= [(7,rP l),(1000001,rP l)])):=by
 refine g9 hT (C:= [5]) Tryz.func106 rfl Tryz.call106 rfl rfl rfl ?_;conv=>whnf
 rintro b hbn;conv=>whnf
 repeat' ((first|refine aa ?_ ?_<;>intro hb<;>try simp only[am]at hb|omega|refine ao ?_|decide|assumption)<;>conv=>whnf)
 · have:l= []:=List.eq_nil_of_length_eq_zero (hbn (by assumption));refine .ret _ ?_;conv=>whnf
   exact⟨_,.inl ⟨rfl,this,rfl⟩,rr,trivial⟩
 · refine .ret _ ?_;conv=>whnf
   refine⟨_,.inr ⟨rfl,rfl⟩,cY (by simp) (fun i hi=> ?_),rr,trivial⟩;rw[dR (by omega)];rfl
theorem z139 (p q:iE)(hp:v7 p)(hq:v7 q):ae Tryz.prog 108 [.agg ((ig p).map .d),.agg ((ig q).map .d)] [] (fun y r=>y= .d (.int .i64 (wq p q))∧r= []):=by
 have h1:=hp.2.1;have h2:=hp.2.2;have h3:=hq.2.1;have h4:=hq.2.2;have h5:=hp.1;have h6:=hq.1;refine aj hT Tryz.func108 Tryz.call108 ?_;conv=>whnf
 repeat' (first|(refine ab (IX _ _) rfl rfl ?_;rotate_right;conv=>whnf)|((first|refine aa ?_ ?_<;>intro hb<;>try simp only[am]at hb|omega|refine ao ?_|decide|assumption)<;>conv=>whnf))
 all_goals
  refine .ret _ ?_;conv=>whnf
  refine⟨[],⟨?_,rfl⟩,trivial⟩;conv=>lhs;whnf
  congr 2
  unfold wq;first|(rw[if_pos (by simpa using hb)];done)|(rw[if_neg (by simpa using hb)];done)
theorem HR (g:FuncId)(cmp:iE→iE→Int)(l:List iE)(hl:l.length≤2^40)
 (hcmp:∀p q,p ∈ l→q ∈ l→ae Tryz.prog g [.agg ((ig p).map .d),.agg ((ig q).map .d)] [] (fun y r=>y= .d (.int .i64 (cmp p q))∧r= [])):
 ae Tryz.prog 211 [.buf 1000001,.d (.int .i64 0),.d (.int .i64 l.length),.fn g []] [(1000001,aD 134 3 ig bD l)]
  (fun y r=>y= .tup []∧r= [(1000001,aD 134 3 ig bD (bc cmp l))]):=by
 refine aj hT Tryz.func211 Tryz.call211 ?_;conv=>whnf
 repeat' ((first|refine aa ?_ ?_<;>intro hb<;>try simp only[am]at hb|refine bg hT l6 ?_|omega|refine ao ?_|decide|assumption)<;>conv=>whnf)
 refine af hT (C:= []) (ι:=Nat×List iE) (fun(i,c)=>1≤i∧(i≤l.length∨i=1)∧c=(bv cmp (l.take i)).reverse++l.drop i)
  (fun(i,c)=>aJ [(0,.buf 1000001),(1,.d (.int .i64 0)),(2,.d (.int .i64 l.length)),(3,.fn g []),(8,.d (.int .i64 i))] [(1000001,aD 134 3 ig bD c)])
  (fun(i,_)=>l.length - i) (1,l) ⟨by simp,by simp,by cases l with|nil=>rfl|cons x l=>simp[bv,fB]⟩ (by exact a7 [(1000001,1000001)]) ?_
 rintro⟨i,c⟩ ⟨p1,p2,p3⟩;conv=>whnf
 repeat' ((first|refine aa ?_ ?_<;>intro hb<;>try simp only[am]at hb|refine bg hT l6 ?_|omega|refine ao ?_|decide|assumption)<;>conv=>whnf)
 · have hi:i<l.length:=by omega
   have hx:l[i] ∈ l:=List.getElem_mem hi;have hmem:∀y ∈ bv cmp (l.take i),y ∈ l:=fun y hy=>List.mem_of_mem_take ((jZ cmp _).1 hy)
   have hlr:(bv cmp (l.take i)).length=i:=by rw[fp,List.length_take];omega
   have hc:c=(bv cmp (l.take i)).reverse++ [l[i]]++ []++l.drop (i+1):=by rw[p3,List.drop_eq_getElem_cons hi];simp
   refine af hT (C:= []) (ι:=List iE×List iE×List iE) (fun(A,B,b)=>fB cmp l[i] (bv cmp (l.take i))=B.reverse++fB cmp l[i] A∧A.length+B.length=i∧(∀y ∈ A,y ∈ l)∧A.reverse++ [l[i]]++B++l.drop (i+1)=b)
    (fun(A,B,b)=>aJ [(0,.buf 1000001),(1,.d (.int .i64 0)),(2,.d (.int .i64 l.length)),(3,.fn g []),(8,.d (.int .i64 i)),(9,.d (.int .i64 A.length))] [(1000001,aD 134 3 ig bD b)])
    (fun(A,_,_)=>A.length) (bv cmp (l.take i),[],c) ⟨by simp,by simpa using hlr,hmem,hc.symm⟩ ?_ ?_
   · exact ac [(1000001,1000001)] rfl rfl ⟨lr,lr,lr,lr,lr,au (by omega),trivial⟩ ⟨rr,trivial⟩
   rintro⟨A,B,b⟩ ⟨q1,q2,q3,hbd⟩;have hlen:b.length=l.length:=by rw[←hbd];simp;omega
   have hfin:A= []∨(∃y A',A=y::A'∧0≤cmp l[i] y)→bv cmp (l.take (i+1))=B.reverse++l[i]::A∧b=(bv cmp (l.take (i+1))).reverse++l.drop (i+1):=fun h=>by
    have e:bv cmp (l.take (i+1))=B.reverse++l[i]::A:=by
     rw[dh hi,jc,q1];rcases h with rfl|⟨y,A',rfl,h⟩
     · rfl
     · rw[fB,if_neg (by omega)]
    exact⟨e,by rw[e,←hbd];simp⟩
   conv=>whnf
   repeat' ((first|refine aa ?_ ?_<;>intro hb<;>try simp only[am]at hb|refine bg hT l6 ?_|omega|refine ao ?_|decide|assumption)<;>conv=>whnf)
   · cases A with
     |nil=>simp at hb
     |cons y A=>
     obtain⟨g1,g2,g3⟩:=za (j:=(((y::A).length:Int)).toNat) hbd (by simp);have ej:((((y::A).length:Int)) - 1).toNat=(((y::A).length:Int)).toNat - 1:=by omega
     refine dP.of (hcmp l[i] y hx (q3 y (by simp))) [] rfl ⟨by rw[←g1];exact lr,by rw[←g2,←ej];exact lr,trivial⟩ trivial rfl rfl ?_;rintro x rout ⟨rfl,rfl⟩;refine⟨rfl,?_⟩;conv=>whnf
     repeat' ((first|refine aa ?_ ?_<;>intro hb<;>try simp only[am]at hb|refine bg hT l6 ?_|omega|refine ao ?_|decide|assumption)<;>conv=>whnf)
     · refine⟨(A,y::B,_),⟨by rw[q1];simp[fB,hb],by simp only[List.length_cons]at q2 ⊢;omega,fun z hz=>q3 z (by simp[hz]),?_⟩,by show A.length<(y::A).length;simp,ac [(1000001,1000001)] rfl rfl ⟨lr,lr,lr,lr,lr,au (by simp only[List.length_cons];omega),trivial⟩ ⟨eD (x:=b.getD ((((y::A).length:Int)) - 1).toNat bD) (y:=b.getD (((y::A).length:Int)).toNat bD) (fun _=>rfl) (fun _=>rfl),trivial⟩⟩;rw[←g3,ej,g1,g2]
     · obtain⟨_,h2⟩:=hfin (.inr ⟨y,A,rfl,hb⟩);exact⟨(i+1,b),⟨by omega,by omega,h2⟩,by show l.length - (i+1)<l.length - i;omega,(by exact a7 [(1000001,1000001)])⟩
   · have hA:A= []:=List.length_eq_zero_iff.1 (by omega);obtain⟨_,h2⟩:=hfin (.inl hA);exact⟨(i+1,b),⟨by omega,by omega,h2⟩,by show l.length - (i+1)<l.length - i;omega,(by exact a7 [(1000001,1000001)])⟩
 · refine .ret _ ?_;conv=>whnf
   have e1:c=bc cmp l:=by
    rw[p3,List.take_of_length_le (by omega),List.drop_eq_nil_iff.2 (by omega),List.append_nil];rfl
   subst e1;exact⟨_,⟨rfl,rfl⟩,rr,trivial⟩
theorem Ip (g:FuncId)(cmp:iE→iE→Int)(l:List iE)(hl:l.length≤12)(lim:Int)
 (hcmp:∀p q,p ∈ l→q ∈ l→ae Tryz.prog g [.agg ((ig p).map .d),.agg ((ig q).map .d)] [] (fun y r=>y= .d (.int .i64 (cmp p q))∧r= [])):
 ae Tryz.prog 159 [.buf 1000001,.d (.int .i64 0),.d (.int .i64 l.length),.d (.int .i64 lim),.fn g []] [(1000001,aD 134 3 ig bD l)]
  (fun y r=>y= .tup []∧r= [(1000001,aD 134 3 ig bD (bc cmp l))]):=by
 refine aj hT Tryz.func159 Tryz.call159 ?_;conv=>whnf
 refine fX hT (C:= []) (fun _ _ h=>h) (fun _ h=>h) ?_;conv=>whnf
 repeat' ((first|refine aa ?_ ?_<;>intro hb<;>try simp only[am]at hb|refine Jh hT 17 oLFlNm159_17 ?_|omega|refine ao ?_|decide|assumption)<;>conv=>whnf)
 refine bP (HR g cmp l (by omega) hcmp) [(1000001,1000001)] ?_;conv=>whnf
 refine .ret _ ?_;conv=>whnf
 exact⟨_,⟨rfl,rfl⟩,rr,trivial⟩
theorem FR (g:FuncId)(cmp:iE→iE→Int)(l:List iE)(hl:l.length≤12)
 (hcmp:∀p q,p ∈ l→q ∈ l→ae Tryz.prog g [.agg ((ig p).map .d),.agg ((ig q).map .d)] [] (fun y r=>y= .d (.int .i64 (cmp p q))∧r= [])):
 ae Tryz.prog 107 [.buf 1000001,.fn g []] [(1000001,aD 134 3 ig bD l)]
  (fun y r=>y= .tup []∧r= [(1000001,aD 134 3 ig bD (bc cmp l))]):=by
 refine aj hT Tryz.func107 Tryz.call107 ?_;conv=>whnf
 repeat' ((first|refine aa ?_ ?_<;>intro hb<;>try simp only[am]at hb|omega|refine ao ?_|decide|assumption)<;>conv=>whnf)
 refine dp (D1 l.length hl) [] ?_;rintro x rout ⟨⟨lim,rfl⟩,rfl⟩;refine⟨rfl,?_⟩;conv=>whnf
 repeat' ((first|refine aa ?_ ?_<;>intro hb<;>try simp only[am]at hb|omega|refine ao ?_|decide|assumption)<;>conv=>whnf)
 refine bP (Ip g cmp l hl lim hcmp) [(1000001,1000001)] ?_;conv=>whnf
 refine .ret _ ?_;conv=>whnf
 exact⟨_,⟨rfl,rfl⟩,rr,trivial⟩
theorem KG (f:nc)(hk:qF f):ae Tryz.prog 37 [.agg [.buf 1,.d (dI f.cls),.buf 3,.buf 4]] [(1,w9 f.sta),(3,uD f.veh),(4,rP f.plt)]
 (fun x r=>x= .d (.int .i64 (iL f))∧r= [(1,w9 f.sta),(3,uD f.veh),(4,rP f.plt)]):=by
 have h1:=j8 (args:= [.agg [.d (iT f.sta),.d (dI f.cls),.d (mg f.veh),.buf 4]]) 4 134 3 f.plt.length (aR ig bD f.plt) (z21 f hk) rfl (fun c r q=>nomatch q) rfl
  (fun x r h=>by obtain⟨rfl,rfl⟩:=h;exact⟨rfl,fun c q e=>(nomatch e),rfl⟩)
 have h2:=j8 (args:= [.agg [.d (iT f.sta),.d (dI f.cls),.buf 3,.buf 4]]) 3 131 2 f.veh.length (aR uM dg f.veh) h1 rfl
  (lO (P:=bh.isBuf) (fun p hp=>by rw[List.mem_singleton]at hp;subst hp;exact trivial)) rfl
  (fun x r h=>by obtain⟨r0,⟨rfl,rfl⟩,rfl⟩:=h;exact⟨rfl,lO (P:=bh.flat) (fun p hp=>by rw[List.mem_singleton]at hp;subst hp;exact zU _),rfl⟩)
 have h3:=j8 (args:= [.agg [.buf 1,.d (dI f.cls),.buf 3,.buf 4]]) 1 127 15 f.sta.length (aR pG fZ f.sta) h2 rfl
  (lO (P:=bh.isBuf) (fun p hp=>by simp only[List.mem_cons,List.not_mem_nil,or_false]at hp;rcases hp with rfl|rfl<;>exact trivial)) rfl
  (fun x r h=>by
    obtain⟨r1,⟨r0,⟨rfl,rfl⟩,rfl⟩,rfl⟩:=h
    exact⟨rfl,lO (P:=bh.flat) (fun p hp=>by simp only[List.mem_cons,List.not_mem_nil,or_false]at hp;rcases hp with rfl|rfl;exact Fu _;exact zU _),rfl⟩)
 exact h3.mono (fun x r h=>by obtain⟨r2,⟨r1,⟨r0,⟨rfl,rfl⟩,rfl⟩,rfl⟩,rfl⟩:=h;exact⟨rfl,rfl⟩)
def eO:TL:= [(8,[(0,[]),(1,[]),(2,[0,1]),(3,[0,1,2]),(4,[0,1,2]),(5,rg 5),(6,rg 6),(7,rg 6),(8,rg 6),(9,rg 5),(10,[0,1,2]),(11,[0,1,2]),(12,[0,1,2]),(13,[0,1]),(14,[0,1]),(15,[]),(16,[]),(17,[])]),(13,[(0,[]),(1,[0]),(3,[0,1]),(4,[0,1]),(5,[0,1,3,4]),(6,[0,1,3,4,5]),(7,[0,1,3,4,5]),(8,[0,1,3,4,5]),(13,[0,1,3,4,5,6,7,8]),(14,[0,1,3,4,5,6,7,8,13]),(17,[0,1,3,4,5,6,7,8,13,14]),(2,[3,4,5,6,7,8,13,14,17]),(9,[3,4,13,14,17]),(10,[13,14,17]),(11,[13,14,17]),(12,[13,14,17]),(15,[3,4,17,10,11,12]),(16,[17]),(18,[])]),(14,[(0,[]),(1,[]),(3,[0,1]),(4,[0,1]),(2,[3,4]),(5,[]),(6,[])])]
theorem Kw (n:Nat)(L:Nat→Int)(hL:oW n L)(a:Int)(h0:0≤a)(ha:a≤2^35):
 ae Tryz.prog 54 [.ptr 1000000 0] [(1000000,bd n L a)] (fun y r=>∃st cs vs ps,∃b,Mx st cs vs ps∧(a≤b∧b≤a+400)∧y= .agg [.buf 10,.d (dI cs),.buf 20,.buf 30]∧r= [(10,w9 st),(20,uD vs),(30,rP ps),(1000000,bd n L b)]):=by
 refine g9 hT (C:= [19]) Tryz.func54 rfl Tryz.call54 rfl rfl rfl ?_;conv=>whnf
 refine dp (KO n L hL a h0 (by omega)) [(1000000,1000000),(3,10)] ?_;rintro x rout ⟨st,b1,hst,⟨b1a,b1b⟩,rfl,rfl⟩;refine⟨rfl,?_⟩;conv=>whnf
 refine dp (Cs n L hL b1 (by omega) (by omega)) [(1000000,1000000),(9,12)] ?_;rintro x rout ⟨cs,b2,hc,⟨b2a,b2b⟩,rfl,rfl⟩;refine⟨rfl,?_⟩;conv=>whnf
 refine' ut (P:=Tryz.prog) (α:=List lB) (fun st=>aJ [(0,.ptr 1000000 0),(2,.ptr 2 0),(3,.ptr 3 0),(21,.d (bU v4)),(22,.d (.int .i64 4)),(23,.d (.int .i64 0))] [(1000000,bd n L b2),(2,LS),(3,Kk cs),(10,w9 st),(20,uD [])]) (fun st=>dA BZ 3 st) ?main ?tail
 case main=>
  intro tail;repeat' ((first|refine aa ?_ ?_<;>intro hb<;>try simp only[am]at hb|refine bg hT eO ?_|omega|refine ao ?_|decide|assumption)<;>conv=>whnf)
  · refine mD.freeze 12 180 2 _ _ rfl ?_;refine mD.ent ?_ (tail Ks ⟨by decide,by intro x hx;simp only[Ks,List.mem_singleton]at hx;subst hx;show _≤8;decide⟩);refine du.trans (aF 3 12 2 _ 1 _ rfl rfl rfl) ?_;refine du.trans (bF 3 20 131 2 2 (aR uM dg []) rfl rfl rfl (by decide) rfl) ?_;exact(ac [(1000000,1000000),(2,2),(3,3),(10,19),(20,20)] rfl rfl ⟨lr,lr,lr,ai rfl rfl,lr,lr,trivial⟩ ⟨rr,rr,mw ⟨lr,lr,lr,lr,trivial⟩,jU rfl rfl,rr,trivial⟩)
  · refine mD.freeze 12 180 2 _ _ rfl ?_;refine mD.ent ?_ (tail st hst);refine du.trans (aF 3 12 2 _ 1 _ rfl rfl rfl) ?_;refine du.trans (bF 3 20 131 2 2 (aR uM dg []) rfl rfl rfl (by decide) rfl) ?_;exact(ac Iq rfl rfl ⟨lr,lr,lr,ai rfl rfl,lr,lr,trivial⟩ ⟨rr,rr,mw ⟨lr,lr,lr,lr,trivial⟩,rr,rr,trivial⟩)
 clear hst st;intro st hst
 refine af hT (C:= []) (ι:=Int×List pV×Nat) (fun(b,vs,i)=>(b2≤b∧b≤b2+3*i∧i≤4)∧dA AZ i vs)
  (fun(b,vs,i)=>aJ [(0,.ptr 1000000 0),(2,.ptr 2 0),(3,.ptr 3 0),(21,.d (bU v4)),(22,.d (.int .i64 4)),(23,.d (.int .i64 i))] [(1000000,bd n L b),(2,LS),(3,Kk cs),(10,w9 st),(20,uD vs)])
  (fun(_,_,i)=>4 - i) (b2,[],0) ⟨⟨by simp,by simp,by simp⟩,⟨by simp,by simp⟩⟩ (by exact a7 Iq) ?_
 rintro⟨b,vs,i⟩ ⟨⟨p1,p2,p3⟩,p4⟩;have p1:b2≤b:=p1;have p2:b≤b2+3*i:=p2;have p3:i≤4:=p3;have p4:dA AZ i vs:=p4;have hl1:vs.length≤i:=p4.1;have hc4:=hc.1;have hv4:v4.length=4:=rfl;have e1:=ek i;rcases Nat.lt_or_ge i 4 with hi|hi
 · conv=>whnf
   repeat' (first|(refine dp (pn n L hL _ ?_ ?_ 6 ?_) [(1000000,1000000)] ?_;rotate_right;rintro x rout ⟨⟨w,rfl⟩,⟨c,c1,c2,rfl⟩⟩;refine⟨rfl,?_⟩;conv=>whnf)|(refine dp (wA n L hL _ ?_ ?_ _ ?_) [(1000000,1000000)] ?_;rotate_right;rintro x rout ⟨⟨j,hj1,hj2,hj3,rfl⟩,⟨c,c1,c2,rfl⟩⟩;refine⟨rfl,?_⟩;conv=>whnf)|((first|refine aa ?_ ?_<;>intro hb<;>try simp only[am]at hb|refine bg hT eO ?_|omega|refine ao ?_|decide|assumption)<;>conv=>whnf))
   all_goals try(exfalso;omega)
   · have hk1:(v4.getD (i:Int).toNat []).length≤8:=bu (al (by omega)) rfl;have hk2:=(hc.2 (cs.getD j.toNat cD) (al (by omega))).1
     exact⟨(c+1,vs++ [⟨v4.getD (i:Int).toNat [],(cs.getD j.toNat cD).key⟩],i+1),⟨⟨by omega,by show _≤b2+3*((i+1:Nat):Int);omega,by omega⟩,dk p4 (by omega) ⟨hk1,hk2⟩⟩,by show 4 - (i+1)<4 - i;omega,
      ac [(1000000,1000000),(2,2),(3,3),(10,10),(20,45)] rfl rfl ⟨lr,lr,lr,lr,lr,lr,trivial⟩ ⟨rr,rr,rr,rr,aB rfl,trivial⟩⟩
   · exact⟨(c,vs,i+1),⟨⟨by omega,by show _≤b2+3*((i+1:Nat):Int);omega,by omega⟩,bo p4 (by omega)⟩,by show 4 - (i+1)<4 - i;omega,(by exact a7 Iq)⟩
 have hi4:i=4:=by omega
 subst hi4;have hb3:b≤b2+12:=by omega
 have p4v:=p4;have hlv:vs.length≤4:=p4.1;conv=>whnf
 repeat' (first|(refine dp (E5 n L hL _ ?_ ?_ 0 5 ?_ ?_ ?_ ?_) [(1000000,1000000)] ?_;rotate_right;rintro x rout ⟨⟨m,hm1,hm2,rfl⟩,⟨c,c1,c2,rfl⟩⟩;refine⟨rfl,?_⟩;conv=>whnf)|((first|refine aa ?_ ?_<;>intro hb<;>try simp only[am]at hb|refine bg hT eO ?_|omega|refine ao ?_|decide|assumption)<;>conv=>whnf))
 all_goals try(exfalso;omega)
 obtain⟨b3,rfl⟩:∃b3:Int,b3=c:=⟨_,rfl⟩
 refine af hT (C:= []) (ι:=Int×List iE×Nat) (fun(b,ps,i)=>(b3≤b∧b≤b3+6*i∧(i:Int)≤m)∧dA v7 i ps)
  (fun(b,ps,i)=>aJ [(0,.ptr 1000000 0),(2,.ptr 2 0),(3,.ptr 3 0),(49,.d (.int .i64 m)),(50,.d (.int .i64 i))] [(1000000,bd n L b),(2,LS),(3,O9 cs),(10,w9 st),(20,uD vs),(30,rP ps)])
  (fun(_,_,i)=>(m - i).toNat) (b3,[],0) ⟨⟨by simp,by simp,by simpa using hm1⟩,⟨by simp,by simp⟩⟩ ?_ ?_
 · refine du.trans (bF 3 30 134 3 3 (aR ig bD []) rfl rfl rfl (by decide) rfl) ?_;exact(by exact a7 H7)
 rintro⟨b,ps,i⟩ ⟨⟨p1,p2,p3⟩,p4⟩;have p1:b3≤b:=p1;have p2:b≤b3+6*i:=p2;have p3:(i:Int)≤m:=p3;have p4:dA v7 i ps:=p4;have hl2:ps.length≤i:=p4.1;rcases Int.lt_or_le (i:Int) m with hi|hi
 · conv=>whnf
   repeat' (first|(refine kN (jF n L hL _ ?_ ?_ [0,0,50,100,200,1000] ?_ ?_) [(1000000,1000000)] ?_;rotate_right;rintro x rout ⟨⟨u1,hu1,rfl⟩,⟨c,c1,c2,rfl⟩⟩;have hw1:=LB hu1 (by decide);refine⟨rfl,?_⟩;conv=>whnf)|(refine dp (wA n L hL _ ?_ ?_ _ ?_) [(1000000,1000000)] ?_;rotate_right;rintro x rout ⟨⟨j,hj1,hj2,hj3,rfl⟩,⟨c,c1,c2,rfl⟩⟩;refine⟨rfl,?_⟩;conv=>whnf)|(refine dP.of (mI n L hL _ ?_ ?_ [[65,66,49],[65,66,50],[90,90,57]] (by simp) (by simp)) [(1000000,1000000)] rfl ⟨lr,ai rfl rfl,trivial⟩ ⟨rr,trivial⟩ rfl rfl ?_;rotate_right;rintro x rout ⟨⟨u3,hu3,rfl⟩,⟨c,c1,c2,rfl⟩⟩;have hw3:=bu hu3 rfl;refine⟨rfl,?_⟩;conv=>whnf)|((first|refine aa ?_ ?_<;>intro hb<;>try simp only[am]at hb|refine bg hT eO ?_|omega|refine ao ?_|decide|assumption)<;>conv=>whnf))
   · refine .ret _ ?_;conv=>whnf
     exact⟨[(10,w9 st),(20,uD vs),(30,rP ps),(1000000,bd n L b)],⟨st,cs,vs,ps,b,⟨hst,hc,p4v,bo p4 (by omega)⟩,⟨by omega,by omega⟩,rfl,rfl⟩,rr,rr,rr,rr,trivial⟩
   have hpk:v7 ⟨u1,(vs.getD j.toNat dg).key,u3⟩:=⟨⟨by show(-2^40:Int)≤u1;omega,by show u1≤2^40;omega⟩,(p4v.2 _ (al (by omega))).1,by show u3.length≤16;omega⟩;have hps:=dk p4 (show i+1≤12 by omega) hpk;have hcS:=FR 108 wq (ps++ [⟨u1,(vs.getD j.toNat dg).key,u3⟩]) hps.1 (fun p q hp hq=>z139 p q (hps.2 _ hp) (hps.2 _ hq));obtain⟨QS,hQS⟩:∃QS,QS=bc wq (ps++ [⟨u1,(vs.getD j.toNat dg).key,u3⟩]):=⟨_,rfl⟩;have hq:=hps
   have hQ:dA v7 (i+1) QS:=by
    have hp:=aK wq (ps++ [⟨u1,(vs.getD j.toNat dg).key,u3⟩]);rw[←hQS]at hp;exact⟨by rw[hp.length_eq,List.length_append];show ps.length+1≤i+1;omega,fun x hx=>hps.2 x (hp.mem_iff.1 hx)⟩
   have hok:qF ⟨st,cs,vs,QS⟩:=⟨⟨Nat.le_trans hst.1 (by decide),fun s hs=>Nat.le_trans (hst.2 s hs) (by decide)⟩,⟨by show cs.length≤2^20;omega,fun s hs=>⟨Nat.le_trans (hc.2 s hs).1 (by decide),Nat.le_trans (hc.2 s hs).2 (by decide)⟩⟩,
    ⟨by show vs.length≤2^20;omega,fun s hs=>⟨Nat.le_trans (p4v.2 s hs).1 (by decide),Nat.le_trans (p4v.2 s hs).2 (by decide)⟩⟩,⟨by show QS.length≤2^20;have:=hQ.1;omega,fun s hs=>⟨(hQ.2 s hs).1,Nat.le_trans (hQ.2 s hs).2.1 (by decide),Nat.le_trans (hQ.2 s hs).2.2 (by decide)⟩⟩⟩
   rw[←hQS]at hcS;refine dp (L3 ps (by omega)) [(1000001,30),(7,75)] ?_;rintro x rout (⟨rfl,hnil,rfl⟩|⟨rfl,rfl⟩)
   · have hnil2:=hnil;rw[hnil]at hcS;refine⟨rfl,?_⟩;conv=>whnf
     repeat' ((first|refine aa ?_ ?_<;>intro hb<;>try simp only[am]at hb|refine bg hT eO ?_|omega|refine ao ?_|decide|assumption)<;>conv=>whnf)
     refine dP.of hcS [(1000001,78)] rfl ⟨lr,lr,trivial⟩ ⟨jU rfl rfl,trivial⟩ rfl rfl ?_;rintro x rout ⟨rfl,rfl⟩;refine⟨rfl,?_⟩;conv=>whnf
     repeat' ((first|refine aa ?_ ?_<;>intro hb<;>try simp only[am]at hb|refine bg hT eO ?_|omega|refine ao ?_|decide|assumption)<;>conv=>whnf)
     refine bP (KG ⟨st,cs,vs,QS⟩ hok) [(1,10),(3,20),(4,78)] ?_;conv=>whnf
     repeat' ((first|refine aa ?_ ?_<;>intro hb<;>try simp only[am]at hb|refine bg hT eO ?_|omega|refine ao ?_|decide|assumption)<;>conv=>whnf)
     · exact⟨(c,QS,i+1),⟨⟨by omega,by show _≤b3+6*((i+1:Nat):Int);omega,by show((i+1:Nat):Int)≤m;omega⟩,hQ⟩,by show(m - ((i+1:Nat):Int)).toNat<(m - (i:Int)).toNat;omega,(by exact a7 [(1000000,1000000),(2,2),(3,3),(10,10),(20,20),(30,78)])⟩
     · exact⟨(c,ps,i+1),⟨⟨by omega,by show _≤b3+6*((i+1:Nat):Int);omega,by show((i+1:Nat):Int)≤m;omega⟩,bo p4 (by omega)⟩,by show(m - ((i+1:Nat):Int)).toNat<(m - (i:Int)).toNat;omega,(by exact a7 H7)⟩
   · refine⟨rfl,?_⟩;conv=>whnf
     repeat' ((first|refine aa ?_ ?_<;>intro hb<;>try simp only[am]at hb|refine bg hT eO ?_|omega|refine ao ?_|decide|assumption)<;>conv=>whnf)
     refine dP.of hcS [(1000001,78)] rfl ⟨lr,lr,trivial⟩ ⟨aB rfl,trivial⟩ rfl rfl ?_;rintro x rout ⟨rfl,rfl⟩;refine⟨rfl,?_⟩;conv=>whnf
     repeat' ((first|refine aa ?_ ?_<;>intro hb<;>try simp only[am]at hb|refine bg hT eO ?_|omega|refine ao ?_|decide|assumption)<;>conv=>whnf)
     refine bP (KG ⟨st,cs,vs,QS⟩ hok) [(1,10),(3,20),(4,78)] ?_;conv=>whnf
     repeat' ((first|refine aa ?_ ?_<;>intro hb<;>try simp only[am]at hb|refine bg hT eO ?_|omega|refine ao ?_|decide|assumption)<;>conv=>whnf)
     · exact⟨(c,QS,i+1),⟨⟨by omega,by show _≤b3+6*((i+1:Nat):Int);omega,by show((i+1:Nat):Int)≤m;omega⟩,hQ⟩,by show(m - ((i+1:Nat):Int)).toNat<(m - (i:Int)).toNat;omega,(by exact a7 [(1000000,1000000),(2,2),(3,3),(10,10),(20,20),(30,78)])⟩
     · exact⟨(c,ps,i+1),⟨⟨by omega,by show _≤b3+6*((i+1:Nat):Int);omega,by show((i+1:Nat):Int)≤m;omega⟩,bo p4 (by omega)⟩,by show(m - ((i+1:Nat):Int)).toNat<(m - (i:Int)).toNat;omega,(by exact a7 H7)⟩
 have him:(i:Int)=m:=by omega
 conv=>whnf
 repeat' ((first|refine aa ?_ ?_<;>intro hb<;>try simp only[am]at hb|refine bg hT eO ?_|omega|refine ao ?_|decide|assumption)<;>conv=>whnf)
 all_goals try(exfalso;omega)
 refine .ret _ ?_;conv=>whnf
 exact⟨[(10,w9 st),(20,uD vs),(30,rP ps),(1000000,bd n L b)],⟨st,cs,vs,ps,b,⟨hst,hc,p4v,bo p4 (by omega)⟩,⟨by omega,by omega⟩,rfl,rfl⟩,rr,rr,rr,rr,trivial⟩
def DG:TL:= [(7,[(0,[]),(1,[]),(2,[0,1]),(3,[0,1,2]),(4,[0,1]),(5,[0,1]),(6,[0,1]),(7,[]),(8,[]),(9,[])]),(11,[(0,[]),(1,[]),(2,[0,1]),(3,[0,1,2]),(5,rg 4),(4,[0,1,5]),(6,[0,1]),(7,[0,1]),(8,[0,1]),(9,[]),(10,[]),(11,[])]),(5,[(0,[]),(1,[]),(2,[0,1]),(4,[0,1,2]),(5,[0,1,2,4]),(7,[0,1,2,4,5]),(8,[0,1,2,4,5,7]),(3,[0,1,4,5,7,8]),(6,[0,1,7,8]),(9,[0,1]),(10,[0,1]),(11,[0,1]),(12,[]),(13,[]),(14,[])])]
theorem Ny (n:Nat)(L:Nat→Int)(hL:oW n L)(a:Int)(h0:0≤a)(ha:a≤2^34):
 ae Tryz.prog 25 [.ptr 1000000 0] [(1000000,bd n L a)] (fun y r=>(∃f:nc,HW f∧y=flt f)∧fo n L a 600 r):=by
 refine aj hT Tryz.func25 Tryz.call25 ?_;conv=>whnf
 refine dp (Kw n L hL a h0 (by omega)) [(1000000,1000000),(10,10),(20,20),(30,30)] ?_;rintro x rout ⟨st,cs,vs,ps,b,⟨k1,k2,k3,k4⟩,⟨b1,b2⟩,rfl,rfl⟩;have k1l:=k1.1;have k3l:=k3.1;have k4l:=k4.1;have k2c:G5 cs:=⟨by have:=k2.1;omega,k2.2⟩;refine⟨rfl,?_⟩;conv=>whnf
 repeat' (first|(refine dp (pn n L hL _ ?_ ?_ 12 ?_) [(1000000,1000000)] ?_;rotate_right;rintro x rout ⟨⟨w,rfl⟩,⟨c,c1,c2,rfl⟩⟩;refine⟨rfl,?_⟩;conv=>whnf)|(refine dp (wA n L hL _ ?_ ?_ 4 ?_) [(1000000,1000000)] ?_;rotate_right;rintro x rout ⟨⟨j,hj1,hj2,hj3,rfl⟩,⟨c,c1,c2,rfl⟩⟩;refine⟨rfl,?_⟩;conv=>whnf)|(refine dP.of (mI n L hL _ ?_ ?_ [[],[65],[115,49],[115,57]] (by simp) (by simp)) [(1000000,1000000)] rfl ⟨lr,ai rfl rfl,trivial⟩ ⟨rr,trivial⟩ rfl rfl ?_;rotate_right;rintro x rout ⟨⟨u1,hu1,rfl⟩,⟨c,c1,c2,rfl⟩⟩;have hw1:=sV hu1 rfl;refine⟨rfl,?_⟩;conv=>whnf)|(refine dP.of (mI n L hL _ ?_ ?_ [[],[118,49],[118,57]] (by simp) (by simp)) [(1000000,1000000)] rfl ⟨lr,ai rfl rfl,trivial⟩ ⟨rr,trivial⟩ rfl rfl ?_;rotate_right;rintro x rout ⟨⟨u2,hu2,rfl⟩,⟨c,c1,c2,rfl⟩⟩;have hw2:=bu hu2 rfl;refine⟨rfl,?_⟩;conv=>whnf)|(refine dP.of (mI n L hL _ ?_ ?_ [[118,49],[110,111,110,101]] (by simp) (by simp)) [(1000000,1000000)] rfl ⟨lr,ai rfl rfl,trivial⟩ ⟨rr,trivial⟩ rfl rfl ?_;rotate_right;rintro x rout ⟨⟨u3,hu3,rfl⟩,⟨c,c1,c2,rfl⟩⟩;have hw3:=bu hu3 rfl;refine⟨rfl,?_⟩;conv=>whnf)|(refine dP.of (mI n L hL _ ?_ ?_ [[65,66,49],[97,49],[65],[65,66,67,68,69,70,71,72,73,74,49],[65,66,49]] (by simp) (by simp)) [(1000000,1000000)] rfl ⟨lr,ai rfl rfl,trivial⟩ ⟨rr,trivial⟩ rfl rfl ?_;rotate_right;rintro x rout ⟨⟨u4,hu4,rfl⟩,⟨c,c1,c2,rfl⟩⟩;have hw4:=sV hu4 rfl;refine⟨rfl,?_⟩;conv=>whnf)|(refine dp (mh n L hL _ ?_ ?_ 0 2000 ?_ ?_ ?_) [(1000000,1000000)] ?_;rotate_right;rintro x rout ⟨⟨o,ho1,ho2,rfl⟩,⟨c,c1,c2,rfl⟩⟩;refine⟨rfl,?_⟩;conv=>whnf)|(refine dp (Fy n L hL _ ?_ ?_) [(1000000,1000000)] ?_;rotate_right;rintro x rout ⟨⟨u5,hu5,rfl⟩,⟨c,c1,c2,rfl⟩⟩;refine⟨rfl,?_⟩;conv=>whnf)|(refine dp (Gn n L hL _ ?_ ?_) [(1000000,1000000)] ?_;rotate_right;rintro x rout ⟨⟨cn,hcn,rfl⟩,⟨c,c1,c2,rfl⟩⟩;refine⟨rfl,?_⟩;conv=>whnf)|((first|refine aa ?_ ?_<;>intro hb<;>try simp only[am]at hb|refine bg hT DG ?_|omega|refine ao ?_|decide|assumption)<;>conv=>whnf))
 · refine .freeze _ 10 127 15 _ _ rfl (.freeze _ 20 131 2 _ _ rfl (.freeze _ 30 134 3 _ _ rfl ?_));refine .ent _ _ (aF 2 10 15 _ 0 _ rfl rfl rfl) ?_;refine .ent _ _ (aF 2 20 2 _ 2 _ rfl rfl rfl) ?_;refine .ent _ _ (aF 2 30 3 _ 3 _ rfl rfl rfl) ?_;refine .weak _ ?_;conv=>whnf
   exact⟨flt ⟨st,cs,vs,ps⟩,[(1000000,bd n L _)],be ⟨lr,lr,lr,lr,trivial⟩,⟨⟨⟨st,cs,vs,ps⟩,⟨bo k1 (by omega),k2c,bo k3 (by omega),bo k4 (by omega)⟩,rfl⟩,_,by omega,by omega,rfl⟩,rr,trivial⟩
 · refine .freeze _ 35 127 15 _ _ rfl (.freeze _ 20 131 2 _ _ rfl (.freeze _ 30 134 3 _ _ rfl ?_));refine .ent _ _ (aF 2 35 15 _ 0 _ rfl rfl rfl) ?_;refine .ent _ _ (aF 2 20 2 _ 2 _ rfl rfl rfl) ?_;refine .ent _ _ (aF 2 30 3 _ 3 _ rfl rfl rfl) ?_;refine .weak _ ?_;conv=>whnf
   exact⟨flt ⟨st++ [⟨u1,fun _=>0⟩],cs,vs,ps⟩,[(1000000,bd n L _)],be ⟨lm rfl,lr,lr,lr,trivial⟩,⟨⟨⟨st++ [⟨u1,fun _=>0⟩],cs,vs,ps⟩,⟨dk k1 (by omega) (by show u1.length≤8;exact bu hu1 rfl),k2c,bo k3 (by omega),bo k4 (by omega)⟩,rfl⟩,_,by omega,by omega,rfl⟩,rr,trivial⟩
 · refine .freeze _ 10 127 15 _ _ rfl (.freeze _ 20 131 2 _ _ rfl (.freeze _ 30 134 3 _ _ rfl ?_));refine .ent _ _ (aF 2 10 15 _ 0 _ rfl rfl rfl) ?_;refine .ent _ _ (aF 2 20 2 _ 2 _ rfl rfl rfl) ?_;refine .ent _ _ (aF 2 30 3 _ 3 _ rfl rfl rfl) ?_;refine .weak _ ?_;conv=>whnf
   exact⟨flt ⟨st,cn,vs,ps⟩,[(1000000,bd n L _)],be ⟨lr,lr,lr,lr,trivial⟩,⟨⟨⟨st,cn,vs,ps⟩,⟨bo k1 (by omega),hcn,bo k3 (by omega),bo k4 (by omega)⟩,rfl⟩,_,by omega,by omega,rfl⟩,rr,trivial⟩
 · refine .freeze _ 10 127 15 _ _ rfl (.freeze _ 53 131 2 _ _ rfl (.freeze _ 30 134 3 _ _ rfl ?_));refine .ent _ _ (aF 2 10 15 _ 0 _ rfl rfl rfl) ?_;refine .ent _ _ (aF 2 53 2 _ 2 _ rfl rfl rfl) ?_;refine .ent _ _ (aF 2 30 3 _ 3 _ rfl rfl rfl) ?_;refine .weak _ ?_;conv=>whnf
   exact⟨flt ⟨st,cs,vs++ [⟨u2,u5⟩],ps⟩,[(1000000,bd n L _)],be ⟨lr,lr,lm rfl,lr,trivial⟩,⟨⟨⟨st,cs,vs++ [⟨u2,u5⟩],ps⟩,⟨bo k1 (by omega),k2c,dk k3 (by omega) ⟨hw2,hu5⟩,bo k4 (by omega)⟩,rfl⟩,_,by omega,by omega,rfl⟩,rr,trivial⟩
 · refine .freeze _ 10 127 15 _ _ rfl (.freeze _ 20 131 2 _ _ rfl (.freeze _ 24 134 3 _ _ rfl ?_));refine .ent _ _ (aF 2 10 15 _ 0 _ rfl rfl rfl) ?_;refine .ent _ _ (aF 2 20 2 _ 2 _ rfl rfl rfl) ?_;refine .ent _ _ (aF 2 24 3 _ 3 _ rfl rfl rfl) ?_;refine .weak _ ?_;conv=>whnf
   exact⟨flt ⟨st,cs,vs,ps++ [⟨o,u3,u4⟩]⟩,[(1000000,bd n L _)],be ⟨lr,lr,lr,lm rfl,trivial⟩,⟨⟨⟨st,cs,vs,ps++ [⟨o,u3,u4⟩]⟩,⟨bo k1 (by omega),k2c,bo k3 (by omega),dk k4 (by omega) ⟨⟨ho1,ho2⟩,hw3,hw4⟩⟩,rfl⟩,_,by omega,by omega,rfl⟩,rr,trivial⟩
def zQ:TL:= [(5,[(0,[]),(1,[]),(2,[0,1]),(3,[0,1,2]),(4,rg 4),(5,[0,1,2]),(6,[0,1]),(7,[0,1]),(8,[]),(9,[]),(10,[])]),(7,[(0,[]),(1,[0]),(3,[0,1]),(2,[0,3]),(4,[0]),(5,[]),(6,[])])]
structure Jy (h:df):Prop where
 flt:HW h.flt
 tar:FV h.tar
theorem Jy.ok {h:df}(k:Jy h):oa h:=⟨k.flt.ok,k.tar.ok⟩
def JT:List lB:= [⟨[115,49],fun _=>0⟩,⟨[115,50],fun _=>0⟩]
def Lx:List (List UInt8):= [[118,49],[118,50],[118,51]]
theorem FG (n:Nat)(L:Nat→Int)(hL:oW n L)(a:Int)(h0:0≤a)(ha:a≤2^32):
 ae Tryz.prog 22 [.ptr 1000000 0] [(1000000,bd n L a)] (fun y r=>(∃h:df,Jy h∧y=hou h)∧fo n L a 2400 r):=by
 refine aj hT Tryz.func22 Tryz.call22 ?_;conv=>whnf
 repeat' (first|(refine dp (Cs n L hL _ ?_ ?_) [(1000000,1000000),(9,10)] ?_;rotate_right;rintro x rout ⟨cl,c,hcl,⟨c1,c2⟩,rfl,rfl⟩;refine⟨rfl,?_⟩;conv=>whnf)|((first|refine aa ?_ ?_<;>intro hb<;>try simp only[am]at hb|refine bg hT zQ ?_|omega|refine ao ?_|decide|assumption)<;>conv=>whnf))
 all_goals try omega
 obtain⟨cc,hcc⟩:∃cc:Int,cc=c:=⟨_,rfl⟩;have hclb:G5 cl:=⟨by omega,hcl.2⟩
 refine af hT (C:= []) (ι:=Int×List pV×Nat) (fun(b,l,i)=>(cc≤b∧b≤cc+i∧i≤3)∧dA AZ i l)
  (fun(b,l,i)=>aJ [(0,.ptr 1000000 0),(2,.ptr 2 0),(3,.ptr 3 0),(12,.d (bU Lx)),(13,.d (.int .i64 3)),(14,.d (.int .i64 i))] [(1000000,bd n L b),(3,.cells 31 [.d (iT JT),.buf 10,.buf 20,.d .nilsl]),(10,aD 180 2 ub cD cl),(20,aD 131 2 uM dg l),(2,.cells 42 ([.d .nilsl,.d .nilsl,.d .nilsl,.d .nilsl,.d .nilsl,.d .nilsl,.d .nilsl,.d .nilsl,.d .nilsl]++(yw Ir).map .d))])
  (fun(_,_,i)=>3 - i) (cc,[],0) ⟨⟨by simp,by simp,by simp⟩,⟨by simp,by simp⟩⟩ ?_ ?_
 · subst hcc
   exact(bF 3 20 131 2 2 (aR uM dg []) rfl rfl rfl (by decide) rfl).trans (ac [(1000000,1000000),(3,3),(10,10),(20,20),(2,2)] rfl rfl ⟨lr,lr,lr,ai rfl rfl,lr,lr,trivial⟩ ⟨rr,nQ rfl (by
    intro i x y hx hy
    match i with
    |0=>cases hx;cases hy;exact ai rfl rfl
    |1=>cases hx;cases hy;exact lr
    |2=>cases hx;cases hy;exact lr
    |3=>cases hx;cases hy;exact lr
    |i+4=>cases hx),rr,rr,rr,trivial⟩)
 rintro⟨b,l,i⟩ ⟨⟨p1,p2,p3⟩,p4⟩;have p1:cc≤b:=p1;have p2:b≤cc+i:=p2;have p3:i≤3:=p3;have p4:dA AZ i l:=p4;have hc3:Lx.length=3:=rfl;have hl1:l.length≤i:=p4.1;have hkk:(i:Int)<3→(Lx.getD (i:Int).toNat []).length≤8:=fun h=>bu (al (by omega)) rfl
 conv=>whnf
 repeat' (first|(refine dP.of (mI n L hL _ ?_ ?_ [[109,105,110,105],[109,105,110,105],[109,105,100,105]] (by simp) (by simp)) [(1000000,1000000)] rfl ⟨lr,ai rfl rfl,trivial⟩ ⟨rr,trivial⟩ rfl rfl ?_;rotate_right;rintro x rout ⟨⟨v1,hv1,rfl⟩,⟨c,c1,c2,rfl⟩⟩;refine⟨rfl,?_⟩;conv=>whnf)|(refine dp (C8 n L hL _ ?_ ?_) [(1000000,1000000)] ?_;rotate_right;rintro x rout ⟨⟨t,ht,rfl⟩,⟨c,c1,c2,rfl⟩⟩;refine⟨rfl,?_⟩;conv=>whnf)|(refine dp (HV n L hL _ ?_ ?_) [(1000000,1000000)] ?_;rotate_right;rintro x rout ⟨⟨d,hd,rfl⟩,⟨c,c1,c2,rfl⟩⟩;refine⟨rfl,?_⟩;conv=>whnf)|((first|refine aa ?_ ?_<;>intro hb<;>try simp only[am]at hb|refine bg hT zQ ?_|omega|refine ao ?_|decide|assumption)<;>conv=>whnf))
 all_goals try omega
 · exact⟨(c,l++ [⟨Lx.getD (i:Int).toNat [],v1⟩],i+1),⟨⟨by omega,by show _≤cc+((i+1:Nat):Int);omega,by omega⟩,dk p4 (by omega) ⟨hkk (by omega),bu hv1 rfl⟩⟩,by show 3 - (i+1)<3 - i;omega,
    ac [(1000000,1000000),(3,3),(10,10),(20,26),(2,2)] rfl rfl ⟨lr,lr,lr,lr,lr,lr,trivial⟩ ⟨rr,rr,rr,aB rfl,rr,trivial⟩⟩
 · refine .freeze _ 10 180 2 _ _ rfl (.freeze _ 20 131 2 _ _ rfl (.ent _ _ (aF 2 10 2 _ 1 _ rfl rfl rfl) (.ent _ _ (aF 2 20 2 _ 2 _ rfl rfl rfl) (.weak _ ?_))));conv=>whnf
   exact⟨hou ⟨⟨JT,cl,l,[]⟩,t,d⟩,[(1000000,bd n L _)],be ⟨lr,lr,lr,aI,lr,lr,lr,lr,lr,lr,lr,lr,lr,lr,lr,lr,trivial⟩,⟨⟨⟨⟨JT,cl,l,[]⟩,t,d⟩,⟨⟨⟨by show JT.length≤4;decide,fun x hx=>by
    simp only[JT,List.mem_cons,List.not_mem_nil,or_false]at hx;rcases hx with rfl|rfl
    · show([115,49]:List UInt8).length≤8;decide
    · show([115,50]:List UInt8).length≤8;decide⟩,hclb,bo p4 (by omega),⟨by simp,by simp⟩⟩,ht⟩,rfl⟩,_,by omega,by omega,rfl⟩,rr,trivial⟩
theorem Iv (n:Nat)(L:Nat→Int)(hL:oW n L)(a:Int)(h0:0≤a)(ha:a≤2^32):
 ae Tryz.prog 4 [.ptr 1000000 0] [(1000000,bd n L a)] (fun y r=>(∃h:df,Jy h∧y=hou h)∧fo n L a 3100 r):=by
 refine aj hT Tryz.func4 Tryz.call4 ?_;conv=>whnf
 repeat' (first|(refine dp (FG n L hL _ ?_ ?_) [(1000000,1000000)] ?_;rotate_right;rintro x rout ⟨⟨h,hh,rfl⟩,⟨c,c1,c2,rfl⟩⟩;refine⟨rfl,?_⟩;conv=>whnf)|(refine dp (pn n L hL _ ?_ ?_ 20 ?_) [(1000000,1000000)] ?_;rotate_right;rintro x rout ⟨⟨w,rfl⟩,⟨c,c1,c2,rfl⟩⟩;refine⟨rfl,?_⟩;conv=>whnf)|(refine dp (wA n L hL _ ?_ ?_ 3 ?_) [(1000000,1000000)] ?_;rotate_right;rintro x rout ⟨⟨m,hm1,hm2,hm3,rfl⟩,⟨c,c1,c2,rfl⟩⟩;refine⟨rfl,?_⟩;conv=>whnf)|(refine dp (Ny n L hL _ ?_ ?_) [(1000000,1000000)] ?_;rotate_right;rintro x rout ⟨⟨f,hf,rfl⟩,⟨c,c1,c2,rfl⟩⟩;refine⟨rfl,?_⟩;conv=>whnf)|(refine dp (zR n L hL _ ?_ ?_) [(1000000,1000000)] ?_;rotate_right;rintro x rout ⟨⟨t,ht,rfl⟩,⟨c,c1,c2,rfl⟩⟩;refine⟨rfl,?_⟩;conv=>whnf)|(refine dp (Hg n L hL _ ?_ ?_) [(1000000,1000000)] ?_;rotate_right;rintro x rout ⟨⟨d,_,rfl⟩,⟨c,c1,c2,rfl⟩⟩;refine⟨rfl,?_⟩;conv=>whnf)|((first|refine aa ?_ ?_<;>intro hb<;>try simp only[am]at hb|omega|refine ao ?_|decide|assumption)<;>conv=>whnf))
 all_goals try omega
 all_goals refine .ret _ ?_
 all_goals conv=>whnf
 · exact⟨[(1000000,bd n L _)],⟨⟨⟨f,h.tar,h.dea⟩,⟨hf,hh.tar⟩,rfl⟩,_,by omega,by omega,rfl⟩,rr,trivial⟩
 · exact⟨[(1000000,bd n L _)],⟨⟨⟨h.flt,t,h.dea⟩,⟨hh.flt,ht⟩,rfl⟩,_,by omega,by omega,rfl⟩,rr,trivial⟩
 · exact⟨[(1000000,bd n L _)],⟨⟨⟨h.flt,h.tar,d⟩,⟨hh.flt,hh.tar⟩,rfl⟩,_,by omega,by omega,rfl⟩,rr,trivial⟩
 · exact⟨[(1000000,bd n L _)],⟨⟨h,hh,rfl⟩,_,by omega,by omega,rfl⟩,rr,trivial⟩
theorem Jk {vm:Mp (List UInt8)}{sm:Mp Bool}{m n:Nat}{t:Int}{s:da}(hI:dQ m n s)(hb:gI vm sm t s)(hm:m≤2^18)(hn:n<500):JN (pC s) where
 log:=by
  show(bc aX s.log).length≤_;rw[(aK aX _).length_eq];have:=hI.log;omega
 apt:=me.sort ⟨hI.apt,fun x hx=>by have:=(hb.rt x hx).tm;unfold Cv;omega⟩
 fb:=by obtain⟨L,h1,h2⟩:=hI.fb;exact⟨L,by omega,h2⟩
 fh:=by obtain⟨L,h1,h2⟩:=hI.fh;exact⟨L,by omega,h2⟩
 paid k:=by have:=hI.paid k;show -2^40≤s.paid.val k∧s.paid.val k≤2^40;omega
 non:=hI.non
 his:=hI.his
theorem tf {l:List aZ}(hl:zO l):(∀x ∈ l,0≤x.tm∧x.tm≤5761439)∧l.Pairwise fun a b=>a.tm≤b.tm:=by
 refine⟨fun x hx=> ?_,hl.ord.imp fun{a b} q=> ?_⟩
 · have:=hl.frm x hx;unfold oA at this
   by_cases q:0≤x.tm∧x.tm≤5761439
   · exact q
   · rw[if_pos q]at this;exact absurd this (by decide)
 · unfold fa at q;simp only[ah]at q
   by_cases z:bJ a.tm b.tm=0
   · have:=dw.1 z;omega
   · rw[if_neg (by simp[z])]at q;have:=qx.1 (show bJ a.tm b.tm<0 by first|exact q|omega);omega
theorem Io {h:df}(hE:gi h=0){l:List aZ}(hl:zO l)(hn:l.length≤400)(i:Nat)(hi:i≤l.length):JN ((l.take i).foldl (rS h (b8 h.flt.veh) (bV h.flt.sta)) kQ):=by
 have hc:dD h.flt.cls=0:=by
  have hf:=ru hE;unfold iL at hf
  by_cases q:kL h.flt=0
  · exact bf q _ (by simp)
  · rw[if_pos q]at hf;exact absurd hf q
 obtain⟨hf,hp⟩:=tf hl;have hf2:∀x ∈ l.take i,(0:Int)≤x.tm∧0≤x.tm∧x.tm≤5761439:=fun x hx=>by have:=hf x (List.mem_of_mem_take hx);omega
 have hp2:=hp.sublist (List.take_sublist i l);have e:=(x8 (vm:=b8 h.flt.veh) (sm:=bV h.flt.sta) hc (ul hE) (l.take i) (i:=0) rD zn yG hp2 hf2).1;have e0:pC jl=kQ:=rfl;rw[e0]at e;rw[e];have hI:=yj (h:=h) (vm:=b8 h.flt.veh) (sm:=bV h.flt.sta) (l.take i) rD;obtain⟨t1,_,hb,_⟩:=Ax h (ul hE) (l.take i) rD zn yG hp2 hf2 (by decide);have hlt:(l.take i).length≤400:=by rw[List.length_take];omega
 exact Jk hI hb (by omega) (by omega)
theorem z3 (n:Nat)(L:Nat→Int)(hn:n≤maxLen)(hL0:∀i,-2^63≤L i∧L i<2^63):
 ae Tryz.prog 3 [.d (.ro 1 n fun i=> [.int .i64 (L i)])] kx (fun x r=>x= .d (.bool true)∧r=kx):=by
 have hL:oW n L:=⟨hn,hL0⟩;refine aj hT Tryz.func3 Tryz.call3 ?_;conv=>whnf
 repeat' (first|(refine dp (Iv n L hL _ ?_ ?_) [(1000000,19)] ?_;rotate_right;rintro x rout ⟨⟨h,hh,rfl⟩,⟨c,c1,c2,rfl⟩⟩;refine⟨rfl,?_⟩;conv=>whnf)|(refine dP.of (E5 n L hL _ ?_ ?_ 0 18 (by omega) (by omega) (by omega) (by omega)) [(1000000,19)] rfl ⟨lr,lr,lr,trivial⟩ ⟨rr,trivial⟩ rfl rfl ?_;rotate_right;rintro x rout ⟨⟨m1,hm1,hm2,rfl⟩,⟨c,c1,c2,rfl⟩⟩;refine⟨rfl,?_⟩;conv=>whnf)|(refine dP.of (OK n L hL _ ?_ ?_ m1 (by omega) (by omega)) [(1000000,19),(1000009,1000009),(5,25)] rfl ⟨lr,lr,trivial⟩ ⟨rr,rr,trivial⟩ rfl rfl ?_;rotate_right;rintro x rout ⟨l,b,hG,⟨b1,b2⟩,rfl,rfl⟩;refine⟨rfl,?_⟩;conv=>whnf)|((first|refine aa ?_ ?_<;>intro hb<;>try simp only[am]at hb|omega|refine ao ?_|decide|assumption)<;>conv=>whnf))
 all_goals try omega
 have hko:=hh.ok;have hlo:ku l:=Fl hG (by omega);have hll:l.length≤400:=by have:=hG.1;omega
 by_cases e:ah [gi h,cx l]=0
 · have hE:gi h=0:=bf e _ (by simp);have hlE:cx l=0:=bf e _ (by simp);have k:A3 h l:=⟨hko,hlo,hll,fun x hx=>by have:=(hG.2 x hx).1.2;omega,hE,hlE⟩;have hR:=Eu.1 hlE;have ho:LC h:=⟨by have:=hko.1.veh.1;omega,by have:=hko.1.sta.1;omega,by have:=hko.1.cls.1;omega⟩;have cR:=D6 h l k;have cL:=MR h l k;have cB:=BD h l k;have cH:=IG h l k;have cF:=O7 h ho l (by omega) (fun x hx=>⟨k.wds x hx,by have:=(tf hR).1 x hx;omega⟩) (Io hE hR hll);obtain⟨f1,f2⟩:=y1 hE hR;rw[f1,f2]at cF;have hZ:dQ (2*l.length) l.length (cV h l):=uf h _ _ l l.length (Nat.le_refl _);have hrl:(cV h l).ref.length≤l.length:=wI h _ _ l l.length
   have hll2:(bc aX (cV h l).log).length≤2^40:=by
    have h2:(cV h l).log.length≤2*l.length:=hZ.log;rw[(aK aX _).length_eq];omega
   have hkl:((ey (cV h l).bks.has).map (hJ (cV h l).bks)).length≤2^40:=by
    obtain⟨K,h1,h2⟩:=hZ.fb;have:(ey (cV h l).bks.has).length≤K.length:=tO h2;rw[List.length_map];omega
   obtain⟨K,h1,h2⟩:=hZ.fh;obtain⟨_,_,n3⟩:=zj h2
   have hhl:((ey (cV h l).his.has).map (fP (cV h l).his)).length≤2^40:=by
    have:(ey (cV h l).his.has).length≤K.length:=tO h2;rw[List.length_map];omega
   have hhg:∀g ∈ (ey (cV h l).his.has).map (fP (cV h l).his),g.legs.length≤2^40:=fun g hg=>by
    obtain⟨s,hs,rfl⟩:=List.mem_map.1 hg;obtain⟨g,g1,g2⟩:=hZ.his s ((n3 s).1 hs);unfold fP;rw[g1];have:=(e6 g2).2.2.1;show g.legs.length≤_;omega
   have c16:=Pg (cV h l).ref (by omega);have c17:=JR (bc aX (cV h l).log) (bc aX (cV h l).log) hll2 hll2;rw[decide_eq_true rfl]at c17;have c18:=Kt _ _ hkl hkl;rw[decide_eq_true rfl]at c18;have c20:=OX _ hhl hhg;have c19:=Mh h (pC (cV h l)) (gU hZ.fb hll) (fun _ _=>rfl)
   have c21:=NA h (pC (cV h l)) (gU hZ.fh hll) (fun k q=>by
    obtain⟨g,h1,_⟩:=hZ.his k q;unfold fP;show cQ ((cV h l).his.val k)=dS (((cV h l).his.val k).getD fq)
    rw[h1];rfl) (fun k q=>by
    obtain⟨g,h1,_⟩:=hZ.his k q;show(cV h l).his.val k≠none
    rw[h1];exact fun e=>by cases e)
   have cA:=KE h hko;have cE:=La l hlo;have cS:=OA [gi h,cx l] (by simp);rw[hE]at cA;rw[hlE]at cE;rw[e,hE,hlE]at cS;rw[show(pC (cV h l)).bks=(cV h l).bks from rfl]at c19;rw[show(pC (cV h l)).his=(cV h l).his from rfl]at c21;rw[show(pC (cV h l)).log=bc aX (cV h l).log from rfl]at cF
   change ae Tryz.prog 19 _ [(1000001,.cells 77 (oU h++ [.d (ic (bc aX (cV h l).log)),.mp 1000006,.mp 1000007,.mp 1000008])),(1000006,dM true (ez fG) ez (cV h l).bks),(1000007,dM true (cQ none) cQ (cV h l).his),(1000008,dM false [.int .i64 0] xU (cV h l).paid)] _ at c19
   clear hZ hG hR k f1 f2 hhg hhl hkl hll2 hrl;generalize (ey (cV h l).bks.has).map (hJ (cV h l).bks)=bl at cB c18 c19;generalize (ey (cV h l).his.has).map (fP (cV h l).his)=hl at cH c20 c21;repeat' (first|((first|(refine dP.freeze _ _ _ _ 25 96 4 _ _ rfl rfl ?_;refine bP cR [(1000009,1000009)] ?_)|(refine bP cL [(1000009,1000009)] ?_)|(refine bP cB [(1000009,1000009)] ?_)|(refine bP cH [(1000009,1000009)] ?_))<;>conv=>whnf)|(refine ab (cA) rfl rfl ?_;rotate_right;conv=>whnf)|(refine ab (cE) rfl rfl ?_;rotate_right;conv=>whnf)|(refine ap cS ⟨ai (by rfl) (by rfl),trivial⟩ rfl ?_;conv=>whnf)|(refine ab (OG) rfl rfl ?_;rotate_right;conv=>whnf)|(refine bP cF [(1000009,1000009),(31,131),(33,133),(34,134),(35,135)] ?_;conv=>whnf)|(refine ab (c16) rfl rfl ?_;rotate_right;conv=>whnf)|(refine ab (c17) rfl rfl ?_;rotate_right;conv=>whnf)|(refine ab (c18) rfl rfl ?_;rotate_right;conv=>whnf)|(refine ab (c20) rfl rfl ?_;rotate_right;conv=>whnf)|((first|(refine bP c19 [(1000001,131),(1000006,133),(1000007,134),(1000008,135)] ?_)|(refine bP c21 [(1000001,131),(1000006,133),(1000007,134),(1000008,135)] ?_)|refine aa ?_ ?_<;>intro hb<;>try simp only[am]at hb|omega|refine ao ?_|decide|assumption)<;>conv=>whnf))
   all_goals try(exfalso;first|omega|(simp at hb;done))
   all_goals
    refine .ret _ ?_;conv=>whnf
    exact⟨_,⟨rfl,rfl⟩,rr,trivial⟩
 · have cR:=MC h l hko hlo e;have cL:=L9 h l hko hlo e;have cB:=Me h l hko hlo e;have cH:=Nk h l hko hlo e;have cA:=KE h hko;have cE:=La l hlo;have cS:=OA [gi h,cx l] (by simp);generalize gi h=A at cR cL cB cH cA cS e;generalize cx l=B at cR cL cB cH cE cS e;generalize ah [A,B]=F at cR cL cB cH cS e;repeat' (first|((first|(refine dP.freeze _ _ _ _ 25 96 4 _ _ rfl rfl ?_;refine bP cR [(1000009,1000009)] ?_)|(refine bP cL [(1000009,1000009)] ?_)|(refine bP cB [(1000009,1000009)] ?_)|(refine bP cH [(1000009,1000009)] ?_))<;>conv=>whnf)|(refine ab (cA) rfl rfl ?_;rotate_right;conv=>whnf)|(refine ab (cE) rfl rfl ?_;rotate_right;conv=>whnf)|(refine ap cS ⟨ai (by rfl) (by rfl),trivial⟩ rfl ?_;conv=>whnf)|(refine ab (OG) rfl rfl ?_;rotate_right;conv=>whnf)|((first|refine aa ?_ ?_<;>intro hb<;>try simp only[am]at hb|omega|refine ao ?_|decide|assumption)<;>conv=>whnf))
   all_goals try(exfalso;first|omega|(simp at hb;done))
   all_goals
    refine .ret _ ?_;conv=>whnf
    exact⟨_,⟨rfl,rfl⟩,rr,trivial⟩
end Go.Proofs.YtafhoijegjmdcaaGreatDoor
