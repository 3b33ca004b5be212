/- FollowedStay is proved: for every input the law returns true, and its argument reads afterwards as it read before. Conditions: those of the given row alone. -/
import Derived.Test.YtophabkpfpbadaaGreatDoorFsConTri
import Derived.Test.YtophabkpfpbadaaGreatDoorFsConTwo
import Derived.Test.YtophabkpfpbadaaGreatDoorFsConOne
import Derived.Test.YtophabkpfpbadaaGreatDoorFsEngTwo
set_option linter.unusedVariables false
set_option linter.unusedSimpArgs false
set_option maxRecDepth 20000
namespace Go.Proofs.YtophabkpfpbadaaGreatDoor
open Go Go.Eng
def oQStB243_3:OL:= [(0,[]),(1,[0]),(2,[0,1]),(3,[0]),(4,rg 4),(5,rg 5),(6,rg 6),(7,rg 5),(8,rg 8),(9,rg 9),(10,rg 10),(11,rg 9),(12,rg 8),(13,rg 8),(14,rg 14),(15,rg 15),(16,rg 16),(17,rg 15),(18,rg 14),(19,rg 14),(20,[4,5,6,7]),(21,[4,5,6,7]),(22,[]),(23,[])]
theorem wSwpEv (g:FuncId)(P A M B S c:List Evn)(a b n:Nat)(ha:P.length=a)(hb0:a+A.length+M.length=b)(hn:A.length=n)(hAB:B.length=n)(hc:c=P++(A++(M++(B++S))))(hl:c.length≤2^20):
 FSpec Tryz.prog 243 [.buf 1000001,.d (.int .i64 a),.d (.int .i64 b),.d (.int .i64 n),.fn g []] [(1000001,seqB 65 5 evF ev0 c)]
  (fun y r=>y= .tup []∧r= [(1000001,seqB 65 5 evF ev0 (P++(B++(M++(A++S)))))]):=by
 have hl0:=hl;rw[hc]at hl0;simp only[List.length_append]at hl0;refine spec_of hT (C:= []) Tryz.func243 rfl Tryz.call243 rfl rfl rfl ?_;conv=>whnf
 refine LoopX.rule hT (C:= []) (ι:=Nat×List Evn×List Evn×List Evn×List Evn×List Evn) (fun(i,A1,A2,B1,B2,c)=>A1++A2=A∧B1++B2=B∧A1.length=i∧B1.length=i∧c=P++(B1++(A2++(M++(A1++(B2++S))))))
  (fun(i,_,_,_,_,c)=>mkSt [(0,.buf 1000001),(1,.d (.int .i64 a)),(2,.d (.int .i64 b)),(3,.d (.int .i64 n)),(10,.d (.int .i64 i))] [(1000001,seqB 65 5 evF ev0 c)])
  (fun(i,_,_,_,_,_)=>n - i) (0,[],A,[],B,c) ⟨rfl,rfl,rfl,rfl,hc⟩ (by exact eAx [(1000001,1000001)]) ?_
 rintro⟨i,A1,A2,B1,B2,d⟩ ⟨p1,p2,p3,p4,p5⟩;have l1:A1.length+A2.length=A.length:=by rw[←p1,List.length_append]
 have l2:B1.length+B2.length=B.length:=by rw[←p2,List.length_append]
 cases A2 with
 | nil=>
   have hb9:B2= []:=List.length_eq_zero_iff.1 (by simp only[List.length_nil]at l1;omega);subst hb9;rw[List.append_nil]at p1 p2;subst p1 p2;simp only[List.length_nil]at l1 l2;conv=>whnf
   repeat' (first|((first|(refine br_intro ?_ ?_<;>intro hb<;>try simp only[brs]at hb)|refine rAx hT 3 oQStB243_3 ?_|omega|refine sAx ?_|decide|assumption)<;>conv=>whnf))
   all_goals first
    |(exfalso;omega)
    | (refine .ret _ ?_
       conv=>whnf
       exact⟨_,⟨rfl,rfl⟩,by rw[p5];exact rr,trivial⟩)
 |cons x A2=>
 cases B2 with
 |nil=>exfalso;simp only[List.length_nil,List.length_cons]at l1 l2;omega
 |cons y B2=>
 simp only[List.length_cons]at l1 l2;have hc':d=(P++B1)++x::((A2++(M++A1))++y::(B2++S)):=by rw[p5];simp
 have hlc:d.length=P.length+A.length+M.length+B.length+S.length:=by rw[hc'];simp only[List.length_append,List.length_cons];omega
 have i1:((a:Int)+(i:Int)).toNat=(P++B1).length:=by rw[List.length_append];omega
 have i2:((b:Int)+(i:Int)).toNat=(P++B1).length+1+(A2++(M++A1)).length:=by simp only[List.length_append];omega
 obtain⟨g1,g2,g3⟩:=swp_at (P++B1) (A2++(M++A1)) (B2++S) x y ev0;rw[←hc',←i1]at g1;rw[←hc',←i2]at g2;rw[←hc',←i2,←i1]at g3;conv=>whnf
 repeat' (first|((first|(refine br_intro ?_ ?_<;>intro hb<;>try simp only[brs]at hb)|refine rAx hT 3 oQStB243_3 ?_|omega|refine sAx ?_|decide|assumption)<;>conv=>whnf))
 all_goals first
  |(exfalso;omega)
  |(refine⟨(i+1,A1++ [x],A2,B1++ [y],B2,(d.set ((a:Int)+(i:Int)).toNat (d.getD ((b:Int)+(i:Int)).toNat ev0)).set ((b:Int)+(i:Int)).toNat (d.getD ((a:Int)+(i:Int)).toNat ev0)),⟨by rw[←p1];simp,by rw[←p2];simp,by simp only[List.length_append,List.length_cons,List.length_nil];omega,by simp only[List.length_append,List.length_cons,List.length_nil];omega,by rw[g1,g2,g3];simp⟩,by show n - (i+1)<n - i;omega,Entails.mk' [(1000001,1000001)] rfl rfl ⟨lr,lr,lr,lr,SV.le_int (by omega),trivial⟩ ⟨Res.le_put2 (fun _=>rfl) (fun _=>rfl),trivial⟩⟩)
theorem wRotEv (g:FuncId)(P X Y S c:List Evn)(a m b:Nat)(ha:P.length=a)(hm:a+X.length=m)(hb0:m+Y.length=b)(hc:c=P++(X++(Y++S)))(hX:1≤X.length)(hY:1≤Y.length)(hl:c.length≤2^20):
 FSpec Tryz.prog 224 [.buf 1000001,.d (.int .i64 a),.d (.int .i64 m),.d (.int .i64 b),.fn g []] [(1000001,seqB 65 5 evF ev0 c)]
  (fun y r=>y= .tup []∧r= [(1000001,seqB 65 5 evF ev0 (P++(Y++(X++S))))]):=by
 have hl0:=hl;rw[hc]at hl0;simp only[List.length_append]at hl0;refine spec_of hT (C:= []) Tryz.func224 rfl Tryz.call224 rfl rfl rfl ?_;conv=>whnf
 repeat' (first|((first|(refine br_intro ?_ ?_<;>intro hb<;>try simp only[brs]at hb)|omega|refine sAx ?_|decide|assumption)<;>conv=>whnf))
 refine LoopX.rule hT (C:= []) (ι:=Nat×Nat×List Evn×List Evn×List Evn×List Evn×List Evn) (fun(i,j,A,X',Y',B,c)=>A++(Y'++(X'++B))=P++(Y++(X++S))∧A.length+i=m∧X'.length=i∧Y'.length=j∧1≤i∧1≤j∧c=A++(X'++(Y'++B)))
  (fun(i,j,_,_,_,_,c)=>mkSt [(0,.buf 1000001),(2,.d (.int .i64 m)),(4,.fn g []),(10,.d (.int .i64 i)),(11,.d (.int .i64 j))] [(1000001,seqB 65 5 evF ev0 c)])
  (fun(i,j,_,_,_,_,_)=>i+j) (X.length,Y.length,P,X,Y,S,c) ⟨rfl,by show P.length+X.length=m;omega,rfl,rfl,hX,hY,hc⟩ (by exact eAx [(1000001,1000001)]) ?_
 rintro⟨i,j,A,X',Y',B,d⟩ ⟨p1,p2,p3,p4,p5,p6,p7⟩
 have q1:A.length+X'.length+Y'.length+B.length=P.length+X.length+Y.length+S.length:=by
  have:=congrArg List.length p1;simp only[List.length_append]at this;omega
 have hld:d.length≤2^20:=by rw[p7];simp only[List.length_append];omega
 have e1:((m:Int) - (i:Int))=((A.length:Nat):Int):=by omega
 rcases Nat.lt_trichotomy i j with q|q|q
 · obtain⟨k1,k2,k3⟩:=cut_at Y' (j - i) (by omega);generalize List.take (j - i) Y' =U at k1 k2;generalize List.drop (j - i) Y' =V at k1 k3;subst k1;simp only[List.length_append]at p4 q1;have c1:=wSwpEv g A X' U V B d A.length (A.length+i+U.length) i rfl (by omega) p3 (by omega) (by rw[p7];simp) hld;conv=>whnf
   repeat' (first|((first|(refine CallX.of c1 [(1000001,1000001)] rfl ⟨lr,SV.le_int (by omega),SV.le_int (by omega),lr,lr,trivial⟩ ⟨rr,trivial⟩ rfl rfl ?_;rintro y rout ⟨rfl,rfl⟩;refine⟨rfl,?_⟩)|(refine br_intro ?_ ?_<;>intro hb<;>try simp only[brs]at hb)|omega|refine sAx ?_|decide|assumption)<;>conv=>whnf))
   all_goals first
    |(exfalso;omega)
    |exact⟨(i,j - i,A,V,U,X'++B,A++(V++(U++(X'++B)))),⟨by rw[←p1];simp,p2,by omega,by omega,by omega,by omega,by simp⟩,by show i+(j - i)<i+j;omega,(by exact eAx [(1000001,1000001)])⟩
 · have c1:=wSwpEv g A X' [] Y' B d A.length m i rfl (by show A.length+X'.length+0=m;omega) p3 (by omega) (by rw[p7];simp) hld;conv=>whnf
   repeat' (first|((first|(refine CallX.of c1 [(1000001,1000001)] rfl ⟨lr,SV.le_int (by omega),lr,lr,lr,trivial⟩ ⟨rr,trivial⟩ rfl rfl ?_;rintro y rout ⟨rfl,rfl⟩;refine⟨rfl,?_⟩)|(refine br_intro ?_ ?_<;>intro hb<;>try simp only[brs]at hb)|omega|refine sAx ?_|decide|assumption)<;>conv=>whnf))
   all_goals first
    |(exfalso;omega)
    | (rw[←p1]
       refine .ret _ ?_;conv=>whnf
       exact⟨_,⟨rfl,rfl⟩,rr,trivial⟩)
 · obtain⟨k1,k2,k3⟩:=cut_at X' j (by omega);generalize List.take j X' =U at k1 k2;generalize List.drop j X' =V at k1 k3;subst k1;simp only[List.length_append]at p3 q1;have c1:=wSwpEv g A U V Y' B d A.length m j rfl (by omega) (by omega) p4 (by rw[p7];simp) hld;conv=>whnf
   repeat' (first|((first|(refine CallX.of c1 [(1000001,1000001)] rfl ⟨lr,SV.le_int (by omega),lr,lr,lr,trivial⟩ ⟨rr,trivial⟩ rfl rfl ?_;rintro y rout ⟨rfl,rfl⟩;refine⟨rfl,?_⟩)|(refine br_intro ?_ ?_<;>intro hb<;>try simp only[brs]at hb)|omega|refine sAx ?_|decide|assumption)<;>conv=>whnf))
   all_goals first
    |(exfalso;omega)
    |exact⟨(i - j,j,A++Y',V,U,B,A++(Y'++(V++(U++B)))),⟨by rw[←p1];simp,by simp only[List.length_append];omega,by omega,by omega,by omega,by omega,by simp⟩,by show i - j+j<i+j;omega,(by exact eAx [(1000001,1000001)])⟩
def oQStC196_5:OL:= [(0,[]),(1,[0]),(2,[0,1]),(3,[0]),(4,[0]),(5,rg 5),(6,rg 6),(7,rg 5),(8,rg 5),(9,[]),(10,[])]
def oQStC196_11:OL:= [(0,[]),(1,[0]),(2,[0,1]),(3,[0,1,2]),(4,[0,1,2]),(5,rg 5),(6,rg 6),(7,rg 6),(8,rg 5),(9,rg 5),(10,rg 10),(11,rg 11),(12,rg 10),(13,rg 10),(14,[2,3,4]),(15,[2,3,4]),(16,[]),(17,[])]
def oQStC196_17:OL:= [(0,[]),(1,[0]),(2,[0,1]),(3,[0]),(4,[0]),(5,rg 5),(6,rg 6),(7,rg 5),(8,rg 5),(9,[]),(10,[]),(11,[])]
def oQStC196_23:OL:= [(0,[]),(1,[0]),(2,[0,1]),(3,[0,1,2]),(4,[0,1,2]),(5,rg 5),(6,rg 6),(7,rg 6),(8,rg 5),(9,rg 5),(10,rg 10),(11,rg 11),(12,rg 10),(13,rg 10),(14,[2,3,4]),(15,[2,3,4]),(16,[]),(17,[])]
def oQStC196_35:OL:= [(0,[]),(1,[0]),(2,[0,1]),(3,[0,1,2]),(4,[0,1]),(5,[0]),(6,[0]),(7,rg 7),(8,rg 8),(9,rg 7),(10,rg 7),(11,[]),(12,[]),(13,[])]
abbrev SymEv (g:FuncId)(f:Evn→Evn→Int)(P X Y S c:List Evn)(a m b:Nat):Prop:=
 FSpec Tryz.prog 196 [.buf 1000001,.d (.int .i64 a),.d (.int .i64 m),.d (.int .i64 b),.fn g []] [(1000001,seqB 65 5 evF ev0 c)]
  (fun y r=>y= .tup []∧∃Z,Z.Perm (X++Y)∧Srt f Z∧r= [(1000001,seqB 65 5 evF ev0 (P++(Z++S)))])
theorem wSymAEv (g:FuncId)(f:Evn→Evn→Int)(hf:TOrd f)(P Y S c:List Evn)(x:Evn)(a m b:Nat)(ha:P.length=a)(hm:a+1=m)(hb0:m+Y.length=b)(hc:c=P++([x]++(Y++S)))(hY:Srt f Y)(hl:c.length≤2^20)
 (hcmp:∀p q,p ∈ [x]++Y→q ∈ [x]++Y→FSpec Tryz.prog g [.agg ((evF p).map .d),.agg ((evF q).map .d)] [] (fun y r=>y= .d (.int .i64 (f p q))∧r= [])):SymEv g f P [x] Y S c a m b:=by
 have hl0:=hl;rw[hc]at hl0;simp only[List.length_append,List.length_singleton]at hl0;have hlc:c.length=P.length+(1+Y.length)+S.length:=by rw[hc];simp only[List.length_append,List.length_singleton];omega
 have gx:c.getD (a:Int).toNat ev0=x:=by rw[hc,getD_win (by omega) (by simp only[List.length_singleton];omega),show(a:Int).toNat - P.length=0 by omega];rfl
 have gy:∀k,m≤k→k<b→c.getD k ev0=Y.getD (k - m) ev0:=fun k h1 h2=>by
  rw[hc,←List.append_assoc,getD_win (by simp only[List.length_append,List.length_singleton];omega) (by simp only[List.length_append,List.length_singleton];omega)];congr 1
  simp only[List.length_append,List.length_singleton];omega
 refine spec_of hT (C:= []) Tryz.func196 rfl Tryz.call196 rfl rfl rfl ?_;conv=>whnf
 repeat' (first|((first|(refine br_intro ?_ ?_<;>intro hb<;>try simp only[brs]at hb)|refine rAx hT 5 oQStC196_5 ?_|refine rAx hT 11 oQStC196_11 ?_|refine rAx hT 17 oQStC196_17 ?_|refine rAx hT 23 oQStC196_23 ?_|refine rAx hT 35 oQStC196_35 ?_|omega|refine sAx ?_|decide|assumption)<;>conv=>whnf))
 all_goals try(exfalso;omega)
 refine LoopX.rule hT (C:= []) (ι:=Nat×Nat) (fun(i,j)=>m≤i∧i≤j∧j≤b∧(i - m=0∨f (Y.getD (i - m - 1) ev0) x≤0)∧(j - m=Y.length∨f x (Y.getD (j - m) ev0)≤0))
  (fun(i,j)=>mkSt [(0,.buf 1000001),(1,.d (.int .i64 a)),(4,.fn g []),(10,.d (.int .i64 i)),(11,.d (.int .i64 j))] [(1000001,seqB 65 5 evF ev0 c)])
  (fun(i,j)=>j - i) (m,b) ⟨Nat.le_refl _,by show m≤b;omega,Nat.le_refl _,.inl (by show m - m=0;omega),.inl (by show b - m=_;omega)⟩ (by exact eAx [(1000001,1000001)]) ?_
 rintro⟨i,j⟩ ⟨p1,p2,p3,p4,p5⟩;try dsimp only at p1 p2 p3 p4 p5
 rcases Nat.lt_or_ge i j with q|q
 · obtain⟨M,hM⟩:∃M,M=(i+j)/2:=⟨_,rfl⟩;have hh:=half2 i j (by omega) p2;rw[←hM]at hh;have gM:c.getD (M:Int).toNat ev0=Y.getD (M - m) ev0:=by rw[Int.toNat_natCast];exact gy M (by omega) (by omega)
   have mM:Y.getD (M - m) ev0 ∈ [x]++Y:=List.mem_append_right _ (getD_mem (by omega));conv=>whnf
   repeat' (first|(refine⟨rfl,?_⟩;conv=>whnf)|(rw[hh];conv=>whnf)|((first|(refine CallX.of (hcmp (Y.getD (M - m) ev0) x mM (by simp)) [] rfl ⟨by rw[←gM];exact lr,by rw[←gx];exact lr,trivial⟩ trivial rfl rfl ?_;rintro y rout ⟨rfl,rfl⟩;refine⟨rfl,?_⟩)|(refine br_intro ?_ ?_<;>intro hb<;>try simp only[brs]at hb)|refine rAx hT 5 oQStC196_5 ?_|refine rAx hT 11 oQStC196_11 ?_|refine rAx hT 17 oQStC196_17 ?_|refine rAx hT 23 oQStC196_23 ?_|refine rAx hT 35 oQStC196_35 ?_|omega|refine sAx ?_|decide|assumption)<;>conv=>whnf))
   all_goals try(exfalso;omega)
   · exact⟨(M+1,j),⟨by show m≤M+1;omega,by show M+1≤j;omega,p3,.inr (by show f (Y.getD (M+1 - m - 1) _) _≤0;rw[show M+1 - m - 1=M - m by omega];omega),p5⟩,by show j - (M+1)<j - i;omega,(by exact eAx [(1000001,1000001)])⟩
   · exact⟨(i,M),⟨p1,by show i≤M;omega,by show M≤b;omega,p4,.inr (by show f _ (Y.getD (M - m) _)≤0;rw[hf.sw];omega)⟩,by show M - i<j - i;omega,(by exact eAx [(1000001,1000001)])⟩
 · have hij:i=j:=by omega
   subst hij;obtain⟨k1,k2,k3⟩:=cut_at Y (i - m) (by omega);have s1:=srt_below hf hY (x:=x) (d:=ev0) (t:=i - m) (by omega) p4;have s2:=srt_above hf hY (x:=x) (d:=ev0) (t:=i - m) p5;generalize List.take (i - m) Y=Y1 at k1 k2 s1;generalize List.drop (i - m) Y=Y2 at k1 k3 s2;subst k1;have sZ:=srt_ins hY s1 s2;conv=>whnf
   repeat' (first|((first|(refine br_intro ?_ ?_<;>intro hb<;>try simp only[brs]at hb)|refine rAx hT 5 oQStC196_5 ?_|refine rAx hT 11 oQStC196_11 ?_|refine rAx hT 17 oQStC196_17 ?_|refine rAx hT 23 oQStC196_23 ?_|refine rAx hT 35 oQStC196_35 ?_|omega|refine sAx ?_|decide|assumption)<;>conv=>whnf))
   all_goals try(exfalso;omega)
   refine LoopX.rule hT (C:= []) (ι:=Nat×List Evn×List Evn×List Evn) (fun(k,A,B,c)=>A++B=Y1∧A.length+a=k∧c=P++(A++(x::(B++(Y2++S)))))
    (fun(k,_,_,c)=>mkSt [(0,.buf 1000001),(10,.d (.int .i64 i)),(13,.d (.int .i64 k))] [(1000001,seqB 65 5 evF ev0 c)])
    (fun(_,_,B,_)=>B.length) (a,[],Y1,c) ⟨rfl,by simp,by rw[hc];simp⟩ (by exact eAx [(1000001,1000001)]) ?_
   rintro⟨k,A,B,d⟩ ⟨r1,r2,r3⟩;have r4:A.length+B.length=Y1.length:=by rw[←r1,List.length_append]
   have hld:d.length=c.length:=by rw[r3,hc,←r1];simp only[List.length_append,List.length_cons,List.length_nil];omega
   cases B with
   | nil=>
     rw[List.append_nil]at r1;simp only[List.length_nil]at r4;conv=>whnf
     repeat' (first|((first|(refine br_intro ?_ ?_<;>intro hb<;>try simp only[brs]at hb)|refine rAx hT 5 oQStC196_5 ?_|refine rAx hT 11 oQStC196_11 ?_|refine rAx hT 17 oQStC196_17 ?_|refine rAx hT 23 oQStC196_23 ?_|refine rAx hT 35 oQStC196_35 ?_|omega|refine sAx ?_|decide|assumption)<;>conv=>whnf))
     all_goals try(exfalso;omega)
     refine .ret _ ?_;conv=>whnf
     exact⟨_,⟨rfl,Y1++x::Y2,List.perm_middle,sZ,rfl⟩,by rw[r3,r1];simp only[List.append_assoc,List.cons_append,List.nil_append];exact rr,trivial⟩
   | cons y B=>
     simp only[List.length_cons]at r4;obtain⟨g1,g2,g3⟩:=swp_at (P++A) [] (B++(Y2++S)) x y ev0;have hc':d=(P++A)++x::([]++y::(B++(Y2++S))):=by rw[r3];simp
     have i1:(k:Int).toNat=(P++A).length:=by rw[List.length_append];omega
     have i2:((k:Int)+1).toNat=(P++A).length+1+([]:List Evn).length:=by simp only[List.length_append,List.length_nil];omega
     rw[←hc',←i1]at g1;rw[←hc',←i2]at g2;rw[←hc',←i2,←i1]at g3;conv=>whnf
     repeat' (first|((first|(refine br_intro ?_ ?_<;>intro hb<;>try simp only[brs]at hb)|refine rAx hT 5 oQStC196_5 ?_|refine rAx hT 11 oQStC196_11 ?_|refine rAx hT 17 oQStC196_17 ?_|refine rAx hT 23 oQStC196_23 ?_|refine rAx hT 35 oQStC196_35 ?_|omega|refine sAx ?_|decide|assumption)<;>conv=>whnf))
     all_goals try(exfalso;omega)
     refine⟨(k+1,A++ [y],B,(d.set (k:Int).toNat (d.getD ((k:Int)+1).toNat ev0)).set ((k:Int)+1).toNat (d.getD (k:Int).toNat ev0)),⟨by rw[←r1];simp,by simp only[List.length_append,List.length_singleton];omega,by rw[g1,g2,g3];simp⟩,by show B.length<(y::B).length;simp,Entails.mk' [(1000001,1000001)] rfl rfl ⟨lr,lr,SV.le_int (by omega),trivial⟩ ⟨Res.le_put2 (fun _=>rfl) (fun _=>rfl),trivial⟩⟩
theorem wSymBEv (g:FuncId)(f:Evn→Evn→Int)(hf:TOrd f)(P X S c:List Evn)(x:Evn)(a m b:Nat)(ha:P.length=a)(hm:a+X.length=m)(hX2:2≤X.length)(hb0:m+1=b)(hc:c=P++(X++([x]++S)))(hX:Srt f X)(hl:c.length≤2^20)
 (hcmp:∀p q,p ∈ X++ [x]→q ∈ X++ [x]→FSpec Tryz.prog g [.agg ((evF p).map .d),.agg ((evF q).map .d)] [] (fun y r=>y= .d (.int .i64 (f p q))∧r= [])):SymEv g f P X [x] S c a m b:=by
 have hl0:=hl;rw[hc]at hl0;simp only[List.length_append,List.length_singleton]at hl0;have hlc:c.length=P.length+(X.length+1)+S.length:=by rw[hc];simp only[List.length_append,List.length_singleton];omega
 have gx:c.getD (m:Int).toNat ev0=x:=by rw[hc,←List.append_assoc,getD_win (by simp only[List.length_append];omega) (by simp only[List.length_append,List.length_singleton];omega),show(m:Int).toNat - (P++X).length=0 by simp only[List.length_append];omega];rfl
 have gy:∀k,a≤k→k<m→c.getD k ev0=X.getD (k - a) ev0:=fun k h1 h2=>by
  rw[hc,getD_win (by omega) (by omega),ha]
 refine spec_of hT (C:= []) Tryz.func196 rfl Tryz.call196 rfl rfl rfl ?_;conv=>whnf
 repeat' (first|((first|(refine br_intro ?_ ?_<;>intro hb<;>try simp only[brs]at hb)|refine rAx hT 5 oQStC196_5 ?_|refine rAx hT 11 oQStC196_11 ?_|refine rAx hT 17 oQStC196_17 ?_|refine rAx hT 23 oQStC196_23 ?_|refine rAx hT 35 oQStC196_35 ?_|omega|refine sAx ?_|decide|assumption)<;>conv=>whnf))
 all_goals try(exfalso;omega)
 refine LoopX.rule hT (C:= []) (ι:=Nat×Nat) (fun(i,j)=>a≤i∧i≤j∧j≤m∧(i - a=0∨f (X.getD (i - a - 1) ev0) x≤0)∧(j - a=X.length∨f x (X.getD (j - a) ev0)≤0))
  (fun(i,j)=>mkSt [(0,.buf 1000001),(2,.d (.int .i64 m)),(4,.fn g []),(14,.d (.int .i64 i)),(15,.d (.int .i64 j))] [(1000001,seqB 65 5 evF ev0 c)])
  (fun(i,j)=>j - i) (a,m) ⟨Nat.le_refl _,by show a≤m;omega,Nat.le_refl _,.inl (by show a - a=0;omega),.inl (by show m - a=_;omega)⟩ (by exact eAx [(1000001,1000001)]) ?_
 rintro⟨i,j⟩ ⟨p1,p2,p3,p4,p5⟩;try dsimp only at p1 p2 p3 p4 p5
 rcases Nat.lt_or_ge i j with q|q
 · obtain⟨M,hM⟩:∃M,M=(i+j)/2:=⟨_,rfl⟩;have hh:=half2 i j (by omega) p2;rw[←hM]at hh;have gM:c.getD (M:Int).toNat ev0=X.getD (M - a) ev0:=by rw[Int.toNat_natCast];exact gy M (by omega) (by omega)
   have mM:X.getD (M - a) ev0 ∈ X++ [x]:=List.mem_append_left _ (getD_mem (by omega));conv=>whnf
   repeat' (first|(refine⟨rfl,?_⟩;conv=>whnf)|(rw[hh];conv=>whnf)|((first|(refine CallX.of (hcmp x (X.getD (M - a) ev0) (by simp) mM) [] rfl ⟨by rw[←gx];exact lr,by rw[←gM];exact lr,trivial⟩ trivial rfl rfl ?_;rintro y rout ⟨rfl,rfl⟩;refine⟨rfl,?_⟩)|(refine br_intro ?_ ?_<;>intro hb<;>try simp only[brs]at hb)|refine rAx hT 5 oQStC196_5 ?_|refine rAx hT 11 oQStC196_11 ?_|refine rAx hT 17 oQStC196_17 ?_|refine rAx hT 23 oQStC196_23 ?_|refine rAx hT 35 oQStC196_35 ?_|omega|refine sAx ?_|decide|assumption)<;>conv=>whnf))
   all_goals try(exfalso;omega)
   · exact⟨(M+1,j),⟨by show a≤M+1;omega,by show M+1≤j;omega,p3,.inr (by show f (X.getD (M+1 - a - 1) _) _≤0;rw[show M+1 - a - 1=M - a by omega,hf.sw];omega),p5⟩,by show j - (M+1)<j - i;omega,(by exact eAx [(1000001,1000001)])⟩
   · exact⟨(i,M),⟨p1,by show i≤M;omega,by show M≤m;omega,p4,.inr (by show f _ (X.getD (M - a) _)≤0;omega)⟩,by show M - i<j - i;omega,(by exact eAx [(1000001,1000001)])⟩
 · have hij:i=j:=by omega
   subst hij;obtain⟨k1,k2,k3⟩:=cut_at X (i - a) (by omega);have s1:=srt_below hf hX (x:=x) (d:=ev0) (t:=i - a) (by omega) p4;have s2:=srt_above hf hX (x:=x) (d:=ev0) (t:=i - a) p5;generalize List.take (i - a) X=Y1 at k1 k2 s1;generalize List.drop (i - a) X=Y2 at k1 k3 s2;subst k1;have sZ:=srt_ins hX s1 s2;simp only[List.length_append]at hm hl0 k3;conv=>whnf
   repeat' (first|((first|(refine br_intro ?_ ?_<;>intro hb<;>try simp only[brs]at hb)|refine rAx hT 5 oQStC196_5 ?_|refine rAx hT 11 oQStC196_11 ?_|refine rAx hT 17 oQStC196_17 ?_|refine rAx hT 23 oQStC196_23 ?_|refine rAx hT 35 oQStC196_35 ?_|omega|refine sAx ?_|decide|assumption)<;>conv=>whnf))
   all_goals try(exfalso;omega)
   refine LoopX.rule hT (C:= []) (ι:=Nat×List Evn×List Evn×List Evn) (fun(k,A,B,c)=>A.reverse++B=Y2∧A.length+i=k∧c=P++(Y1++(A.reverse++(x::(B++S)))))
    (fun(k,_,_,c)=>mkSt [(0,.buf 1000001),(14,.d (.int .i64 i)),(17,.d (.int .i64 k))] [(1000001,seqB 65 5 evF ev0 c)])
    (fun(_,A,_,_)=>A.length) (m,Y2.reverse,[],c) ⟨by simp,by show Y2.reverse.length+i=m;rw[List.length_reverse];omega,by rw[hc];simp⟩ (by exact eAx [(1000001,1000001)]) ?_
   rintro⟨k,A,B,d⟩ ⟨r1,r2,r3⟩;have r4:A.length+B.length=Y2.length:=by rw[←r1,List.length_append,List.length_reverse]
   have hld:d.length=c.length:=by rw[r3,hc,←r1];simp only[List.length_append,List.length_cons,List.length_nil,List.length_reverse];omega
   cases A with
   | nil=>
     rw[List.reverse_nil,List.nil_append]at r1;simp only[List.length_nil]at r4 r2;conv=>whnf
     repeat' (first|((first|(refine br_intro ?_ ?_<;>intro hb<;>try simp only[brs]at hb)|refine rAx hT 5 oQStC196_5 ?_|refine rAx hT 11 oQStC196_11 ?_|refine rAx hT 17 oQStC196_17 ?_|refine rAx hT 23 oQStC196_23 ?_|refine rAx hT 35 oQStC196_35 ?_|omega|refine sAx ?_|decide|assumption)<;>conv=>whnf))
     all_goals try(exfalso;omega)
     refine .ret _ ?_;conv=>whnf
     exact⟨_,⟨rfl,Y1++x::Y2,by rw[List.append_assoc];exact List.Perm.append_left Y1 (List.perm_append_singleton x Y2).symm,sZ,rfl⟩,by rw[r3,r1];simp only[List.append_assoc,List.cons_append,List.nil_append,List.reverse_nil];exact rr,trivial⟩
   | cons y A=>
     simp only[List.length_cons]at r4 r2;obtain⟨g1,g2,g3⟩:=swp_at (P++(Y1++A.reverse)) [] (B++S) y x ev0;have hc':d=(P++(Y1++A.reverse))++y::([]++x::(B++S)):=by rw[r3];simp
     have i1:((k:Int) - 1).toNat=(P++(Y1++A.reverse)).length:=by simp only[List.length_append,List.length_reverse];omega
     have i2:(k:Int).toNat=(P++(Y1++A.reverse)).length+1+([]:List Evn).length:=by simp only[List.length_append,List.length_nil,List.length_reverse];omega
     rw[←hc',←i1]at g1;rw[←hc',←i2]at g2;rw[←hc',←i2,←i1]at g3;conv=>whnf
     repeat' (first|((first|(refine br_intro ?_ ?_<;>intro hb<;>try simp only[brs]at hb)|refine rAx hT 5 oQStC196_5 ?_|refine rAx hT 11 oQStC196_11 ?_|refine rAx hT 17 oQStC196_17 ?_|refine rAx hT 23 oQStC196_23 ?_|refine rAx hT 35 oQStC196_35 ?_|omega|refine sAx ?_|decide|assumption)<;>conv=>whnf))
     all_goals try(exfalso;omega)
     refine⟨(k - 1,A,y::B,(d.set (k:Int).toNat (d.getD ((k:Int) - 1).toNat ev0)).set ((k:Int) - 1).toNat (d.getD (k:Int).toNat ev0)),⟨by rw[←r1];simp,by omega,?_⟩,by show A.length<(y::A).length;simp,Entails.mk' [(1000001,1000001)] rfl rfl ⟨lr,lr,SV.le_int (by omega),trivial⟩ ⟨Res.le_put2 (fun _=>rfl) (fun _=>rfl),trivial⟩⟩;rw[List.set_comm _ _ (by omega),g1,g2,g3];simp
def oQStD196_5:List (Nat×List Nat):= [(0,[]),(1,[0]),(2,[0,1]),(3,[0]),(4,[0]),(5,[0,1,2,3,4]),(6,[0,1,2,3,4,5]),(7,[0,1,2,3,4]),(8,[0,1,2,3,4]),(9,[]),(10,[])]
def oQStD196_11:List (Nat×List Nat):= [(0,[]),(1,[0]),(2,[0,1]),(3,[0,1,2]),(4,[0,1,2]),(5,[0,1,2,3,4]),(6,[0,1,2,3,4,5]),(7,[0,1,2,3,4,5]),(8,[0,1,2,3,4]),(9,[0,1,2,3,4]),(10,[0,1,2,3,4,5,6,7,8,9]),(11,[0,1,2,3,4,5,6,7,8,9,10]),(12,[0,1,2,3,4,5,6,7,8,9]),(13,[0,1,2,3,4,5,6,7,8,9]),(14,[2,3,4]),(15,[2,3,4]),(16,[]),(17,[])]
def oQStD196_17:List (Nat×List Nat):= [(0,[]),(1,[0]),(2,[0,1]),(3,[0]),(4,[0]),(5,[0,1,2,3,4]),(6,[0,1,2,3,4,5]),(7,[0,1,2,3,4]),(8,[0,1,2,3,4]),(9,[]),(10,[]),(11,[])]
def oQStD196_23:List (Nat×List Nat):= [(0,[]),(1,[0]),(2,[0,1]),(3,[0,1,2]),(4,[0,1,2]),(5,[0,1,2,3,4]),(6,[0,1,2,3,4,5]),(7,[0,1,2,3,4,5]),(8,[0,1,2,3,4]),(9,[0,1,2,3,4]),(10,[0,1,2,3,4,5,6,7,8,9]),(11,[0,1,2,3,4,5,6,7,8,9,10]),(12,[0,1,2,3,4,5,6,7,8,9]),(13,[0,1,2,3,4,5,6,7,8,9]),(14,[2,3,4]),(15,[2,3,4]),(16,[]),(17,[])]
def oQStD196_35:List (Nat×List Nat):= [(0,[]),(1,[0]),(2,[0,1]),(3,[0,1,2]),(4,[0,1]),(5,[0]),(6,[0]),(7,[0,1,2,3,4,5,6]),(8,[0,1,2,3,4,5,6,7]),(9,[0,1,2,3,4,5,6]),(10,[0,1,2,3,4,5,6]),(11,[]),(12,[]),(13,[])]
set_option maxHeartbeats 4000000 in
theorem wSymCEv (g:FuncId)(f:Evn→Evn→Int)(hf:TOrd f)(P X Y S c:List Evn)(a m b:Nat)(ha:P.length=a)(hm:a+X.length=m)(hb0:m+Y.length=b)(hc:c=P++(X++(Y++S)))(hX2:2≤X.length)(hY2:2≤Y.length)(hX:Srt f X)(hY:Srt f Y)(hl:c.length≤2^20)
 (hcmp:∀p q,p ∈ X++Y→q ∈ X++Y→FSpec Tryz.prog g [.agg ((evF p).map .d),.agg ((evF q).map .d)] [] (fun y r=>y= .d (.int .i64 (f p q))∧r= []))
 (ih:∀ (P X' Y' S c:List Evn) (a m b:Nat),P.length=a→a+X'.length=m→m+Y'.length=b→c=P++(X'++(Y'++S))→1≤X'.length→1≤Y'.length→X'.length+Y'.length<X.length+Y.length→Srt f X'→Srt f Y'→c.length≤2^20→(∀p ∈ X'++Y',p ∈ X++Y)→SymEv g f P X' Y' S c a m b):SymEv g f P X Y S c a m b:=by
 have hl0:=hl
 rw[hc]at hl0
 simp only[List.length_append]at hl0
 have hlc:c.length=P.length+(X.length+Y.length)+S.length:=by rw[hc];simp only[List.length_append];omega
 have gx:∀k,a≤k→k<m→c.getD k ev0=X.getD (k - a) ev0:=fun k h1 h2=>by
  rw[hc,getD_win (by omega) (by omega),ha]
 have gy:∀k,m≤k→k<b→c.getD k ev0=Y.getD (k - m) ev0:=fun k h1 h2=>by
  rw[hc,←List.append_assoc,getD_win (by simp only[List.length_append];omega) (by simp only[List.length_append];omega)]
  congr 1
  simp only[List.length_append];omega
 obtain⟨Md,hMd⟩:∃Md,Md=(a+b)/2:=⟨_,rfl⟩
 have hh0:=half2 a b (by omega) (by omega)
 rw[←hMd]at hh0
 obtain⟨s0,r0,h01,h02⟩:∃s0 r0:Nat,(Md<m→s0=Md+m - b∧r0=Md)∧(m≤Md→s0=a∧r0=m):=by
  by_cases q:Md<m
  · exact⟨Md+m - b,Md,fun _=>⟨rfl,rfl⟩,fun h=>by omega⟩
  · exact⟨a,m,fun h=>by omega,fun _=>⟨rfl,rfl⟩⟩
 have h03:s0≤r0∧a≤s0∧r0≤m∧r0≤Md:=by
  rcases Nat.lt_or_ge Md m with q|q
  · have:=h01 q;omega
  · have:=h02 q;omega
 obtain⟨h03,h04,h05,h06⟩:=h03
 refine spec_of hT (C:= []) Tryz.func196 rfl Tryz.call196 rfl rfl rfl ?_
 conv=>whnf
 repeat' (first|(refine⟨rfl,?_⟩;conv=>whnf)|(rw[hh0];conv=>whnf)|(refine br_intro ?_ ?_<;>intro hb<;>(try simp only[brs]at hb)<;>conv=>whnf)|(refine RegX.rule (id:=5) hT rfl [] oQStD196_5 (by decide+kernel) ?_;conv=>whnf)|(refine RegX.rule (id:=11) hT rfl [] oQStD196_11 (by decide+kernel) ?_;conv=>whnf)|(refine RegX.rule (id:=17) hT rfl [] oQStD196_17 (by decide+kernel) ?_;conv=>whnf)|(refine RegX.rule (id:=23) hT rfl [] oQStD196_23 (by decide+kernel) ?_;conv=>whnf)|(refine RegX.rule (id:=35) hT rfl [] oQStD196_35 (by decide+kernel) ?_;conv=>whnf)|omega|(refine And.intro ?_ ?_;((try dsimp only);first|omega|(refine szA rfl ?_;omega)|(refine szB rfl ?_;omega)|(unfold inI64;omega)|exact rfl|(simp only[List.toList_toArray,List.length_cons,List.length_nil];omega)|(simp only[lns]at*;omega)|decide|(unfold inI64;decide));conv=>whnf)|decide|assumption)
 all_goals try(exfalso;omega)
 all_goals
  refine LoopX.rule hT (C:= []) (ι:=Nat×Nat) (fun(s,r)=>s0≤s∧s≤r∧r≤r0∧(s=s0∨f (X.getD (s - a - 1) ev0) (Y.getD (Md - s) ev0)≤0)∧(r=r0∨f (Y.getD (Md - r - 1) ev0) (X.getD (r - a) ev0)≤0))
   (fun(s,r)=>mkSt [(0,.buf 1000001),(1,.d (.int .i64 a)),(2,.d (.int .i64 m)),(3,.d (.int .i64 b)),(4,.fn g []),(18,.d (.int .i64 Md)),(19,.d (.int .i64 ((Md+m:Nat):Int))),(20,.d (.int .i64 s)),(21,.d (.int .i64 r)),(22,.d (.int .i64 ((Md+m - 1:Nat):Int)))] [(1000001,seqB 65 5 evF ev0 c)])
   (fun(s,r)=>r - s) (s0,r0) ⟨Nat.le_refl _,h03,Nat.le_refl _,.inl rfl,.inl rfl⟩ (by(refine Entails.mk' [(1000001,1000001)] rfl rfl ?_ ?_<;>repeat' (first|exact True.intro|exact lr|exact rr|exact SV.le_int (by omega)|exact SV.le_any _|refine And.intro ?_ ?_));done) ?_
  rintro⟨s,r⟩ ⟨p1,p2,p3,p4,p5⟩
  try dsimp only at p1 p2 p3 p4 p5
  rcases Nat.lt_or_ge s r with q|q
  · obtain⟨C,hC⟩:∃C,C=(s+r)/2:=⟨_,rfl⟩
    have hh:=half2 s r (by omega) p2
    rw[←hC]at hh
    have hCb:s≤C∧C<r:=by omega
    have gM:c.getD (C:Int).toNat ev0=X.getD (C - a) ev0:=by rw[Int.toNat_natCast];exact gx C (by omega) (by omega)
    have gN:c.getD (((Md+m - 1:Nat):Int) - (C:Int)).toNat ev0=Y.getD (Md - C - 1) ev0:=by
     rw[show(((Md+m - 1:Nat):Int) - (C:Int)).toNat=Md+m - 1 - C by omega,gy _ (by omega) (by rcases Nat.lt_or_ge Md m with t|t;(have:=h01 t;omega);(have:=h02 t;omega))]
     congr 1;omega
    have mM:X.getD (C - a) ev0 ∈ X++Y:=List.mem_append_left _ (getD_mem (by omega))
    have mN:Y.getD (Md - C - 1) ev0 ∈ X++Y:=List.mem_append_right _ (getD_mem (by rcases Nat.lt_or_ge Md m with t|t;(have:=h01 t;omega);(have:=h02 t;omega)))
    have hbd:Md+m - 1 - C<b:=by rcases Nat.lt_or_ge Md m with t|t;(have:=h01 t;omega);(have:=h02 t;omega)
    conv=>whnf
    repeat' (first|(refine⟨rfl,?_⟩;conv=>whnf)|(rw[hh];conv=>whnf)|(refine CallX.of (hcmp (Y.getD (Md - C - 1) ev0) (X.getD (C - a) ev0) mN mM) [] rfl ⟨by rw[←gN];exact lr,by rw[←gM];exact lr,trivial⟩ trivial rfl rfl ?_;rintro y rout ⟨rfl,rfl⟩;refine⟨rfl,?_⟩;conv=>whnf)|(refine br_intro ?_ ?_<;>intro hb<;>(try simp only[brs]at hb)<;>conv=>whnf)|(refine RegX.rule (id:=5) hT rfl [] oQStD196_5 (by decide+kernel) ?_;conv=>whnf)|(refine RegX.rule (id:=11) hT rfl [] oQStD196_11 (by decide+kernel) ?_;conv=>whnf)|(refine RegX.rule (id:=17) hT rfl [] oQStD196_17 (by decide+kernel) ?_;conv=>whnf)|(refine RegX.rule (id:=23) hT rfl [] oQStD196_23 (by decide+kernel) ?_;conv=>whnf)|(refine RegX.rule (id:=35) hT rfl [] oQStD196_35 (by decide+kernel) ?_;conv=>whnf)|omega|(refine And.intro ?_ ?_;((try dsimp only);first|omega|(refine szA rfl ?_;omega)|(refine szB rfl ?_;omega)|(unfold inI64;omega)|exact rfl|(simp only[List.toList_toArray,List.length_cons,List.length_nil];omega)|(simp only[lns]at*;omega)|decide|(unfold inI64;decide));conv=>whnf)|decide|assumption)
    all_goals try(exfalso;omega)
    · exact⟨(C+1,r),⟨by show s0≤C+1;omega,by show C+1≤r;omega,p3,.inr (by show f (X.getD (C+1 - a - 1) _) (Y.getD (Md - (C+1)) _)≤0;rw[show C+1 - a - 1=C - a by omega,show Md - (C+1)=Md - C - 1 by omega,hf.sw];omega),p5⟩,by show r - (C+1)<r - s;omega,(by(refine Entails.mk' [(1000001,1000001)] rfl rfl ?_ ?_<;>repeat' (first|exact True.intro|exact lr|exact rr|exact SV.le_int (by omega)|exact SV.le_any _|refine And.intro ?_ ?_));done)⟩
    · exact⟨(s,C),⟨p1,by show s≤C;omega,by show C≤r0;omega,p4,.inr (by show f (Y.getD (Md - C - 1) _) (X.getD (C - a) _)≤0;omega)⟩,by show C - s<r - s;omega,(by(refine Entails.mk' [(1000001,1000001)] rfl rfl ?_ ?_<;>repeat' (first|exact True.intro|exact lr|exact rr|exact SV.le_int (by omega)|exact SV.le_any _|refine And.intro ?_ ?_));done)⟩
  · have hij:s=r:=by omega
    subst hij
    have hsY:Md - s≤Y.length:=by rcases Nat.lt_or_ge Md m with t|t;(have:=h01 t;omega);(have:=h02 t;omega)
    have cr1:=srt_cross hf hX hY (d:=ev0) (s:=s - a) (e:=Md - s) (by omega) (by
     rcases p4 with t|t
     · rcases Nat.lt_or_ge Md m with u|u
       · have:=h01 u;exact .inr (.inl (by omega))
       · have:=h02 u;exact .inl (by omega)
     · exact .inr (.inr t))
    have cr2:=srt_cross hf hY hX (d:=ev0) (s:=Md - s) (e:=s - a) hsY (by
     rcases p5 with t|t
     · rcases Nat.lt_or_ge Md m with u|u
       · have:=h01 u;exact .inl (by omega)
       · have:=h02 u;exact .inr (.inl (by omega))
     · exact .inr (.inr t))
    obtain⟨k1,k2,k3⟩:=cut_at X (s - a) (by omega)
    obtain⟨k4,k5,k6⟩:=cut_at Y (Md - s) hsY
    generalize List.take (s - a) X=X1 at k1 k2 cr1
    generalize List.drop (s - a) X=X2 at k1 k3 cr2
    generalize List.take (Md - s) Y=Y1 at k4 k5 cr2
    generalize List.drop (Md - s) Y=Y2 at k4 k6 cr1
    clear gx gy p4 p5
    have hX':=hX
    have hY':=hY
    rw[←k1]at hX'
    rw[←k4]at hY'
    have J:=fun{Z1 Z2:List Evn} (p1:Z1.Perm (X1++Y1)) (s1:Srt f Z1) (p2:Z2.Perm (X2++Y2)) (s2:Srt f Z2)=>srt_join p1 s1 p2 s2 hX' hY' cr1 cr2
    rw[k1,k4]at J
    have uX:=List.pairwise_append.1 hX'
    have uY:=List.pairwise_append.1 hY'
    have sL:X1.length=0∨Y1.length=0→Srt f (X1++Y1):=fun h=>by
     rcases h with h|h
     · rw[List.length_eq_zero_iff.1 h];exact uY.1
     · rw[List.length_eq_zero_iff.1 h,List.append_nil];exact uX.1
    have sR:X2.length=0∨Y2.length=0→Srt f (X2++Y2):=fun h=>by
     rcases h with h|h
     · rw[List.length_eq_zero_iff.1 h];exact uY.2.1
     · rw[List.length_eq_zero_iff.1 h,List.append_nil];exact uX.2.1
    have eC:X2.length=0∨Y1.length=0→c=P++(X1++(Y1++(X2++(Y2++S)))):=fun h=>by
     rw[hc,←k1,←k4]
     rcases h with h|h<;>rw[List.length_eq_zero_iff.1 h]<;>simp
    have eR:c=(P++X1)++(X2++(Y1++(Y2++S))):=by rw[hc,←k1,←k4];simp
    have hlc2:P.length+X1.length+X2.length+Y1.length+Y2.length+S.length≤2^20:=by omega
    have mL:∀p ∈ X1++Y1,p ∈ X++Y:=fun p hp=>by
     rw[←k1,←k4];rcases List.mem_append.1 hp with t|t<;>simp[t]
    have mR:∀p ∈ X2++Y2,p ∈ X++Y:=fun p hp=>by
     rw[←k1,←k4];rcases List.mem_append.1 hp with t|t<;>simp[t]
    conv=>whnf
    repeat' (first|(refine CallX.of (wRotEv g (P++X1) X2 Y1 (Y2++S) c s m (Md+m - s) (by rw[List.length_append];omega) (by omega) (by omega) eR (by omega) (by omega) hl) [(1000001,1000001)] rfl ⟨lr,lr,lr,SV.le_int (by omega),lr,trivial⟩ ⟨rr,trivial⟩ rfl rfl ?_;rintro y rout ⟨rfl,rfl⟩;refine⟨rfl,?_⟩;conv=>whnf)|(refine CallX.of (ih P X1 Y1 (X2++(Y2++S)) ((P++X1)++(Y1++(X2++(Y2++S)))) a s Md ha (by omega) (by omega) (by simp) (by omega) (by omega) (by omega) uX.1 uY.1 (by simp only[List.length_append];omega) mL) [(1000001,1000001)] rfl ⟨lr,lr,lr,lr,lr,trivial⟩ ⟨rr,trivial⟩ rfl rfl ?_;rintro y rout ⟨rfl,Z1,z1,z2,rfl⟩;refine⟨rfl,?_⟩;conv=>whnf)|(refine CallX.of (ih P X1 Y1 (X2++(Y2++S)) c a s Md ha (by omega) (by omega) (eC (by omega)) (by omega) (by omega) (by omega) uX.1 uY.1 hl mL) [(1000001,1000001)] rfl ⟨lr,lr,lr,lr,lr,trivial⟩ ⟨rr,trivial⟩ rfl rfl ?_;rintro y rout ⟨rfl,Z1,z1,z2,rfl⟩;refine⟨rfl,?_⟩;conv=>whnf)|(refine CallX.of (ih (P++Z1) X2 Y2 S (P++(Z1++(X2++(Y2++S)))) Md (Md+m - s) b (by rw[List.length_append,z1.length_eq,List.length_append];omega) (by omega) (by omega) (by simp) (by omega) (by omega) (by omega) uX.2.1 uY.2.1 (by have:=z1.length_eq;simp only[List.length_append]at this ⊢;omega) mR) [(1000001,1000001)] rfl ⟨lr,lr,SV.le_int (by omega),lr,lr,trivial⟩ ⟨rr,trivial⟩ rfl rfl ?_;rintro y rout ⟨rfl,Z2,z3,z4,rfl⟩;refine⟨rfl,?_⟩;conv=>whnf)|(refine CallX.of (ih (P++(X1++Y1)) X2 Y2 S ((P++X1)++(Y1++(X2++(Y2++S)))) Md (Md+m - s) b (by simp only[List.length_append];omega) (by omega) (by omega) (by simp) (by omega) (by omega) (by omega) uX.2.1 uY.2.1 (by simp only[List.length_append];omega) mR) [(1000001,1000001)] rfl ⟨lr,lr,SV.le_int (by omega),lr,lr,trivial⟩ ⟨rr,trivial⟩ rfl rfl ?_;rintro y rout ⟨rfl,Z2,z3,z4,rfl⟩;refine⟨rfl,?_⟩;conv=>whnf)|(refine CallX.of (ih (P++(X1++Y1)) X2 Y2 S c Md (Md+m - s) b (by simp only[List.length_append];omega) (by omega) (by omega) (by rw[eC (by omega)];simp) (by omega) (by omega) (by omega) uX.2.1 uY.2.1 hl mR) [(1000001,1000001)] rfl ⟨lr,lr,SV.le_int (by omega),lr,lr,trivial⟩ ⟨rr,trivial⟩ rfl rfl ?_;rintro y rout ⟨rfl,Z2,z3,z4,rfl⟩;refine⟨rfl,?_⟩;conv=>whnf)|(refine br_intro ?_ ?_<;>intro hb<;>(try simp only[brs]at hb)<;>conv=>whnf)|(refine RegX.rule (id:=5) hT rfl [] oQStD196_5 (by decide+kernel) ?_;conv=>whnf)|(refine RegX.rule (id:=11) hT rfl [] oQStD196_11 (by decide+kernel) ?_;conv=>whnf)|(refine RegX.rule (id:=17) hT rfl [] oQStD196_17 (by decide+kernel) ?_;conv=>whnf)|(refine RegX.rule (id:=23) hT rfl [] oQStD196_23 (by decide+kernel) ?_;conv=>whnf)|(refine RegX.rule (id:=35) hT rfl [] oQStD196_35 (by decide+kernel) ?_;conv=>whnf)|omega|(refine And.intro ?_ ?_;((try dsimp only);first|omega|(refine szA rfl ?_;omega)|(refine szB rfl ?_;omega)|(unfold inI64;omega)|exact rfl|(simp only[List.toList_toArray,List.length_cons,List.length_nil];omega)|(simp only[lns]at*;omega)|decide|(unfold inI64;decide));conv=>whnf)|decide|assumption)
    all_goals try(exfalso;omega)
    all_goals
     refine .ret _ ?_
     conv=>whnf
     first
      |exact⟨_,⟨rfl,Z1++Z2,(J z1 z2 z3 z4).1,(J z1 z2 z3 z4).2,rfl⟩,by simp only[List.append_assoc];exact rr,trivial⟩
      |exact⟨_,⟨rfl,Z1++(X2++Y2),(J z1 z2 (List.Perm.refl _) (sR (by omega))).1,(J z1 z2 (List.Perm.refl _) (sR (by omega))).2,rfl⟩,by simp only[List.append_assoc];exact rr,trivial⟩
      |exact⟨_,⟨rfl,(X1++Y1)++Z2,(J (List.Perm.refl _) (sL (by omega)) z3 z4).1,(J (List.Perm.refl _) (sL (by omega)) z3 z4).2,rfl⟩,by simp only[List.append_assoc];exact rr,trivial⟩
      |exact⟨_,⟨rfl,(X1++Y1)++(X2++Y2),(J (List.Perm.refl _) (sL (by omega)) (List.Perm.refl _) (sR (by omega))).1,(J (List.Perm.refl _) (sL (by omega)) (List.Perm.refl _) (sR (by omega))).2,rfl⟩,by simp only[List.append_assoc];exact rr,trivial⟩
      |exact⟨_,⟨rfl,(X1++Y1)++(X2++Y2),(J (List.Perm.refl _) (sL (by omega)) (List.Perm.refl _) (sR (by omega))).1,(J (List.Perm.refl _) (sL (by omega)) (List.Perm.refl _) (sR (by omega))).2,rfl⟩,by rw[eC (by omega)];simp only[List.append_assoc];exact rr,trivial⟩
theorem wSymEv (g:FuncId)(f:Evn→Evn→Int)(hf:TOrd f):∀ (n:Nat) (P X Y S c:List Evn) (a m b:Nat),X.length+Y.length≤n→P.length=a→a+X.length=m→m+Y.length=b→c=P++(X++(Y++S))→1≤X.length→1≤Y.length→Srt f X→Srt f Y→c.length≤2^20→
 (∀p q,p ∈ X++Y→q ∈ X++Y→FSpec Tryz.prog g [.agg ((evF p).map .d),.agg ((evF q).map .d)] [] (fun y r=>y= .d (.int .i64 (f p q))∧r= []))→SymEv g f P X Y S c a m b
 |0=>fun P X Y S c a m b h0 _ _ _ _ hX1 _ _ _ _ _=>by omega
 | n +1=>fun P X Y S c a m b h0 ha hm hb0 hc hX1 hY1 hX hY hl hcmp=>by
   by_cases q:X.length=1
   · obtain⟨x,rfl⟩:=List.length_eq_one_iff.1 q
     exact wSymAEv g f hf P Y S c x a m b ha hm hb0 hc hY hl hcmp
   by_cases r:Y.length=1
   · obtain⟨x,rfl⟩:=List.length_eq_one_iff.1 r
     exact wSymBEv g f hf P X S c x a m b ha hm (by omega) hb0 hc hX hl hcmp
   exact wSymCEv g f hf P X Y S c a m b ha hm hb0 hc (by omega) (by omega) hX hY hl hcmp fun P X' Y' S c a m b k1 k2 k3 k4 k5 k6 k7 k8 k9 k10 k11=>
    wSymEv g f hf n P X' Y' S c a m b (by omega) k1 k2 k3 k4 k5 k6 k8 k9 k10 fun p q hp hq=>hcmp p q (k11 p hp) (k11 q hq)
def oQStE195_4:OL:= [(0,[]),(1,[0]),(2,[]),(3,[]),(4,[]),(5,[4]),(6,[4,5]),(7,[4]),(8,[4]),(9,[4,5,6,7,8]),(10,[4,5,6,7,8,9]),(11,[4,5,6,7,8,9]),(12,[4,5,6,7,8]),(13,[4,5,6,7,8]),(14,[]),(15,[]),(16,[])]
def oQStE195_6:OL:= [(0,[]),(1,[0]),(2,[0,1]),(3,[0,1,2]),(4,[0,1,2]),(5,rg 5),(6,rg 6),(7,rg 6),(8,rg 5),(9,rg 5),(10,rg 10),(11,rg 11),(12,rg 10),(13,rg 10),(14,[2,3,4]),(15,[2,3,4]),(16,[]),(17,[])]
def oQStE114_1:OL:= [(0,[]),(1,[]),(2,[0,1]),(3,[0,1]),(5,rg 4),(6,rg 4),(7,[0,1,2,3,5,6]),(8,[0,1,2,3,5,6]),(4,[5,6,7,8]),(9,[]),(10,[]),(11,[]),(12,[])]
theorem wInsREv (g:FuncId)(cmp:Evn→Evn→Int)(P l S c0:List Evn)(a b0:Nat)(ha:P.length=a)(hbb:a+l.length=b0)(hc0:c0=P++(l++S))(hl:c0.length≤2^20)
 (hcmp:∀p q,p ∈ l→q ∈ l→FSpec Tryz.prog g [.agg ((evF p).map .d),.agg ((evF q).map .d)] [] (fun y r=>y= .d (.int .i64 (cmp p q))∧r= [])):
 FSpec Tryz.prog 195 [.buf 1000001,.d (.int .i64 a),.d (.int .i64 b0),.fn g []] [(1000001,seqB 65 5 evF ev0 c0)]
  (fun y r=>y= .tup []∧r= [(1000001,seqB 65 5 evF ev0 (P++(isort cmp l++S)))]):=by
 have hl0:=hl;rw[hc0]at hl0;simp only[List.length_append]at hl0;refine spec_of hT (C:= []) Tryz.func195 rfl Tryz.call195 rfl rfl rfl ?_;conv=>whnf
 repeat' (first|((first|(refine br_intro ?_ ?_<;>intro hb<;>try simp only[brs]at hb)|refine rAx hT 4 oQStE195_4 ?_|refine rAx hT 6 oQStE195_6 ?_|omega|refine sAx ?_|decide|assumption)<;>conv=>whnf))
 refine LoopX.rule hT (C:= []) (ι:=Nat×Nat×List Evn) (fun(k,i,c)=>k=a+i∧1≤i∧(i≤l.length∨i=1)∧c=P++((isortR cmp (l.take i)).reverse++(l.drop i++S)))
  (fun(k,_,c)=>mkSt [(0,.buf 1000001),(1,.d (.int .i64 a)),(2,.d (.int .i64 b0)),(3,.fn g []),(8,.d (.int .i64 k))] [(1000001,seqB 65 5 evF ev0 c)])
  (fun(_,i,_)=>l.length - i) (a+1,1,c0) ⟨rfl,by simp,by simp,by rw[hc0];cases l with|nil=>rfl|cons x l=>simp[isortR,insR]⟩ (by exact eAx [(1000001,1000001)]) ?_
 rintro⟨k,i,c⟩ ⟨p0,p1,p2,p3⟩;try dsimp only at p0 p1 p2 p3
 rcases Nat.lt_or_ge i l.length with hi|hi
 · have hx:l[i] ∈ l:=List.getElem_mem hi;have hmem:∀y ∈ isortR cmp (l.take i),y ∈ l:=fun y hy=>List.mem_of_mem_take ((isortR_mem cmp _).1 hy)
   have hlr:(isortR cmp (l.take i)).length=i:=by rw[isortR_length,List.length_take];omega
   have hc:c=P++((isortR cmp (l.take i)).reverse++(l[i]::([]++(l.drop (i+1)++S)))):=by rw[p3,List.drop_eq_getElem_cons hi];rfl
   have hlc:c.length=P.length+l.length+S.length:=by rw[hc];simp only[List.length_append,List.length_cons,List.length_reverse,List.length_drop,List.length_nil,hlr];omega
   conv=>whnf
   repeat' (first|((first|(refine br_intro ?_ ?_<;>intro hb<;>try simp only[brs]at hb)|refine rAx hT 4 oQStE195_4 ?_|refine rAx hT 6 oQStE195_6 ?_|omega|refine sAx ?_|decide|assumption)<;>conv=>whnf))
   all_goals try(exfalso;omega)
   refine LoopX.rule hT (C:= []) (ι:=Nat×List Evn×List Evn×List Evn) (fun(j,A,B,b)=>j=a+A.length∧insR cmp l[i] (isortR cmp (l.take i))=B.reverse++insR cmp l[i] A∧A.length+B.length=i∧(∀y ∈ A,y ∈ l)∧b=P++(A.reverse++(l[i]::(B++(l.drop (i+1)++S)))))
    (fun(j,_,_,b)=>mkSt [(0,.buf 1000001),(1,.d (.int .i64 a)),(2,.d (.int .i64 b0)),(3,.fn g []),(8,.d (.int .i64 k)),(9,.d (.int .i64 j))] [(1000001,seqB 65 5 evF ev0 b)])
    (fun(_,A,_,_)=>A.length) (k,isortR cmp (l.take i),[],c) ⟨by omega,by simp,by simpa using hlr,hmem,hc⟩ (by exact eAx [(1000001,1000001)]) ?_
   rintro⟨j,A,B,b⟩ ⟨q0,q1,q2,q3,hbd⟩;try dsimp only at q0 q1 q2 q3 hbd
   have hlen:b.length=P.length+l.length+S.length:=by rw[hbd];simp only[List.length_append,List.length_cons,List.length_reverse,List.length_drop];omega
   have hfin:A= []∨(∃y A',A=y::A'∧0≤cmp l[i] y)→b=P++((isortR cmp (l.take (i+1))).reverse++(l.drop (i+1)++S)):=fun h=>by
    have e:isortR cmp (l.take (i+1))=B.reverse++l[i]::A:=by
     rw[take_snoc hi,isortR_snoc,q1];rcases h with rfl|⟨y,A',rfl,h⟩
     · rfl
     · rw[insR,if_neg (by omega)]
    rw[e,hbd];simp
   cases A with
   | nil=>
     simp only[List.length_nil]at q0 q2;conv=>whnf
     repeat' (first|((first|(refine br_intro ?_ ?_<;>intro hb<;>try simp only[brs]at hb)|refine rAx hT 4 oQStE195_4 ?_|refine rAx hT 6 oQStE195_6 ?_|omega|refine sAx ?_|decide|assumption)<;>conv=>whnf))
     all_goals try(exfalso;omega)
     exact⟨(k+1,i+1,b),⟨by show k+1=a+(i+1);omega,by show 1≤i+1;omega,.inl hi,hfin (.inl rfl)⟩,by show l.length - (i+1)<l.length - i;omega,(by exact eAx [(1000001,1000001)])⟩
   | cons y A=>
     simp only[List.length_cons]at q0 q2;obtain⟨g1,g2,g3⟩:=swp_at (P++A.reverse) [] (B++(l.drop (i+1)++S)) y l[i] ev0;have hc':b=(P++A.reverse)++y::([]++l[i]::(B++(l.drop (i+1)++S))):=by rw[hbd];simp
     have i1:((j:Int) - 1).toNat=(P++A.reverse).length:=by simp only[List.length_append,List.length_reverse];omega
     have i2:(j:Int).toNat=(P++A.reverse).length+1+([]:List Evn).length:=by simp only[List.length_append,List.length_nil,List.length_reverse];omega
     rw[←hc',←i1]at g1;rw[←hc',←i2]at g2;rw[←hc',←i2,←i1]at g3;conv=>whnf
     repeat' (first|((first|(refine CallX.of (hcmp l[i] y hx (q3 y (by simp))) [] rfl ⟨by rw[←g2];exact lr,by rw[←g1];exact lr,trivial⟩ trivial rfl rfl ?_;rintro x rout ⟨rfl,rfl⟩;refine⟨rfl,?_⟩)|(refine br_intro ?_ ?_<;>intro hb<;>try simp only[brs]at hb)|refine rAx hT 4 oQStE195_4 ?_|refine rAx hT 6 oQStE195_6 ?_|omega|refine sAx ?_|decide|assumption)<;>conv=>whnf))
     all_goals try(exfalso;omega)
     · refine⟨(j - 1,A,y::B,(b.set (j:Int).toNat (b.getD ((j:Int) - 1).toNat ev0)).set ((j:Int) - 1).toNat (b.getD (j:Int).toNat ev0)),⟨by omega,by rw[q1];simp[insR,hb],by simp only[List.length_cons];omega,fun z hz=>q3 z (by simp[hz]),?_⟩,by show A.length<(y::A).length;simp,Entails.mk' [(1000001,1000001)] rfl rfl ⟨lr,lr,lr,lr,lr,SV.le_int (by omega),trivial⟩ ⟨Res.le_put2 (fun _=>rfl) (fun _=>rfl),trivial⟩⟩;rw[List.set_comm _ _ (by omega),g1,g2,g3];simp
     · exact⟨(k+1,i+1,b),⟨by show k+1=a+(i+1);omega,by show 1≤i+1;omega,.inl hi,hfin (.inr ⟨y,A,rfl,by omega⟩)⟩,by show l.length - (i+1)<l.length - i;omega,(by exact eAx [(1000001,1000001)])⟩
 · conv=>whnf
   repeat' (first|((first|(refine br_intro ?_ ?_<;>intro hb<;>try simp only[brs]at hb)|refine rAx hT 4 oQStE195_4 ?_|refine rAx hT 6 oQStE195_6 ?_|omega|refine sAx ?_|decide|assumption)<;>conv=>whnf))
   all_goals try(exfalso;omega)
   refine .ret _ ?_;conv=>whnf
   have e1:c=P++(isort cmp l++S):=by
    rw[p3,List.take_of_length_le (by omega),List.drop_eq_nil_iff.2 (by omega),List.nil_append];rfl
   subst e1;exact⟨_,⟨rfl,rfl⟩,rr,trivial⟩
set_option maxHeartbeats 4000000 in
theorem wStabEv (g:FuncId)(f:Evn→Evn→Int)(hf:TOrd f)(l:List Evn)(hl:l.length≤2^19)
 (hcmp:∀p q,p ∈ l→q ∈ l→FSpec Tryz.prog g [.agg ((evF p).map .d),.agg ((evF q).map .d)] [] (fun y r=>y= .d (.int .i64 (f p q))∧r= [])):
 FSpec Tryz.prog 156 [.buf 1000001,.d (.int .i64 l.length),.fn g []] [(1000001,seqB 65 5 evF ev0 l)]
  (fun y r=>y= .tup []∧∃Z,Z.Perm l∧Srt f Z∧r= [(1000001,seqB 65 5 evF ev0 Z)]):=by
 obtain⟨n,hn⟩:∃n,n=l.length:=⟨_,rfl⟩;rw[←hn]at hl ⊢;refine spec_of hT (C:= []) Tryz.func156 rfl Tryz.call156 rfl rfl rfl ?_;conv=>whnf
 repeat' (first|((first|(refine br_intro ?_ ?_<;>intro hb<;>try simp only[brs]at hb)|omega|refine sAx ?_|decide|assumption)<;>conv=>whnf))
 refine LoopX.rule hT (C:= []) (ι:=Nat×List (List Evn)×List Evn×List Evn) (fun(a,D,R,c)=>(∀x ∈ D,x.length=20∧Srt f x)∧D.flatten.length=a∧c=D.flatten++R∧c.Perm l)
  (fun(a,_,_,c)=>mkSt [(0,.buf 1000001),(1,.d (.int .i64 n)),(2,.fn g []),(6,.d (.int .i64 20)),(7,.d (.int .i64 a)),(8,.d (.int .i64 ((a+20:Nat):Int)))] [(1000001,seqB 65 5 evF ev0 c)])
  (fun(_,_,R,_)=>R.length) (0,[],l,l) ⟨by simp,rfl,rfl,List.Perm.refl _⟩ (by exact eAx [(1000001,1000001)]) ?_
 rintro⟨a,D,R,c⟩ ⟨p1,p2,p3,p4⟩;try dsimp only at p1 p2 p3 p4
 have q1:a+R.length=n:=by rw[hn,←p4.length_eq,p3,List.length_append,p2]
 rcases Nat.lt_or_ge R.length 20 with q|q
 · have hcI:=wInsREv g f D.flatten R [] c a n p2 q1 (by rw[p3,List.append_nil]) (by rw[p4.length_eq];omega) (fun x y hx hy=>hcmp x y (p4.mem_iff.1 (by rw[p3];simp[hx])) (p4.mem_iff.1 (by rw[p3];simp[hy])));rw[List.append_nil]at hcI
   have p4':(D.flatten++isort f R).Perm l:=by
    refine List.Perm.trans ?_ p4;rw[p3];exact List.Perm.append_left _ (isort_perm f R)
   have hR:(isort f R).length=R.length:=(isort_perm f R).length_eq;have sR:=isort_srt hf R;generalize isort f R=T at hcI p4' hR sR;conv=>whnf
   repeat' (first|((first|(refine oAx hcI [(1000001,1000001)] ?_;rintro y rout ⟨rfl,rfl⟩;refine⟨rfl,?_⟩)|(refine br_intro ?_ ?_<;>intro hb<;>try simp only[brs]at hb)|omega|refine sAx ?_|decide|assumption)<;>conv=>whnf))
   all_goals try(exfalso;omega)
   refine LoopX.rule hT (C:= []) (ι:=Nat×List (List Evn)×List Evn×List Evn) (fun(bs,D,t,c)=>20≤bs∧bs≤2*n+20∧(∀x ∈ D,x.length=bs∧Srt f x)∧t.length<bs∧Srt f t∧c=D.flatten++t∧c.Perm l)
    (fun(bs,_,_,c)=>mkSt [(0,.buf 1000001),(1,.d (.int .i64 n)),(2,.fn g []),(6,.d (.int .i64 bs))] [(1000001,seqB 65 5 evF ev0 c)])
    (fun(bs,_,_,_)=>2*n - bs) (20,D,T,D.flatten++T) ⟨Nat.le_refl _,by show 20≤2*n+20;omega,p1,by show T.length<20;omega,sR,rfl,p4'⟩ (by exact eAx [(1000001,1000001)]) ?_
   clear hcI p4' sR hR p1 p2 p3 p4 q1 q;rintro⟨bs,D,t,c⟩ ⟨p1,p2,p3,p4,p5,p6,p7⟩;try dsimp only at p1 p2 p3 p4 p5 p6 p7
   have q1:D.flatten.length+t.length=n:=by rw[hn,←p7.length_eq,p6,List.length_append]
   rcases Nat.lt_or_ge bs n with q|q
   · conv=>whnf
     repeat' (first|((first|(refine br_intro ?_ ?_<;>intro hb<;>try simp only[brs]at hb)|omega|refine sAx ?_|decide|assumption)<;>conv=>whnf))
     all_goals try(exfalso;omega)
     refine LoopX.rule hT (C:= []) (ι:=Nat×List (List Evn)×List (List Evn)×List Evn) (fun(a,E,D,c)=>(∀x ∈ E,x.length=2*bs∧Srt f x)∧(∀x ∈ D,x.length=bs∧Srt f x)∧E.flatten.length=a∧c=E.flatten++(D.flatten++t)∧c.Perm l)
      (fun(a,_,_,c)=>mkSt [(0,.buf 1000001),(1,.d (.int .i64 n)),(2,.fn g []),(6,.d (.int .i64 bs)),(7,.d (.int .i64 a)),(8,.d (.int .i64 ((a+2*bs:Nat):Int)))] [(1000001,seqB 65 5 evF ev0 c)])
      (fun(_,_,D,_)=>D.length) (0,[],D,c) ⟨by simp,p3,rfl,p6,p7⟩ (by exact eAx [(1000001,1000001)]) ?_
     clear p3 p6 p7 q1;rintro⟨a,E,D,c⟩ ⟨r1,r2,r3,r4,r5⟩;try dsimp only at r1 r2 r3 r4 r5
     have q1:a+D.flatten.length+t.length=n:=by rw[hn,←r5.length_eq,r4,List.length_append,List.length_append];omega
     have hlc:c.length≤2^20:=by rw[r5.length_eq];omega
     have hcm:∀p q,p ∈ c→q ∈ c→FSpec Tryz.prog g [.agg ((evF p).map .d),.agg ((evF q).map .d)] [] (fun y r=>y= .d (.int .i64 (f p q))∧r= []):=fun p q hp hq=>hcmp p q (r5.mem_iff.1 hp) (r5.mem_iff.1 hq)
     match D,r2,r4,q1 with
     | [],r2,r4,q1=>
       simp only[List.flatten_nil,List.length_nil,List.nil_append]at q1 r4;conv=>whnf
       repeat' (first|((first|(refine br_intro ?_ ?_<;>intro hb<;>try simp only[brs]at hb)|omega|refine sAx ?_|decide|assumption)<;>conv=>whnf))
       all_goals try(exfalso;omega)
       exact⟨(2*bs,E,t,c),⟨by show 20≤2*bs;omega,by show 2*bs≤2*n+20;omega,r1,by show t.length<2*bs;omega,p5,r4,r5⟩,by show 2*n - 2*bs<2*n - bs;omega,(by exact eAx [(1000001,1000001)])⟩
     | [c1],r2,r4,q1=>
       simp only[List.flatten_cons,List.flatten_nil,List.append_nil]at q1 r4;have k1:=r2 c1 (by simp)
       by_cases ht:t.length=0
       · have et:t= []:=List.length_eq_zero_iff.1 ht;conv=>whnf
         repeat' (first|((first|(refine br_intro ?_ ?_<;>intro hb<;>try simp only[brs]at hb)|omega|refine sAx ?_|decide|assumption)<;>conv=>whnf))
         all_goals try(exfalso;omega)
         exact⟨(2*bs,E,c1,c),⟨by show 20≤2*bs;omega,by show 2*bs≤2*n+20;omega,r1,by show c1.length<2*bs;omega,k1.2,by show c=_;rw[r4,et,List.append_nil],r5⟩,by show 2*n - 2*bs<2*n - bs;omega,(by exact eAx [(1000001,1000001)])⟩
       · have hcS:=wSymEv g f hf (c1.length+t.length) E.flatten c1 t [] c a (a+bs) n (Nat.le_refl _) r3 (by omega) (by omega) (by rw[r4];simp) (by omega) (by omega) k1.2 p5 hlc (fun p q hp hq=>hcm p q (by rw[r4];exact List.mem_append_right _ hp) (by rw[r4];exact List.mem_append_right _ hq));conv=>whnf
         repeat' (first|((first|(refine CallX.of hcS [(1000001,1000001)] rfl ⟨lr,lr,SV.le_int (by omega),lr,lr,trivial⟩ ⟨rr,trivial⟩ rfl rfl ?_;rintro y rout ⟨rfl,Z,z1,z2,rfl⟩;refine⟨rfl,?_⟩)|(refine br_intro ?_ ?_<;>intro hb<;>try simp only[brs]at hb)|omega|refine sAx ?_|decide|assumption)<;>conv=>whnf))
         all_goals try(exfalso;omega)
         have hz:=z1.length_eq;rw[List.length_append]at hz;rw[List.append_nil]at*
         exact⟨(2*bs,E,Z,E.flatten++Z),⟨by show 20≤2*bs;omega,by show 2*bs≤2*n+20;omega,r1,by show Z.length<2*bs;omega,z2,rfl,(List.Perm.append_left _ z1).trans (by rw[←r4];exact r5)⟩,by show 2*n - 2*bs<2*n - bs;omega,(by exact eAx [(1000001,1000001)])⟩
     | c1::c2::D,r2,r4,q1=>
       simp only[List.flatten_cons,List.length_append]at q1;have k1:=r2 c1 (by simp);have k2:=r2 c2 (by simp);have r4':c=E.flatten++(c1++(c2++(D.flatten++t))):=by rw[r4];simp
       have hcS:=wSymEv g f hf (c1.length+c2.length) E.flatten c1 c2 (D.flatten++t) c a (a+bs) (a+2*bs) (Nat.le_refl _) r3 (by omega) (by omega) r4' (by omega) (by omega) k1.2 k2.2 hlc (fun p q hp hq=>hcm p q (by rw[r4'];rcases List.mem_append.1 hp with u|u<;>simp[u]) (by rw[r4'];rcases List.mem_append.1 hq with u|u<;>simp[u]));conv=>whnf
       repeat' (first|((first|(refine CallX.of hcS [(1000001,1000001)] rfl ⟨lr,lr,SV.le_int (by omega),lr,lr,trivial⟩ ⟨rr,trivial⟩ rfl rfl ?_;rintro y rout ⟨rfl,Z,z1,z2,rfl⟩;refine⟨rfl,?_⟩)|(refine br_intro ?_ ?_<;>intro hb<;>try simp only[brs]at hb)|omega|refine sAx ?_|decide|assumption)<;>conv=>whnf))
       all_goals try(exfalso;omega)
       have hz:=z1.length_eq;rw[List.length_append]at hz;refine⟨(a+2*bs,E++ [Z],D,E.flatten++(Z++(D.flatten++t))),⟨fun x hx=> ?_,fun x hx=>r2 x (by simp[hx]),by simp only[List.flatten_append,List.flatten_cons,List.flatten_nil,List.append_nil,List.length_append];omega,by simp,?_⟩,by show D.length<(c1::c2::D).length;simp;omega,(by exact eAx [(1000001,1000001)])⟩
       · rcases List.mem_append.1 hx with u|u
         · exact r1 x u
         · rw[List.mem_singleton]at u;subst u;exact⟨by omega,z2⟩
       · refine List.Perm.trans ?_ r5;rw[r4',←List.append_assoc c1];exact List.Perm.append_left _ (z1.append_right _)
   · conv=>whnf
     repeat' (first|((first|(refine br_intro ?_ ?_<;>intro hb<;>try simp only[brs]at hb)|omega|refine sAx ?_|decide|assumption)<;>conv=>whnf))
     all_goals try(exfalso;omega)
     refine .ret _ ?_;conv=>whnf
     refine⟨_,⟨rfl,c,p7,?_,rfl⟩,rr,trivial⟩
     match D,p3,p6,q1 with
     | [],p3,p6,q1=>rw[p6];exact p5
     | c1::D,p3,p6,q1=>
       have k1:=p3 c1 (by simp);simp only[List.flatten_cons,List.length_append]at q1;have h1:D.flatten= []:=List.length_eq_zero_iff.1 (by omega);have h2:t= []:=List.length_eq_zero_iff.1 (by omega);rw[p6,List.flatten_cons,h1,h2,List.append_nil,List.append_nil];exact k1.2
 · have hT0:(R.take 20).length=20:=by rw[List.length_take];omega
   have hR:R.take 20++R.drop 20=R:=List.take_append_drop 20 R;have hD:(R.drop 20).length=R.length - 20:=List.length_drop ..;generalize R.take 20=R1 at hT0 hR;generalize R.drop 20=R2 at hR hD;subst hR;have hcI:=wInsREv g f D.flatten R1 R2 c a (a+20) p2 (by omega) p3 (by rw[p4.length_eq];omega) (fun x y hx hy=>hcmp x y (p4.mem_iff.1 (by rw[p3];simp[hx])) (p4.mem_iff.1 (by rw[p3];simp[hy])));conv=>whnf
   repeat' (first|((first|(refine oAx hcI [(1000001,1000001)] ?_;rintro y rout ⟨rfl,rfl⟩;refine⟨rfl,?_⟩)|(refine br_intro ?_ ?_<;>intro hb<;>try simp only[brs]at hb)|omega|refine sAx ?_|decide|assumption)<;>conv=>whnf))
   all_goals try(exfalso;omega)
   refine⟨(a+20,D++ [isort f R1],R2,D.flatten++(isort f R1++R2)),⟨fun x hx=> ?_,by simp only[List.flatten_append,List.flatten_cons,List.flatten_nil,List.append_nil,List.length_append,(isort_perm f R1).length_eq];omega,by simp,?_⟩,by show R2.length<(R1++R2).length;rw[List.length_append];omega,(by exact eAx [(1000001,1000001)])⟩
   · rcases List.mem_append.1 hx with u|u
     · exact p1 x u
     · rw[List.mem_singleton]at u;subst u;exact⟨by rw[(isort_perm f R1).length_eq];exact hT0,isort_srt hf R1⟩
   · refine List.Perm.trans ?_ p4;rw[p3];exact List.Perm.append_left _ ((isort_perm f R1).append_right _)
theorem wSStEv (g:FuncId)(f:Evn→Evn→Int)(hf:TOrd f)(l:List Evn)(hl:l.length≤2^19)(hz:∀a ∈ l,∀b ∈ l,f a b=0→a=b)
 (hcmp:∀p q,p ∈ l→q ∈ l→FSpec Tryz.prog g [.agg ((evF p).map .d),.agg ((evF q).map .d)] [] (fun y r=>y= .d (.int .i64 (f p q))∧r= [])):
 FSpec Tryz.prog 113 [.buf 1000001,.fn g []] [(1000001,seqB 65 5 evF ev0 l)]
  (fun y r=>y= .tup []∧r= [(1000001,seqB 65 5 evF ev0 (isort f l))]):=by
 refine spec_of hT (C:= []) Tryz.func113 rfl Tryz.call113 rfl rfl rfl ?_;conv=>whnf
 repeat' (first|((first|(refine oAx (wStabEv g f hf l hl hcmp) [(1000001,1000001)] ?_;rintro y rout ⟨rfl,Z,z1,z2,rfl⟩;refine⟨rfl,?_⟩)|(refine br_intro ?_ ?_<;>intro hb<;>try simp only[brs]at hb)|omega|refine sAx ?_|decide|assumption)<;>conv=>whnf))
 refine .ret _ ?_;conv=>whnf
 rw[sort_one hf hz z1 z2];exact⟨_,⟨rfl,rfl⟩,rr,trivial⟩
def evCmp (a b:Evn):Int:=firstE [cmpI a.tm b.tm,cmpS a.veh b.veh]
theorem evCmp_seq:evCmp=seq2 (fun a b=>cmpI a.tm b.tm) (fun a b=>cmpS a.veh b.veh):=by
 funext a b
 unfold evCmp seq2;simp only[firstE];grind
theorem evCmp_ord:TOrd evCmp:=by
 rw[evCmp_seq];exact(TOrd.int (fun a:Evn=>a.tm)).seq (TOrd.str (fun a:Evn=>a.veh))
theorem evCmp_zero {a b:Evn}(h:evCmp a b=0):a.tm=b.tm∧a.veh=b.veh:=by
 unfold evCmp at h;exact⟨cmpI_zero.1 (firstE_mem h _ (by simp)),cmpS_zero.1 (firstE_mem h _ (by simp))⟩
theorem wEvCmp (a b:Evn):FSpec Tryz.prog 114 [.agg ((evF a).map .d),.agg ((evF b).map .d)] [] (fun x r=>x= .d (.int .i64 (evCmp a b))∧r= []):=by
 refine spec_of hT (C:= []) Tryz.func114 rfl Tryz.call114 rfl rfl rfl ?_;conv=>whnf
 repeat' (first|(refine CallX.exact (s184 _ _) rfl rfl ?_;rotate_right;conv=>whnf)|(refine CallX.exact (s183 _ _) rfl rfl ?_;rotate_right;conv=>whnf)|((first|refine CallX.pure (s182 [_,_] (by simp)) ⟨SV.le_lit (by rfl) (by rfl),trivial⟩ rfl ?_|(refine br_intro ?_ ?_<;>intro hb<;>try simp only[brs]at hb)|refine rAx hT 1 oQStE114_1 ?_|omega|refine sAx ?_|decide|assumption)<;>conv=>whnf))
 refine .ret _ ?_;conv=>whnf
 refine⟨[],⟨?_,rfl⟩,trivial⟩;conv=>lhs;whnf
 rfl
theorem apt_zero {l:List Evn}(h:l.Pairwise fun a b=>¬ (a.veh=b.veh∧a.tm=b.tm)):∀a ∈ l,∀b ∈ l,evCmp a b=0→a=b:=fun a ha b hb e=>by
 obtain⟨e1,e2⟩:=evCmp_zero e;obtain⟨i,hi,rfl⟩:=List.getElem_of_mem ha;obtain⟨j,hj,rfl⟩:=List.getElem_of_mem hb;rcases Nat.lt_trichotomy i j with q|q|q
 · exact absurd ⟨e2,e1⟩ (List.pairwise_iff_getElem.1 h i j hi hj q)
 · subst q;rfl
 · exact absurd ⟨e2.symm,e1.symm⟩ (List.pairwise_iff_getElem.1 h j i hj hi q)
theorem wSortLog (l:List Evn)(hl:l.length≤2^19)(h:l.Pairwise fun a b=>¬ (a.veh=b.veh∧a.tm=b.tm)):FSpec Tryz.prog 113 [.buf 1000001,.fn 114 []] [(1000001,evB l)] (fun y r=>y= .tup []∧r= [(1000001,evB (isort evCmp l))]):=
 wSStEv 114 evCmp evCmp_ord l hl (apt_zero h) fun p q _ _=>wEvCmp p q
def oQOfP67_5:OL:= [(0,[]),(1,[]),(2,[]),(3,[]),(4,rg 4),(5,rg 4),(6,rg 6),(7,rg 6),(8,[])]
def oQOfP67_10:OL:= [(0,[]),(1,[]),(2,[]),(3,[]),(4,rg 4),(5,rg 4),(6,[])]
abbrev offF (h:Hou)(vm:Mp (List UInt8))(sm:Mp Bool)(s:Off)(lg:List Evn):List (Nat×Res):=
 [(22,.cells 114 (houC h++ [.mp 14,.mp 15,.mp 16,.buf 50,.mp 17,.mp 18,.mp 19,.mp 20,.buf 51])),(14,mpS false [.str []] sF1 vm),(15,mpS false [.bool false] bF1 sm),(16,mpS true (ssF ss0) ssF s.sts),(50,evB lg),(17,atM s.ats),(18,mpS true (bkF bk0) bkF s.bks),(19,mpS true (hiO none) hiO s.his),(20,mpS false [.int .i64 0] iF1 s.paid),(51,rfB s.ref)]
set_option maxHeartbeats 16000000 in
theorem wOffice (h:Hou)(hco:clsOk h.flt.cls)(hv:h.flt.veh.length≤2^20)(hs:h.flt.sta.length≤2^20)(l:List Ent)(hl:l.length≤400)(hx:∀x ∈ l,x.words.length≤2^20):
 FSpec Tryz.prog 67 [.agg (houC h),.d (ents l)] [(1000009,KX)] (fun y r=>y= .ptr 22 0∧r=(1000009,KX)::offF h (vmO h.flt.veh) (smO h.flt.sta) (offZ h l) (isort evCmp (offZ h l).log)):=by
 have cF:=fun s hs x hx=>wFollow h hco (vmO h.flt.veh) (smO h.flt.sta) s hs x hx
 obtain⟨V,hV⟩:∃V,V=h.flt.veh:=⟨_,rfl⟩;obtain⟨W,hW⟩:∃W,W=h.flt.sta:=⟨_,rfl⟩;have hZ:=fun i=>offN_I h (vmO V) (smO W) l i
 have hG:=fun i hi e=>offN_good h (vmO V) (smO W) (l:=l) (i:=i) hi e
 have hB:=fun i hi e=>offN_bad h (vmO V) (smO W) (l:=l) (i:=i) hi e
 have hE:offZ h l=offN h (vmO V) (smO W) l l.length:=by rw[hV,hW];rfl
 rw[hE];obtain⟨kA1,nA1,gA1,kA3,nA3,gA3,kB0,nB0,gB0,kB1,nB1,gB1,kB2,nB2,gB2,kB3,nB3,gB3,kB4,nB4,gB4,C0,C1,C2,C3,C4,C5,C6,hH⟩:∃ (kA1 nA1:Nat) (gA1:Nat→List DV) (kA3 nA3:Nat) (gA3:Nat→List DV) (kB0 nB0:Nat) (gB0:Nat→List DV) (kB1 nB1:Nat) (gB1:Nat→List DV) (kB2 nB2:Nat) (gB2:Nat→List DV) (kB3 nB3:Nat) (gB3:Nat→List DV) (kB4 nB4:Nat) (gB4:Nat→List DV) (C0 C1 C2 C3 C4 C5 C6:Int),houC h= [.d (stas W),.d (.ro kA1 nA1 gA1),.d (vehs V),.d (.ro kA3 nA3 gA3),.d (.ro kB0 nB0 gB0),.d (.ro kB1 nB1 gB1),.d (.ro kB2 nB2 gB2),.d (.ro kB3 nB3 gB3),.d (.ro kB4 nB4 gB4),.d (.int .i64 C0),.d (.int .i64 C1),.d (.int .i64 C2),.d (.int .i64 C3),.d (.int .i64 C4),.d (.int .i64 C5),.d (.int .i64 C6)]:=⟨_,_,_,_,_,_,_,_,_,_,_,_,_,_,_,_,_,_,_,_,_,_,_,_,_,_,_,_,by rw[hV,hW];rfl⟩;unfold offF;unfold offR offC offO offCo at cF;rw[hH];rw[hH]at cF;rw[←hV]at hv;rw[←hW]at hs;rw[←hV,←hW]at cF ⊢;have hO0:offN h (vmO V) (smO W) l 0=off0:=rfl;have hR:=fun i=>offN_ref h (vmO V) (smO W) l i
 have hS:=fun s x (e:folE h (vmO V) (smO W) s x≠0)=>fol_same e
 generalize offN h (vmO V) (smO W) l=O at hZ hG hB hO0 hR ⊢;generalize folE h (vmO V) (smO W)=fE at cF hG hB hS;generalize folO h (vmO V) (smO W)=fO at cF hG hS;refine spec_of hT (C:= []) Tryz.func67 rfl Tryz.call67 rfl rfl rfl ?_;conv=>whnf
 repeat' (first|((first|(refine br_intro ?_ ?_<;>intro hb<;>try simp only[brs]at hb)|refine rAx hT 5 oQOfP67_5 ?_|refine rAx hT 10 oQOfP67_10 ?_|omega|refine sAx ?_|decide|assumption)<;>conv=>whnf))
 refine LoopX.rule hT (C:= []) (ι:=Nat) (fun i=>i≤V.length) (fun i=>mkSt [(1,.d (ents l)),(2,.ptr 2 0),(5,.ptr 22 0),(25,.d (vehs V)),(26,.d (.int .i64 V.length)),(27,.d (.int .i64 i))] [(1000009,KX),(2,.cells 42 [.d (stas W),.d (.ro kA1 nA1 gA1),.d (vehs V),.d (.ro kA3 nA3 gA3),.d (.ro kB0 nB0 gB0),.d (.ro kB1 nB1 gB1),.d (.ro kB2 nB2 gB2),.d (.ro kB3 nB3 gB3),.d (.ro kB4 nB4 gB4),.d (.int .i64 C0),.d (.int .i64 C1),.d (.int .i64 C2),.d (.int .i64 C3),.d (.int .i64 C4),.d (.int .i64 C5),.d (.int .i64 C6)]),(22,.cells 114 [.d (stas W),.d (.ro kA1 nA1 gA1),.d (vehs V),.d (.ro kA3 nA3 gA3),.d (.ro kB0 nB0 gB0),.d (.ro kB1 nB1 gB1),.d (.ro kB2 nB2 gB2),.d (.ro kB3 nB3 gB3),.d (.ro kB4 nB4 gB4),.d (.int .i64 C0),.d (.int .i64 C1),.d (.int .i64 C2),.d (.int .i64 C3),.d (.int .i64 C4),.d (.int .i64 C5),.d (.int .i64 C6),.mp 14,.mp 15,.mp 16,.d .nilsl,.mp 17,.mp 18,.mp 19,.mp 20,.d .nilsl]),(14,mpS false [.str []] sF1 (vmO (V.take i))),(15,mpS false [.bool false] bF1 (smO [])),(16,mpS true (ssF ss0) ssF off0.sts),(17,atM off0.ats),(18,mpS true (bkF bk0) bkF off0.bks),(19,mpS true (hiO none) hiO off0.his),(20,mpS false [.int .i64 0] iF1 off0.paid)])
  (fun i=>V.length - i) 0 (Nat.zero_le _) ?_ ?_
 · exact Entails.mk' [(1000009,1000009),(2,2),(22,22),(14,14),(15,15),(16,16),(17,17),(18,18),(19,19),(20,20)] rfl rfl ⟨lr,lr,lr,lr,lr,lr,trivial⟩ ⟨rr,rr,rr,Res.le_map (fun _ _=>⟨rfl,rfl⟩),Res.le_map (fun _ _=>⟨rfl,rfl⟩),Res.le_map (fun _ _=>⟨rfl,rfl⟩),Res.le_map (fun K hK=>by obtain⟨s,n,rfl⟩:=wk_si hK;exact⟨rfl,rfl⟩),Res.le_map (fun _ _=>⟨rfl,rfl⟩),Res.le_map (fun _ _=>⟨rfl,rfl⟩),Res.le_map (fun _ _=>⟨rfl,rfl⟩),trivial⟩
 rintro i hi;have hi:i≤V.length:=hi;have e1:(i:Int).toNat=i:=Int.toNat_natCast i;rcases Nat.lt_or_ge i V.length with hin|hin
 · conv=>whnf
   repeat' (first|((first|(refine br_intro ?_ ?_<;>intro hb<;>try simp only[brs]at hb)|refine rAx hT 5 oQOfP67_5 ?_|refine rAx hT 10 oQOfP67_10 ?_|omega|refine sAx ?_|decide|assumption)<;>conv=>whnf))
   all_goals try(exfalso;omega)
   refine⟨i+1,by show i+1≤_;omega,by show V.length - (i+1)<V.length - i;omega,Entails.mk' [(2,2),(1000009,1000009),(22,22),(14,14),(15,15),(16,16),(17,17),(18,18),(19,19),(20,20)] rfl rfl ⟨lr,lr,lr,lr,lr,SV.le_int (by omega),trivial⟩ ⟨rr,rr,rr,?_,rr,rr,rr,rr,rr,rr,trivial⟩⟩;rw[vmO_succ hin,←e1];exact mpS_put
 have hiV:i=V.length:=by omega
 rw[hiV,List.take_length];clear hin e1 hiV;conv=>whnf
 repeat' (first|((first|(refine br_intro ?_ ?_<;>intro hb<;>try simp only[brs]at hb)|refine rAx hT 5 oQOfP67_5 ?_|refine rAx hT 10 oQOfP67_10 ?_|omega|refine sAx ?_|decide|assumption)<;>conv=>whnf))
 all_goals try(exfalso;omega)
 refine LoopX.rule hT (C:= []) (ι:=Nat) (fun i=>i≤W.length) (fun i=>mkSt [(1,.d (ents l)),(5,.ptr 22 0),(42,.d (stas W)),(43,.d (.int .i64 W.length)),(44,.d (.int .i64 i))] [(1000009,KX),(22,.cells 114 [.d (stas W),.d (.ro kA1 nA1 gA1),.d (vehs V),.d (.ro kA3 nA3 gA3),.d (.ro kB0 nB0 gB0),.d (.ro kB1 nB1 gB1),.d (.ro kB2 nB2 gB2),.d (.ro kB3 nB3 gB3),.d (.ro kB4 nB4 gB4),.d (.int .i64 C0),.d (.int .i64 C1),.d (.int .i64 C2),.d (.int .i64 C3),.d (.int .i64 C4),.d (.int .i64 C5),.d (.int .i64 C6),.mp 14,.mp 15,.mp 16,.d .nilsl,.mp 17,.mp 18,.mp 19,.mp 20,.d .nilsl]),(14,mpS false [.str []] sF1 (vmO V)),(15,mpS false [.bool false] bF1 (smO (W.take i))),(16,mpS true (ssF ss0) ssF off0.sts),(17,atM off0.ats),(18,mpS true (bkF bk0) bkF off0.bks),(19,mpS true (hiO none) hiO off0.his),(20,mpS false [.int .i64 0] iF1 off0.paid)])
  (fun i=>W.length - i) 0 (Nat.zero_le _) ?_ ?_
 · exact Entails.mk' [(1000009,1000009),(22,22),(14,14),(15,15),(16,16),(17,17),(18,18),(19,19),(20,20)] rfl rfl ⟨lr,lr,lr,lr,lr,trivial⟩ ⟨rr,rr,rr,rr,rr,rr,rr,rr,rr,trivial⟩
 rintro i hi;have hi:i≤W.length:=hi;have e1:(i:Int).toNat=i:=Int.toNat_natCast i;rcases Nat.lt_or_ge i W.length with hin|hin
 · conv=>whnf
   repeat' (first|((first|(refine br_intro ?_ ?_<;>intro hb<;>try simp only[brs]at hb)|refine rAx hT 5 oQOfP67_5 ?_|refine rAx hT 10 oQOfP67_10 ?_|omega|refine sAx ?_|decide|assumption)<;>conv=>whnf))
   all_goals try(exfalso;omega)
   refine⟨i+1,by show i+1≤_;omega,by show W.length - (i+1)<W.length - i;omega,Entails.mk' [(1000009,1000009),(22,22),(14,14),(15,15),(16,16),(17,17),(18,18),(19,19),(20,20)] rfl rfl ⟨lr,lr,lr,lr,SV.le_int (by omega),trivial⟩ ⟨rr,rr,rr,?_,rr,rr,rr,rr,rr,trivial⟩⟩;rw[smO_succ hin,←e1];exact mpS_put
 have hiW:i=W.length:=by omega
 rw[hiW,List.take_length];clear hin e1 hiW;conv=>whnf
 repeat' (first|((first|(refine br_intro ?_ ?_<;>intro hb<;>try simp only[brs]at hb)|refine rAx hT 5 oQOfP67_5 ?_|refine rAx hT 10 oQOfP67_10 ?_|omega|refine sAx ?_|decide|assumption)<;>conv=>whnf))
 all_goals try(exfalso;omega)
 refine LoopX.rule hT (C:= []) (ι:=Nat×Off) (fun(i,s)=>i≤l.length∧s=O i) (fun(i,s)=>mkSt [(5,.ptr 22 0),(55,.d (ents l)),(56,.d (.int .i64 l.length)),(57,.d (.int .i64 i))] [(1000009,KX),(22,.cells 114 [.d (stas W),.d (.ro kA1 nA1 gA1),.d (vehs V),.d (.ro kA3 nA3 gA3),.d (.ro kB0 nB0 gB0),.d (.ro kB1 nB1 gB1),.d (.ro kB2 nB2 gB2),.d (.ro kB3 nB3 gB3),.d (.ro kB4 nB4 gB4),.d (.int .i64 C0),.d (.int .i64 C1),.d (.int .i64 C2),.d (.int .i64 C3),.d (.int .i64 C4),.d (.int .i64 C5),.d (.int .i64 C6),.mp 14,.mp 15,.mp 16,.buf 50,.mp 17,.mp 18,.mp 19,.mp 20,.buf 51]),(14,mpS false [.str []] sF1 (vmO V)),(15,mpS false [.bool false] bF1 (smO W)),(16,mpS true (ssF ss0) ssF s.sts),(50,evB s.log),(17,atM s.ats),(18,mpS true (bkF bk0) bkF s.bks),(19,mpS true (hiO none) hiO s.his),(20,mpS false [.int .i64 0] iF1 s.paid),(51,rfB s.ref)])
  (fun(i,_)=>l.length - i) (0,off0) ⟨Nat.zero_le _,hO0.symm⟩ ?_ ?_
 · refine(Entails.nilCell 22 50 65 5 19 (rowF evF ev0 []) rfl rfl rfl (by decide) rfl).trans ((Entails.nilCell 22 51 55 2 24 (rowF rfF rf0 []) rfl rfl rfl (by decide) rfl).trans ?_);exact Entails.mk' [(50,50),(51,51),(1000009,1000009),(22,22),(14,14),(15,15),(16,16),(17,17),(18,18),(19,19),(20,20)] rfl rfl ⟨lr,lr,lr,lr,trivial⟩ ⟨rr,rr,rr,rr,rr,rr,rr,rr,rr,rr,rr,trivial⟩
 rintro⟨i,s⟩ ⟨hi,hsO⟩;have hi:i≤l.length:=hi;have hsO:s=O i:=hsO;have e1:(i:Int).toNat=i:=Int.toNat_natCast i;have kI:=hZ i hi;have kR:=hR i;rw[←hsO]at kI kR;rcases Nat.lt_or_ge i l.length with hin|hin
 · have hxi:=hx _ (getD_mem (x:=en0) hin);have cX:=cF s (kI.ok (by omega) (by omega)) (l.getD (i:Int).toNat en0) (by rw[e1];exact hxi)
   by_cases e:fE s (l.getD (i:Int).toNat en0)=0
   · have hN:=hG i hin (by rw[←hsO,←e1];exact e);rw[←hsO]at hN;rw[e]at cX;conv=>whnf
     repeat' (first|((first|(refine oAx cX [(1000009,1000009),(1000001,22),(1000002,14),(1000003,15),(1000004,16),(1000005,50),(1000006,17),(1000007,18),(1000008,19),(1000010,20),(1000011,51),(50,60)] ?_;rintro y rout ⟨rfl,rfl⟩;refine⟨rfl,?_⟩)|(refine br_intro ?_ ?_<;>intro hb<;>try simp only[brs]at hb)|refine rAx hT 5 oQOfP67_5 ?_|refine rAx hT 10 oQOfP67_10 ?_|omega|refine sAx ?_|decide|assumption)<;>conv=>whnf))
     all_goals try(exfalso;omega)
     exact⟨(i+1,fO s (l.getD (i:Int).toNat en0)),⟨by show i+1≤_;omega,by show _=O (i+1);rw[hN,e1]⟩,by show l.length - (i+1)<l.length - i;omega,Entails.mk' [(50,60),(51,51),(1000009,1000009),(22,22),(14,14),(15,15),(16,16),(17,17),(18,18),(19,19),(20,20)] rfl rfl ⟨lr,lr,lr,SV.le_int (by omega),trivial⟩ ⟨rr,rr,rr,rr,rr,rr,rr,rr,rr,rr,rr,trivial⟩⟩
   · have hN:=hB i hin (by rw[←hsO,←e1];exact e);rw[←hsO]at hN;rw[hS _ _ e]at cX;conv=>whnf
     repeat' (first|((first|(refine oAx cX [(1000009,1000009),(1000001,22),(1000002,14),(1000003,15),(1000004,16),(1000005,50),(1000006,17),(1000007,18),(1000008,19),(1000010,20),(1000011,51),(50,60)] ?_;rintro y rout ⟨rfl,rfl⟩;refine⟨rfl,?_⟩)|(refine br_intro ?_ ?_<;>intro hb<;>try simp only[brs]at hb)|refine rAx hT 5 oQOfP67_5 ?_|refine rAx hT 10 oQOfP67_10 ?_|omega|refine sAx ?_|decide|assumption)<;>conv=>whnf))
     all_goals try(exfalso;omega)
     all_goals try(exfalso;exact e (by rw[e1];assumption))
     refine⟨(i+1,{s with ref:=s.ref++ [⟨i,fE s (l.getD (i:Int).toNat en0)⟩]}),⟨by show i+1≤_;omega,by show _=O (i+1);rw[hN,e1]⟩,by show l.length - (i+1)<l.length - i;omega,Entails.mk' [(50,60),(51,76),(1000009,1000009),(22,22),(14,14),(15,15),(16,16),(17,17),(18,18),(19,19),(20,20)] rfl rfl ⟨lr,lr,lr,SV.le_int (by omega),trivial⟩ ⟨rr,rr,rr,rr,rr,rr,rr,rr,rr,rr,?_,trivial⟩⟩;exact Res.le_snocF (x:=(⟨i,fE s (l.getD (i:Int).toNat en0)⟩:Rfs)) rfl
 · have hil:i=l.length:=by omega
   have c113:=wSortLog s.log (by have:=kI.log;omega) kI.apt;conv=>whnf
   repeat' (first|((first|(refine oAx c113 [(1000001,50)] ?_;rintro y rout ⟨rfl,rfl⟩;refine⟨rfl,?_⟩)|(refine br_intro ?_ ?_<;>intro hb<;>try simp only[brs]at hb)|refine rAx hT 5 oQOfP67_5 ?_|refine rAx hT 10 oQOfP67_10 ?_|omega|refine sAx ?_|decide|assumption)<;>conv=>whnf))
   all_goals try(exfalso;omega)
   refine .ret _ ?_;conv=>whnf
   rw[←hil,←hsO];exact⟨_,⟨rfl,rfl⟩,rr,rr,rr,rr,rr,rr,rr,rr,rr,rr,rr,trivial⟩
end Go.Proofs.YtophabkpfpbadaaGreatDoor
